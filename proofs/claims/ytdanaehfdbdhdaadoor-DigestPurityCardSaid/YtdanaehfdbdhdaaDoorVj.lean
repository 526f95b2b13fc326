/- The encoding of a list, as the reference writes it. -/
import Derived.Test.YtdanaehfdbdhdaaDoorVd
import Derived.Test.YtdanaehfdbdhdaaDoorVf
namespace Go.Proofs.YtdanaehfdbdhdaaDoor
set_option linter.unusedVariables false
open Go.Ab Go.RowKit

/-- A list of byte slices, as data. -/
def lists (ps : List (List UInt8)) : List Cell := ps.map fun p => .ds p.length (.u8s p)
@[simp] theorem lists_length (ps : List (List UInt8)) : (lists ps).length = ps.length := by simp [lists]
theorem get_lists {ps : List (List UInt8)} {i : Nat} (h : i < ps.length) : (Cont.cells (lists ps)).get i = .ds (ps.getD i []).length (.u8s (ps.getD i [])) := by
  simp [Cont.get, lists, List.getD_eq_getElem?_getD, h]
theorem allTo_app {f : Cell → Cell → Prop} : ∀ {l l' m m' : List Cell}, allTo f l l' → allTo f m m' → allTo f (l ++ m) (l' ++ m')
  | [], [], _, _, _, h => h
  | _ :: _, _ :: _, _, _, h, k => ⟨h.1, allTo_app h.2 k⟩
  | [], _ :: _, _, _, h, _ => h.elim
  | _ :: _, [], _, _, h, _ => h.elim
theorem allTo_lists {ty : Nat → Ty} {H : Heap} {is : List Nat} {ρ : Nat → Nat} : ∀ (ps : List (List UInt8)), allTo (Cell.to ty H is ρ) (lists ps) (lists ps)
  | [] => trivial
  | p :: ps => ⟨⟨rfl, rfl⟩, allTo_lists ps⟩

def le64 (n : UInt64) : List UInt8 := (List.range 8).map fun i => (shr64 n (8 * i)).toUInt8
def encOne (p : List UInt8) : List UInt8 := le64 p.length.toUInt64 ++ p
def encTo (ps : List (List UInt8)) (k : Nat) : List UInt8 := (ps.take k).flatMap encOne
def encode (ps : List (List UInt8)) : List UInt8 := ps.flatMap encOne
theorem encOne_length (p : List UInt8) : (encOne p).length = 8 + p.length := by simp [encOne, le64]
theorem encTo_step (ps : List (List UInt8)) (k : Nat) (h : k < ps.length) : encTo ps k ++ encOne (ps.getD k []) = encTo ps (k + 1) := by
  rw [encTo, encTo, List.take_add_one, List.flatMap_append, List.getElem?_eq_getElem h, Option.toList_some, List.flatMap_singleton, List.getD_eq_getElem?_getD, List.getElem?_eq_getElem h, Option.getD_some]
theorem encTo_full (ps : List (List UInt8)) : encTo ps ps.length = encode ps := by rw [encTo, List.take_length, encode]
theorem le64_step (n : UInt64) (j : Nat) (h : j < 8) : (le64 n).take j ++ [(shr64 n (8 * j)).toUInt8] = (le64 n).take (j + 1) := by
  have e : (le64 n)[j]? = some (shr64 n (8 * j)).toUInt8 := by simp [le64, h]
  rw [List.take_add_one, e, Option.toList_some]
theorem le64_take (n : UInt64) (j : Nat) (h : j ≤ 8) : ((le64 n).take j).length = j := by simp [le64]; omega
@[simp] theorem le64_len (n : UInt64) : (le64 n).length = 8 := by simp [le64]
theorem le64_all (n : UInt64) : (le64 n).take 8 = le64 n := List.take_of_length_le (by simp)
theorem encTo_bound (ps : List (List UInt8)) (hp : ∀ p ∈ ps, p.length ≤ 1000) : ∀ k, k ≤ ps.length → (encTo ps k).length ≤ 1008 * k
  | 0, _ => by simp [encTo]
  | k + 1, h => by
    have hk := encTo_bound ps hp k (by omega)
    have hm : ps.getD k [] ∈ ps := by
      rw [List.getD_eq_getElem?_getD, List.getElem?_eq_getElem (show k < ps.length by omega), Option.getD_some]
      exact List.getElem_mem _
    have := hp _ hm
    rw [← encTo_step ps k (by omega), List.length_append, encOne_length]
    omega
theorem getD_mem (ps : List (List UInt8)) (k : Nat) (h : k < ps.length) : ps.getD k [] ∈ ps := by
  rw [List.getD_eq_getElem?_getD, List.getElem?_eq_getElem h, Option.getD_some]
  exact List.getElem_mem _

def encS : OSpec := fun vs K => ∃ ps, vs = [.c (.ds ps.length (.cells (lists ps)))] ∧ (ps.length ≤ 1000 ∧ ∀ p ∈ ps, p.length ≤ 1000) ∧ K 5 1 (encode ps).length (.u8s (encode ps))
set_option maxHeartbeats 1000000 in
theorem encR_ok : OwnOK Tryd.prog gl 24 encS := by
  refine own_of (Γ := g0) (N := 39) Tryd.func24 rfl rfl fun vs K h => ?_
  obtain ⟨ps, rfl, ⟨hn, hp⟩, h⟩ := h
  refine ⟨_, _, _, _, h, trivial, by simp, fun w I => ?_⟩
  refine seq_k fun _ hK1 => ?_
  refine region_k g0_ok fun _ hK2 => ?_
  refine s_step rfl (by decide) rfl fun _ hS => ?_
  refine hS _ _ _ ?_
  clear hS
  refine s_nil ?_
  refine hK2 _ _ _ ?_
  refine hK1 _ _ _ ?_
  refine seq_k fun _ hK3 => ?_
  refine region_k g0_ok fun _ hK4 => ?_
  refine s_step rfl (by decide) rfl fun _ hS => ?_
  repeat refine And.intro (by first | omega | exact trivial | rfl | (simp <;> omega)) ?_
  refine hS _ _ _ ?_
  clear hS
  refine s_step rfl (by decide) rfl fun _ hS => ?_
  refine hS _ _ _ ?_
  clear hS
  refine s_nil ?_
  refine hK4 _ _ _ ?_
  refine hK3 _ _ _ ?_
  refine seq_k fun _ hK5 => ?_
  refine seq_k fun _ hK6 => ?_
  refine region_k g0_ok fun _ hK7 => ?_
  refine s_step rfl (by decide) rfl fun _ hS => ?_
  refine hS _ _ _ ?_
  clear hS
  refine s_nil ?_
  refine hK7 _ _ _ ?_
  refine hK6 _ _ _ ?_
  refine WP_block ?_
  refine WP_loop (α := Nat × Nat) (fun k => [(0, .c (.ds ps.length (.cells (lists ps)))), (3, .c (.slice 0 0 (encTo ps k.1).length k.2)), (4, .c (.int .i64 k.1))]) (fun k => [(0, .own 5 (.u8s (encTo ps k.1)) k.2)]) 1 (fun k => k.1 ≤ ps.length) (fun k => ps.length - k.1) ?_ ?_
  · refine Done_some [] (fun _ => 0) (0, 0) (Nat.zero_le _) ⟨?_, ?_, (by decide : List.Nodup ([0] : List Nat)), ?_, ?_, ⟨Nat.zero_le _, fun i hi => absurd hi (Nat.not_lt_zero i)⟩⟩
    · repeat' (first | exact trivial | refine And.intro ?_ ?_ | rfl | omega | decide | exact Nat.lt_of_sub_pos (by decide))
      all_goals first | (show (_ : List UInt8) = _; simp [encTo]; done) | (simp [encTo, le64]; done) | (simp [encTo, le64] <;> omega) | skip
    · repeat' (first | exact trivial | refine And.intro ?_ ?_ | rfl | omega | decide | exact Nat.lt_of_sub_pos (by decide))
      all_goals first | (show (_ : List UInt8) = _; simp [encTo]; done) | (simp [encTo, le64]; done) | (simp [encTo, le64] <;> omega) | skip
    · repeat' (first | exact trivial | refine And.intro ?_ ?_ | rfl | omega | decide | exact Nat.lt_of_sub_pos (by decide))
    · repeat' (first | exact trivial | refine And.intro ?_ ?_ | rfl | omega | decide | exact Nat.lt_of_sub_pos (by decide))
  · intro k hk
    have hkb := encTo_bound ps hp k.1 hk
    refine seq_k fun _ hK8 => ?_
    refine seq_k fun _ hK9 => ?_
    refine region_k g0_ok fun _ hK10 => ?_
    refine s_step rfl (by decide) rfl fun _ hS => ?_
    refine hS _ _ _ ?_
    clear hS
    refine s_step rfl (by decide) rfl fun _ hS => ?_
    refine hS _ _ _ ?_
    clear hS
    refine s_step rfl (by decide) rfl fun _ hS => ?_
    repeat refine And.intro (by first | omega | exact trivial | rfl | (simp <;> omega)) ?_
    refine hS _ _ _ ?_
    clear hS
    refine s_step rfl (by decide) rfl fun _ hS => ?_
    repeat refine And.intro (by first | omega | exact trivial | rfl | (simp <;> omega)) ?_
    refine hS _ _ _ ?_
    clear hS
    refine s_nil ?_
    refine hK10 _ _ _ ?_
    refine hK9 _ _ _ ?_
    refine WP_cond (b := _) rfl (fun h_t11 => ?_) (fun h_t11 => ?_)
    · try simp only [decide_eq_true_eq] at h_t11
      refine WP_skip ?_
      refine hK8 _ _ _ ?_
      refine seq_k fun _ hK11 => ?_
      refine WP_block ?_
      refine seq_k fun _ hK12 => ?_
      have hkl : k.1 < ps.length := by omega
      have hpk := hp _ (getD_mem ps k.1 hkl)
      have hpk2 : (ps[k.1]?.getD []).length ≤ 1000 := by simpa using hpk
      refine region_k g0_ok fun _ hK13 => ?_
      refine s_step rfl (by decide) rfl fun _ hS => ?_
      refine hS _ _ _ ?_
      clear hS
      refine s_step rfl (by decide) rfl fun _ hS => ?_
      refine hS _ _ _ ?_
      clear hS
      refine s_step rfl (by decide) rfl fun _ hS => ?_
      repeat refine And.intro (by first | omega | exact trivial | rfl | (simp <;> omega)) ?_
      refine hS _ _ _ ?_
      clear hS
      refine s_step rfl (by decide) rfl fun _ hS => ?_
      repeat refine And.intro (by first | omega | exact trivial | rfl | (simp <;> omega)) ?_
      rw [get_lists]
      rotate_left 1
      · first | omega | (simp <;> omega)
      first | refine hS _ _ _ ?_ | (refine ite_yes (by first | omega | exact trivial | rfl | (simp [hpk] <;> omega)) ?_; refine hS _ _ _ ?_)
      clear hS
      refine s_step rfl (by decide) rfl fun _ hS => ?_
      repeat refine And.intro (by first | omega | exact trivial | rfl | (simp [hpk] <;> omega)) ?_
      refine hS _ _ _ ?_
      clear hS
      refine s_step rfl (by decide) rfl fun _ hS => ?_
      repeat first | refine And.intro (by first | omega | exact trivial | rfl | (simp [hpk] <;> omega)) ?_ | refine whole_yes (by first | omega | exact trivial | rfl | (simp [hpk] <;> omega)) ?_ | refine whole_sub ?_
      refine hS _ _ _ ?_
      clear hS
      refine s_step rfl (by decide) rfl fun _ hS => ?_
      refine hS _ _ _ ?_
      clear hS
      refine s_nil ?_
      refine hK13 _ _ _ ?_
      refine hK12 _ _ _ ?_
      refine seq_k fun _ hK14 => ?_
      refine seq_k fun _ hK15 => ?_
      refine region_k g0_ok fun _ hK16 => ?_
      refine s_step rfl (by decide) rfl fun _ hS => ?_
      refine hS _ _ _ ?_
      clear hS
      refine s_nil ?_
      refine hK16 _ _ _ ?_
      refine hK15 _ _ _ ?_
      refine WP_block ?_
      refine WP_loop (α := Nat × Nat) (fun j => [(0, .c (.ds ps.length (.cells (lists ps)))), (3, .c (.slice 0 0 ((encTo ps k.1).length + j.1) j.2)), (4, .c (.int .i64 k.1)), (5, .c (.u64 (ps.getD k.1 []).length.toUInt64)), (6, .c (.int .i64 j.1))]) (fun j => [(0, .own 5 (.u8s (encTo ps k.1 ++ (le64 (ps.getD k.1 []).length.toUInt64).take j.1)) j.2)]) 1 (fun j => j.1 ≤ 8) (fun j => 8 - j.1) ?_ ?_
      · refine Done_some [] (fun _ => 0) (0, k.2) (Nat.zero_le _) ⟨?_, ?_, (by decide : List.Nodup ([0] : List Nat)), ?_, ?_, ⟨Nat.zero_le _, fun i hi => absurd hi (Nat.not_lt_zero i)⟩⟩
        · repeat' (first | exact trivial | refine And.intro ?_ ?_ | rfl | omega | decide | exact Nat.lt_of_sub_pos (by decide))
          all_goals first | (show (_ : UInt64) = _; simp only [Nat.mul_one, Int.toNat_natCast]; exact ofIntNat _) | (simp; done)
        · repeat' (first | exact trivial | refine And.intro ?_ ?_ | rfl | omega | decide | exact Nat.lt_of_sub_pos (by decide))
          all_goals first | (show (_ : List UInt8) = _; simp [encTo]; done) | (simp [encTo, le64]; done) | (simp [encTo, le64] <;> omega) | skip
        · repeat' (first | exact trivial | refine And.intro ?_ ?_ | rfl | omega | decide | exact Nat.lt_of_sub_pos (by decide))
        · repeat' (first | exact trivial | refine And.intro ?_ ?_ | rfl | omega | decide | exact Nat.lt_of_sub_pos (by decide))
      · intro j hj
        have hjl := le64_take (ps.getD k.1 []).length.toUInt64 j.1 hj
        refine seq_k fun _ hK17 => ?_
        refine seq_k fun _ hK18 => ?_
        refine region_k g0_ok fun _ hK19 => ?_
        refine s_step rfl (by decide) rfl fun _ hS => ?_
        refine hS _ _ _ ?_
        clear hS
        refine s_step rfl (by decide) rfl fun _ hS => ?_
        repeat refine And.intro (by first | omega | exact trivial | rfl | (simp <;> omega)) ?_
        refine hS _ _ _ ?_
        clear hS
        refine s_nil ?_
        refine hK19 _ _ _ ?_
        refine hK18 _ _ _ ?_
        refine WP_cond (b := _) rfl (fun h_t21 => ?_) (fun h_t21 => ?_)
        · try simp only [decide_eq_true_eq] at h_t21
          refine WP_skip ?_
          refine hK17 _ _ _ ?_
          refine seq_k fun _ hK20 => ?_
          refine WP_block ?_
          refine region_k g0_ok fun _ hK21 => ?_
          refine s_step rfl (by decide) rfl fun _ hS => ?_
          refine hS _ _ _ ?_
          clear hS
          refine s_step rfl (by decide) rfl fun _ hS => ?_
          refine hS _ _ _ ?_
          clear hS
          refine s_step rfl (by decide) rfl fun _ hS => ?_
          refine hS _ _ _ ?_
          clear hS
          refine s_step rfl (by decide) rfl fun _ hS => ?_
          repeat refine And.intro (by first | omega | exact trivial | rfl | (simp <;> omega)) ?_
          refine hS _ _ _ ?_
          clear hS
          refine s_step rfl (by decide) rfl fun _ hS => ?_
          repeat refine And.intro (by first | omega | exact trivial | rfl | (simp <;> omega)) ?_
          refine hS _ _ _ ?_
          clear hS
          refine s_step rfl (by decide) rfl fun _ hS => ?_
          repeat first | refine And.intro (by first | omega | exact trivial | rfl | (simp <;> omega)) ?_ | refine whole_yes (by first | omega | exact trivial | rfl | (simp <;> omega)) ?_ | refine whole_sub ?_
          refine hS _ _ _ ?_
          clear hS
          refine s_step rfl (by decide) rfl fun _ hS => ?_
          repeat refine And.intro (by first | omega | exact trivial | rfl | (simp <;> omega)) ?_
          refine hS _ _ _ ?_
          clear hS
          refine s_step rfl (by decide) rfl fun _ hS => ?_
          repeat first | refine And.intro (by first | omega | exact trivial | rfl | (simp <;> omega)) ?_ | refine whole_yes (by first | omega | exact trivial | rfl | (simp <;> omega)) ?_ | refine whole_sub ?_
          intro cap7 hcap7; refine hS _ _ _ ?_
          clear hS
          refine s_step rfl (by decide) rfl fun _ hS => ?_
          refine hS _ _ _ ?_
          clear hS
          refine s_nil ?_
          refine hK21 _ _ _ ?_
          have e1 := congrArg (encTo ps k.1 ++ ·) (le64_step (ps.getD k.1 []).length.toUInt64 j.1 (by omega))
          rw [show 8 * j.1 = (8 * (j.1 : Int)).toNat by omega] at e1
          refine done_block ?_
          refine hK20 _ _ _ ?_
          refine region_k g0_ok fun _ hK22 => ?_
          refine s_step rfl (by decide) rfl fun _ hS => ?_
          refine hS _ _ _ ?_
          clear hS
          refine s_step rfl (by decide) rfl fun _ hS => ?_
          repeat refine And.intro (by first | omega | exact trivial | rfl | (simp <;> omega)) ?_
          refine hS _ _ _ ?_
          clear hS
          refine s_step rfl (by decide) rfl fun _ hS => ?_
          refine hS _ _ _ ?_
          clear hS
          refine s_nil ?_
          refine hK22 _ _ _ ?_
          refine Done_some [] (fun _ => 2) (j.1 + 1, cap7) ⟨by omega, by omega⟩ ⟨?_, ?_, (by decide : List.Nodup ([2] : List Nat)), ?_, ?_, ⟨Nat.zero_le _, fun i hi => absurd hi (Nat.not_lt_zero i)⟩⟩
          · repeat' (first | exact trivial | refine And.intro ?_ ?_ | rfl | omega | decide | exact Nat.lt_of_sub_pos (by decide))
            all_goals first | (show (_ : List UInt8) = _; rw [List.append_assoc]; exact e1) | (simp [le64_take _ _ hj, le64_take _ (j.1 + 1) (by omega)] <;> omega) | skip
          · repeat' (first | exact trivial | refine And.intro ?_ ?_ | rfl | omega | decide | exact Nat.lt_of_sub_pos (by decide))
            all_goals first | (show (_ : List UInt8) = _; rw [List.append_assoc]; exact e1) | (simp [le64_take _ _ hj, le64_take _ (j.1 + 1) (by omega)] <;> omega) | skip
          · repeat' (first | exact trivial | refine And.intro ?_ ?_ | rfl | omega | decide | exact Nat.lt_of_sub_pos (by decide))
          · repeat' (first | exact trivial | refine And.intro ?_ ?_ | rfl | omega | decide | exact Nat.lt_of_sub_pos (by decide))
        · try simp only [decide_eq_false_iff_not, Int.not_lt] at h_t21
          refine WP_exit ?_
          refine done_thenx ?_
          refine done_thenx ?_
          refine Done_hit ?_
          refine hK14 _ _ _ ?_
          obtain ⟨j, cap0⟩ := j
          obtain rfl : j = 8 := by simp at h_t21 hj; omega
          refine region_k g0_ok fun _ hK23 => ?_
          refine s_step rfl (by decide) rfl fun _ hS => ?_
          refine hS _ _ _ ?_
          clear hS
          refine s_step rfl (by decide) rfl fun _ hS => ?_
          refine hS _ _ _ ?_
          clear hS
          refine s_step rfl (by decide) rfl fun _ hS => ?_
          refine hS _ _ _ ?_
          clear hS
          refine s_step rfl (by decide) rfl fun _ hS => ?_
          repeat refine And.intro (by first | omega | exact trivial | rfl | (simp <;> omega)) ?_
          refine hS _ _ _ ?_
          clear hS
          refine s_step rfl (by decide) rfl fun _ hS => ?_
          repeat refine And.intro (by first | omega | exact trivial | rfl | (simp <;> omega)) ?_
          rw [get_lists]
          rotate_left 1
          · first | omega | (simp <;> omega)
          first | refine hS _ _ _ ?_ | (refine ite_yes (by first | omega | exact trivial | rfl | (simp [hpk] <;> omega)) ?_; refine hS _ _ _ ?_)
          clear hS
          refine s_step rfl (by decide) rfl fun _ hS => ?_
          repeat first | refine And.intro (by first | omega | exact trivial | rfl | (simp <;> omega)) ?_ | refine whole_yes (by first | omega | exact trivial | rfl | (simp [hpk] <;> omega)) ?_ | refine whole_sub ?_
          intro cap5 hcap5; refine hS _ _ _ ?_
          clear hS
          refine s_step rfl (by decide) rfl fun _ hS => ?_
          refine hS _ _ _ ?_
          clear hS
          refine s_nil ?_
          refine hK23 _ _ _ ?_
          have e1 := encTo_step ps k.1 hkl
          rw [encOne, ← List.append_assoc] at e1
          refine done_block ?_
          refine hK11 _ _ _ ?_
          refine region_k g0_ok fun _ hK24 => ?_
          refine s_step rfl (by decide) rfl fun _ hS => ?_
          refine hS _ _ _ ?_
          clear hS
          refine s_step rfl (by decide) rfl fun _ hS => ?_
          repeat refine And.intro (by first | omega | exact trivial | rfl | (simp <;> omega)) ?_
          refine hS _ _ _ ?_
          clear hS
          refine s_step rfl (by decide) rfl fun _ hS => ?_
          refine hS _ _ _ ?_
          clear hS
          refine s_nil ?_
          refine hK24 _ _ _ ?_
          refine Done_some [] (fun _ => 1) (k.1 + 1, cap5) ⟨by omega, by omega⟩ ⟨?_, ?_, (by decide : List.Nodup ([1] : List Nat)), ?_, ?_, ⟨Nat.zero_le _, fun i hi => absurd hi (Nat.not_lt_zero i)⟩⟩
          · repeat' (first | exact trivial | refine And.intro ?_ ?_ | rfl | omega | decide | exact Nat.lt_of_sub_pos (by decide))
            all_goals first | (show (_ : List UInt8) = _; rw [← e1]; simp only [le64_all, Nat.mul_one, Int.toNat_natCast]) | (rw [← encTo_step ps k.1 (by omega)]; simp [encOne_length] <;> omega) | skip
          · repeat' (first | exact trivial | refine And.intro ?_ ?_ | rfl | omega | decide | exact Nat.lt_of_sub_pos (by decide))
            all_goals first | (show (_ : List UInt8) = _; rw [← e1]; simp only [le64_all, Nat.mul_one, Int.toNat_natCast]) | (rw [← encTo_step ps k.1 (by omega)]; simp [encOne_length, le64] <;> omega) | skip
          · repeat' (first | exact trivial | refine And.intro ?_ ?_ | rfl | omega | decide | exact Nat.lt_of_sub_pos (by decide))
          · repeat' (first | exact trivial | refine And.intro ?_ ?_ | rfl | omega | decide | exact Nat.lt_of_sub_pos (by decide))
    · try simp only [decide_eq_false_iff_not, Int.not_lt] at h_t11
      refine WP_exit ?_
      refine done_thenx ?_
      refine done_thenx ?_
      refine Done_hit ?_
      refine hK5 _ _ _ ?_
      refine seq_k fun _ hK25 => ?_
      refine region_k g0_ok fun _ hK26 => ?_
      refine s_step rfl (by decide) rfl fun _ hS => ?_
      refine hS _ _ _ ?_
      clear hS
      refine s_step rfl (by decide) rfl fun _ hS => ?_
      refine hS _ _ _ ?_
      clear hS
      refine s_nil ?_
      refine hK26 _ _ _ ?_
      refine hK25 _ _ _ ?_
      refine WP_ret (Done_own g0_ok (fun _ _ h => h) (by decide) [.tmp 2] rfl ?_)
      obtain ⟨k, cap0⟩ := k
      obtain rfl : k = ps.length := by simp at h_t11 hk; omega
      show _ ∧ _
      repeat' (first | exact trivial | refine And.intro ?_ ?_ | rfl | omega | decide | exact Nat.lt_of_sub_pos (by decide))
      all_goals simp [encTo_full]
end Go.Proofs.YtdanaehfdbdhdaaDoor
