/- The law of the moved boundary. -/
import Derived.Test.YtdanaehfdbdhdaaDoorVt
import Derived.Test.YtdanaehfdbdhdaaDoorAb17
namespace Go.Proofs.YtdanaehfdbdhdaaDoor
set_option linter.unusedVariables false
open Go.Ab Go.RowKit

theorem enc_small (ps : List (List UInt8)) (hn : ps.length ≤ 1000) (hp : ∀ p ∈ ps, p.length ≤ 1000) : ps.length ≤ 1000 ∧ ∀ p ∈ ps, p.length ≤ 1000 := ⟨hn, hp⟩
noncomputable def gf : Ctx := { P := Tryd.prog, ty := ty, glob := gl, fs := [(11, .flat sanityS), (12, .data shortS), (18, .flat fieldsS), (19, .flat fieldsS)] }
theorem gf_ok (h27 : FlatOK Tryd.prog gl 27 hashS) : gf.OK := ⟨tyOK, ⟨⟨enters_mk Tryd.func11 (by kernel_rfl) rfl, sanity_ok h27⟩, ⟨enters_mk Tryd.func12 (by kernel_rfl) rfl, short_ok⟩, ⟨enters_mk Tryd.func18 (by kernel_rfl) rfl, fields_ok h27⟩, ⟨enters_mk Tryd.func19 (by kernel_rfl) rfl, fieldsR_ok⟩, trivial⟩, mixed⟩
@[simp] theorem gf_ty : gf.ty = ty := rfl


attribute [local irreducible] Sha.sum encode
def lawSplitsS : QSpec := fun vs K => ∃ l a b, vs = [.c (.ds l.length (.u8s l)), .c (.u8 a), .c (.u8 b)] ∧ l.length ≤ 9223372036854775807 ∧ K (.c (.bool true))
set_option maxHeartbeats 2000000 in
theorem lawSplits_ok (h27 : FlatOK Tryd.prog gl 27 hashS) : FlatOK Tryd.prog gl 7 lawSplitsS := by
  refine flat_of (Γ := gf) (N := 83) Tryd.func7 rfl rfl fun vs K h => ?_
  obtain ⟨l0, a, b, rfl, hl0, h⟩ := h
  refine ⟨_, h, rfl, by simp, fun w I => ?_⟩
  have hs := Sha.sum_length
  refine seq_k fun _ hK1 => ?_
  refine region_k (gf_ok h27) fun _ hK2 => ?_
  refine s_step rfl (by decide) rfl fun _ hS => ?_
  refine hS _ _ _ ?_
  clear hS
  refine s_nil ?_
  refine hK2 _ _ _ ?_
  refine hK1 _ _ _ ?_
  refine seq_k fun _ hK3 => ?_
  refine region_k (gf_ok h27) fun _ hK4 => ?_
  refine s_step rfl (by decide) rfl fun _ hS => ?_
  repeat first | refine And.intro (by first | omega | exact trivial | rfl | exact inR_i64.mpr ⟨by omega, by omega⟩ | (simp [hs] <;> omega) | exact (hs _).symm | (refine And.intro ?_ ?_ <;> exact trivial) | exact ⟨trivial, trivial, trivial⟩) ?_ | refine whole_yes (by first | omega | exact trivial | rfl | exact inR_i64.mpr ⟨by omega, by omega⟩ | (simp [hs] <;> omega) | exact (hs _).symm | (refine And.intro ?_ ?_ <;> exact trivial) | exact ⟨trivial, trivial, trivial⟩) ?_ | refine whole_sub ?_
  first | refine hS _ _ _ ?_ | (intro cap0 hcap0; refine hS _ _ _ ?_)
  clear hS
  refine s_step rfl (by decide) rfl fun _ hS => ?_
  refine hS _ _ _ ?_
  clear hS
  refine s_nil ?_
  refine hK4 _ _ _ ?_
  refine hK3 _ _ _ ?_
  refine seq_k fun _ hK5 => ?_
  refine region_k (gf_ok h27) fun _ hK6 => ?_
  refine s_step rfl (by decide) rfl fun _ hS => ?_
  refine hS _ _ _ ?_
  clear hS
  refine s_step rfl (by decide) rfl fun _ hS => ?_
  repeat first | refine And.intro (by first | omega | exact trivial | rfl | exact inR_i64.mpr ⟨by omega, by omega⟩ | (simp [hs] <;> omega) | exact (hs _).symm | (refine And.intro ?_ ?_ <;> exact trivial) | exact ⟨trivial, trivial, trivial⟩) ?_ | refine whole_yes (by first | omega | exact trivial | rfl | exact inR_i64.mpr ⟨by omega, by omega⟩ | (simp [hs] <;> omega) | exact (hs _).symm | (refine And.intro ?_ ?_ <;> exact trivial) | exact ⟨trivial, trivial, trivial⟩) ?_ | refine whole_sub ?_
  first | refine hS _ _ _ ?_ | (intro cap1 hcap1; refine hS _ _ _ ?_)
  clear hS
  refine s_step rfl (by decide) rfl fun _ hS => ?_
  refine hS _ _ _ ?_
  clear hS
  refine s_nil ?_
  refine hK6 _ _ _ ?_
  refine hK5 _ _ _ ?_
  refine seq_k fun _ hK7 => ?_
  refine quiet_k (gf_ok h27) (by kernel_rfl) fun _ hK8 => ?_
  refine q_step rfl (by decide) rfl fun _ hS => ?_
  refine hS _ ?_
  clear hS
  refine q_step rfl (by decide) rfl fun _ hS => ?_
  repeat first | refine And.intro (by first | omega | exact trivial | rfl | exact inR_i64.mpr ⟨by omega, by omega⟩ | (simp [hs] <;> omega) | exact (hs _).symm | (refine And.intro ?_ ?_ <;> exact trivial) | exact ⟨trivial, trivial, trivial⟩) ?_ | refine whole_yes (by first | omega | exact trivial | rfl | exact inR_i64.mpr ⟨by omega, by omega⟩ | (simp [hs] <;> omega) | exact (hs _).symm | (refine And.intro ?_ ?_ <;> exact trivial) | exact ⟨trivial, trivial, trivial⟩) ?_ | refine whole_sub ?_
  refine hS _ ?_
  clear hS
  refine q_step rfl (by decide) rfl fun _ hS => ?_
  refine hS _ ?_
  clear hS
  refine q_step rfl (by decide) rfl fun _ hS => ?_
  repeat refine And.intro (by first | omega | exact trivial | rfl | exact inR_i64.mpr ⟨by omega, by omega⟩ | (simp [hs] <;> omega) | exact (hs _).symm | (refine And.intro ?_ ?_ <;> exact trivial) | exact ⟨trivial, trivial, trivial⟩) ?_
  refine hS _ ?_
  clear hS
  refine q_step rfl (by decide) rfl fun _ hS => ?_
  repeat refine And.intro (by first | omega | exact trivial | rfl | exact inR_i64.mpr ⟨by omega, by omega⟩ | (simp <;> omega) | exact (hs _).symm | (refine And.intro ?_ ?_ <;> exact trivial) | exact ⟨trivial, trivial, trivial⟩) ?_
  refine hS _ ?_
  clear hS
  refine q_step rfl (by decide) rfl fun _ hS => ?_
  repeat refine And.intro (by first | omega | exact trivial | rfl | exact inR_i64.mpr ⟨by omega, by omega⟩ | (simp [hs] <;> omega) | exact (hs _).symm | (refine And.intro ?_ ?_ <;> exact trivial) | exact ⟨trivial, trivial, trivial⟩) ?_
  refine hS _ ?_
  clear hS
  refine q_step rfl (by decide) rfl fun _ hS => ?_
  refine hS _ ?_
  clear hS
  refine q_step rfl (by decide) rfl fun _ hS => ?_
  repeat first | refine And.intro (by first | omega | exact trivial | rfl | exact inR_i64.mpr ⟨by omega, by omega⟩ | (simp [hs] <;> omega) | exact (hs _).symm | (refine And.intro ?_ ?_ <;> exact trivial) | exact ⟨trivial, trivial, trivial⟩) ?_ | refine whole_yes (by first | omega | exact trivial | rfl | exact inR_i64.mpr ⟨by omega, by omega⟩ | (simp [hs] <;> omega) | exact (hs _).symm | (refine And.intro ?_ ?_ <;> exact trivial) | exact ⟨trivial, trivial, trivial⟩) ?_ | refine whole_sub ?_
  refine hS _ ?_
  clear hS
  refine q_step rfl (by decide) rfl fun _ hS => ?_
  refine hS _ ?_
  clear hS
  refine q_step rfl (by decide) rfl fun _ hS => ?_
  repeat refine And.intro (by first | omega | exact trivial | rfl | exact inR_i64.mpr ⟨by omega, by omega⟩ | (simp [hs] <;> omega) | exact (hs _).symm | (refine And.intro ?_ ?_ <;> exact trivial) | exact ⟨trivial, trivial, trivial⟩) ?_
  refine hS _ ?_
  clear hS
  refine q_step rfl (by decide) rfl fun _ hS => ?_
  repeat refine And.intro (by first | omega | exact trivial | rfl | exact inR_i64.mpr ⟨by omega, by omega⟩ | (simp <;> omega) | exact (hs _).symm | (refine And.intro ?_ ?_ <;> exact trivial) | exact ⟨trivial, trivial, trivial⟩) ?_
  refine hS _ ?_
  clear hS
  refine q_step rfl (by decide) rfl fun _ hS => ?_
  repeat refine And.intro (by first | omega | exact trivial | rfl | exact inR_i64.mpr ⟨by omega, by omega⟩ | (simp [hs] <;> omega) | exact (hs _).symm | (refine And.intro ?_ ?_ <;> exact trivial) | exact ⟨trivial, trivial, trivial⟩) ?_
  refine hS _ ?_
  clear hS
  refine q_step rfl (by decide) rfl fun _ hS => ?_
  refine hS _ ?_
  clear hS
  refine q_step rfl (by decide) rfl fun _ hS => ?_
  refine hS _ ?_
  clear hS
  refine q_nil ?_
  refine hK8 _ ?_
  generalize hl : l0.take (Int.toNat 100) = l
  have hll : l.length ≤ 100 := by rw [← hl]; simp; omega
  obtain ⟨x, hx⟩ : ∃ x : Nat, x = a.toNat % (l.length + 1) := ⟨_, rfl⟩
  obtain ⟨y, hy⟩ : ∃ y : Nat, y = b.toNat % (l.length + 1) := ⟨_, rfl⟩
  have hxl : x ≤ l.length := by have := Nat.mod_lt a.toNat (show 0 < l.length + 1 by omega); omega
  have hyl : y ≤ l.length := by have := Nat.mod_lt b.toNat (show 0 < l.length + 1 by omega); omega
  rw [show (a.toNat : Int) % ((l.length : Int) + 1) = (x : Int) by rw [hx]; rfl, show (b.toNat : Int) % ((l.length : Int) + 1) = (y : Int) by rw [hy]; rfl]
  have hA : ([l.take x, l.drop x] : List (List UInt8)).length ≤ 1000 ∧ ∀ p ∈ [l.take x, l.drop x], p.length ≤ 1000 := by simp; omega
  have hB : ([l.take y, l.drop y] : List (List UInt8)).length ≤ 1000 ∧ ∀ p ∈ [l.take y, l.drop y], p.length ≤ 1000 := by simp; omega
  have hC : ([l] : List (List UInt8)).length ≤ 1000 ∧ ∀ p ∈ [l], p.length ≤ 1000 := by simp; omega
  refine hK7 _ _ _ ?_
  refine WP_cut (α := Unit) (fun _ => [(7, .c (.bool true)), (8, .c (.ds l.length (.u8s l))), (9, .c (.int .i64 x)), (10, .c (.int .i64 y)), (11, .c (.ds 2 (.cells (lists [l.take x, l.drop x])))), (12, .c (.ds 2 (.cells (lists [l.take y, l.drop y])))), (13, .c (.ds 1 (.cells (lists [l]))))]) (fun _ => []) 3 (fun _ => True) ?_ ?_
  · skip
    refine tree_k (gf_ok h27) ?_
    refine WB_run (gf_ok h27) (g := 6) (by kernel_rfl) [(0, true), (1, true), (2, true), (3, true), (4, true), (5, true), (7, true), (8, true), (9, true), (10, true), (11, true), (12, true), (14, true)] (by kernel_rfl) fun _ hK10 => ?_
    refine d_read rfl rfl (by decide) rfl fun _ hS => ?_
    refine hS _ ?_
    clear hS
    refine d_read rfl rfl (by decide) rfl fun _ hS => ?_
    refine hS _ ?_
    clear hS
    refine d_read rfl rfl (by decide) rfl fun _ hS => ?_
    repeat refine And.intro (by first | omega | exact trivial | rfl | exact inR_i64.mpr ⟨by omega, by omega⟩ | (simp <;> omega) | exact (hs _).symm | (refine And.intro ?_ ?_ <;> exact trivial) | exact ⟨trivial, trivial, trivial⟩) ?_
    first | refine hS _ ?_ | (refine ite_yes (by first | omega | exact trivial | rfl | exact inR_i64.mpr ⟨by omega, by omega⟩ | (simp [hs] <;> omega) | exact (hs _).symm | (refine And.intro ?_ ?_ <;> exact trivial) | exact ⟨trivial, trivial, trivial⟩) ?_; (repeat refine And.intro (by first | omega | exact trivial | rfl | exact inR_i64.mpr ⟨by omega, by omega⟩ | (simp [hs] <;> omega) | exact (hs _).symm | (refine And.intro ?_ ?_ <;> exact trivial) | exact ⟨trivial, trivial, trivial⟩) ?_); refine hS _ ?_)
    clear hS
    refine d_read rfl rfl (by decide) rfl fun _ hS => ?_
    refine hS _ ?_
    clear hS
    refine d_read rfl rfl (by decide) rfl fun _ hS => ?_
    refine hS _ ?_
    clear hS
    refine d_read rfl rfl (by decide) rfl fun _ hS => ?_
    repeat refine And.intro (by first | omega | exact trivial | rfl | exact inR_i64.mpr ⟨by omega, by omega⟩ | (simp <;> omega) | exact (hs _).symm | (refine And.intro ?_ ?_ <;> exact trivial) | exact ⟨trivial, trivial, trivial⟩) ?_
    first | refine hS _ ?_ | (refine ite_yes (by first | omega | exact trivial | rfl | exact inR_i64.mpr ⟨by omega, by omega⟩ | (simp [hs] <;> omega) | exact (hs _).symm | (refine And.intro ?_ ?_ <;> exact trivial) | exact ⟨trivial, trivial, trivial⟩) ?_; (repeat refine And.intro (by first | omega | exact trivial | rfl | exact inR_i64.mpr ⟨by omega, by omega⟩ | (simp [hs] <;> omega) | exact (hs _).symm | (refine And.intro ?_ ?_ <;> exact trivial) | exact ⟨trivial, trivial, trivial⟩) ?_); refine hS _ ?_)
    clear hS
    refine d_read rfl rfl (by decide) rfl fun _ hS => ?_
    refine hS _ ?_
    clear hS
    refine d_read rfl rfl (by decide) rfl fun _ hS => ?_
    refine hS _ ?_
    clear hS
    refine d_read rfl rfl (by decide) rfl fun _ hS => ?_
    repeat refine And.intro (by first | omega | exact trivial | rfl | exact inR_i64.mpr ⟨by omega, by omega⟩ | (simp <;> omega) | exact (hs _).symm | (refine And.intro ?_ ?_ <;> exact trivial) | exact ⟨trivial, trivial, trivial⟩) ?_
    first | refine hS _ ?_ | (refine ite_yes (by first | omega | exact trivial | rfl | exact inR_i64.mpr ⟨by omega, by omega⟩ | (simp [hs] <;> omega) | exact (hs _).symm | (refine And.intro ?_ ?_ <;> exact trivial) | exact ⟨trivial, trivial, trivial⟩) ?_; (repeat refine And.intro (by first | omega | exact trivial | rfl | exact inR_i64.mpr ⟨by omega, by omega⟩ | (simp [hs] <;> omega) | exact (hs _).symm | (refine And.intro ?_ ?_ <;> exact trivial) | exact ⟨trivial, trivial, trivial⟩) ?_); refine hS _ ?_)
    clear hS
    refine d_read rfl rfl (by decide) rfl fun _ hS => ?_
    refine hS _ ?_
    clear hS
    refine d_read rfl rfl (by decide) rfl fun _ hS => ?_
    refine hS _ ?_
    clear hS
    refine d_read rfl rfl (by decide) rfl fun _ hS => ?_
    repeat refine And.intro (by first | omega | exact trivial | rfl | exact inR_i64.mpr ⟨by omega, by omega⟩ | (simp <;> omega) | exact (hs _).symm | (refine And.intro ?_ ?_ <;> exact trivial) | exact ⟨trivial, trivial, trivial⟩) ?_
    first | refine hS _ ?_ | (refine ite_yes (by first | omega | exact trivial | rfl | exact inR_i64.mpr ⟨by omega, by omega⟩ | (simp [hs] <;> omega) | exact (hs _).symm | (refine And.intro ?_ ?_ <;> exact trivial) | exact ⟨trivial, trivial, trivial⟩) ?_; (repeat refine And.intro (by first | omega | exact trivial | rfl | exact inR_i64.mpr ⟨by omega, by omega⟩ | (simp [hs] <;> omega) | exact (hs _).symm | (refine And.intro ?_ ?_ <;> exact trivial) | exact ⟨trivial, trivial, trivial⟩) ?_); refine hS _ ?_)
    clear hS
    refine d_read rfl rfl (by decide) rfl fun _ hS => ?_
    refine hS _ ?_
    clear hS
    refine d_nil ?_
    refine hK10 _ _ _ ?_
    refine WB_all [6, 13, 15] (by kernel_rfl) (by decide) (List.forall_mem_cons.2 ⟨?_, List.forall_mem_cons.2 ⟨?_, List.forall_mem_cons.2 ⟨?_, fun _ h => by cases h⟩⟩⟩)
    · refine WB_force (gf_ok h27) rfl rfl (by decide) rfl fun _ hS => ?_
      repeat refine And.intro (by first | omega | exact trivial | rfl | exact inR_i64.mpr ⟨by omega, by omega⟩ | (simp [hs] <;> omega) | exact (hs _).symm | (refine And.intro ?_ ?_ <;> exact trivial) | exact ⟨trivial, trivial, trivial⟩) ?_
      refine hS _ _ _ ?_
      clear hS
      refine WB_run (gf_ok h27) (g := 4) (by kernel_rfl) [(16, true)] (by kernel_rfl) fun _ hK11 => ?_
      refine d_read rfl rfl (by decide) rfl fun _ hS => ?_
      refine hS _ ?_
      clear hS
      refine d_nil ?_
      refine hK11 _ _ _ ?_
      refine WB_all [13, 15] (by kernel_rfl) (by decide) (List.forall_mem_cons.2 ⟨?_, List.forall_mem_cons.2 ⟨?_, fun _ h => by cases h⟩⟩)
      · refine WB_force (gf_ok h27) rfl rfl (by decide) rfl fun _ hS => ?_
        repeat refine And.intro (by first | omega | exact trivial | rfl | exact inR_i64.mpr ⟨by omega, by omega⟩ | (simp [hs] <;> omega) | exact (hs _).symm | (refine And.intro ?_ ?_ <;> exact trivial) | exact ⟨trivial, trivial, trivial⟩) ?_
        refine hS _ _ _ ?_
        clear hS
        refine WB_run (gf_ok h27) (g := 0) (by kernel_rfl) [(17, true), (15, false), (18, true)] (by kernel_rfl) fun _ hK12 => ?_
        refine d_read rfl rfl (by decide) rfl fun _ hS => ?_
        refine hS _ ?_
        clear hS
        refine d_grow rfl rfl (by decide) rfl fun _ hS => ?_
        repeat refine And.intro (by first | omega | exact trivial | rfl | exact inR_i64.mpr ⟨by omega, by omega⟩ | (simp [hs] <;> omega) | exact (hs _).symm | (refine And.intro ?_ ?_ <;> exact trivial) | exact ⟨trivial, trivial, trivial⟩) ?_
        refine hS _ _ _ ?_
        clear hS
        refine d_read rfl rfl (by decide) rfl fun _ hS => ?_
        refine hS _ ?_
        clear hS
        refine d_nil ?_
        refine hK12 _ _ _ ?_
        refine WB_done (by kernel_rfl) ?_
        refine Done_some [0, 1, 2] id () trivial ⟨?_, ?_, (by decide : List.Nodup ([] : List Nat)), ?_, ?_, ⟨Nat.zero_le _, fun i hi => absurd hi (Nat.not_lt_zero i)⟩⟩
        · repeat' (first | exact trivial | refine And.intro ?_ ?_ | rfl | omega | decide | (show (_ : Nat) < _; decide))
          all_goals first | (simp [lists, Cont.take, Cont.drop] <;> omega) | skip
        · repeat' (first | exact trivial | refine And.intro ?_ ?_ | rfl | omega | decide | (show (_ : Nat) < _; decide))
        · repeat' (first | exact trivial | refine And.intro ?_ ?_ | rfl | omega | decide | (show (_ : Nat) < _; decide))
        · repeat' (first | exact trivial | refine And.intro ?_ ?_ | rfl | omega | decide | (show (_ : Nat) < _; decide))
      · refine WB_force (gf_ok h27) rfl rfl (by decide) rfl fun _ hS => ?_
        repeat refine And.intro (by first | omega | exact trivial | rfl | exact inR_i64.mpr ⟨by omega, by omega⟩ | (simp [hs] <;> omega) | exact (hs _).symm | (refine And.intro ?_ ?_ <;> exact trivial) | exact ⟨trivial, trivial, trivial⟩) ?_
        refine hS _ _ _ ?_
        clear hS
        refine WB_run (gf_ok h27) (g := 0) (by kernel_rfl) [(13, false), (17, true), (18, true)] (by kernel_rfl) fun _ hK13 => ?_
        refine d_grow rfl rfl (by decide) rfl fun _ hS => ?_
        repeat refine And.intro (by first | omega | exact trivial | rfl | exact inR_i64.mpr ⟨by omega, by omega⟩ | (simp [hs] <;> omega) | exact (hs _).symm | (refine And.intro ?_ ?_ <;> exact trivial) | exact ⟨trivial, trivial, trivial⟩) ?_
        refine hS _ _ _ ?_
        clear hS
        refine d_read rfl rfl (by decide) rfl fun _ hS => ?_
        refine hS _ ?_
        clear hS
        refine d_read rfl rfl (by decide) rfl fun _ hS => ?_
        refine hS _ ?_
        clear hS
        refine d_nil ?_
        refine hK13 _ _ _ ?_
        refine WB_done (by kernel_rfl) ?_
        refine Done_some [0, 1, 2] id () trivial ⟨?_, ?_, (by decide : List.Nodup ([] : List Nat)), ?_, ?_, ⟨Nat.zero_le _, fun i hi => absurd hi (Nat.not_lt_zero i)⟩⟩
        · repeat' (first | exact trivial | refine And.intro ?_ ?_ | rfl | omega | decide | (show (_ : Nat) < _; decide))
          all_goals first | (simp [lists, Cont.take, Cont.drop] <;> omega) | skip
        · repeat' (first | exact trivial | refine And.intro ?_ ?_ | rfl | omega | decide | (show (_ : Nat) < _; decide))
        · repeat' (first | exact trivial | refine And.intro ?_ ?_ | rfl | omega | decide | (show (_ : Nat) < _; decide))
        · repeat' (first | exact trivial | refine And.intro ?_ ?_ | rfl | omega | decide | (show (_ : Nat) < _; decide))
    · refine WB_force (gf_ok h27) rfl rfl (by decide) rfl fun _ hS => ?_
      repeat refine And.intro (by first | omega | exact trivial | rfl | exact inR_i64.mpr ⟨by omega, by omega⟩ | (simp [hs] <;> omega) | exact (hs _).symm | (refine And.intro ?_ ?_ <;> exact trivial) | exact ⟨trivial, trivial, trivial⟩) ?_
      refine hS _ _ _ ?_
      clear hS
      refine WB_all [6, 15] (by kernel_rfl) (by decide) (List.forall_mem_cons.2 ⟨?_, List.forall_mem_cons.2 ⟨?_, fun _ h => by cases h⟩⟩)
      · refine WB_force (gf_ok h27) rfl rfl (by decide) rfl fun _ hS => ?_
        repeat refine And.intro (by first | omega | exact trivial | rfl | exact inR_i64.mpr ⟨by omega, by omega⟩ | (simp [hs] <;> omega) | exact (hs _).symm | (refine And.intro ?_ ?_ <;> exact trivial) | exact ⟨trivial, trivial, trivial⟩) ?_
        refine hS _ _ _ ?_
        clear hS
        refine WB_run (gf_ok h27) (g := 0) (by kernel_rfl) [(16, true), (17, true), (15, false), (18, true)] (by kernel_rfl) fun _ hK14 => ?_
        refine d_read rfl rfl (by decide) rfl fun _ hS => ?_
        refine hS _ ?_
        clear hS
        refine d_read rfl rfl (by decide) rfl fun _ hS => ?_
        refine hS _ ?_
        clear hS
        refine d_grow rfl rfl (by decide) rfl fun _ hS => ?_
        repeat refine And.intro (by first | omega | exact trivial | rfl | exact inR_i64.mpr ⟨by omega, by omega⟩ | (simp [hs] <;> omega) | exact (hs _).symm | (refine And.intro ?_ ?_ <;> exact trivial) | exact ⟨trivial, trivial, trivial⟩) ?_
        refine hS _ _ _ ?_
        clear hS
        refine d_read rfl rfl (by decide) rfl fun _ hS => ?_
        refine hS _ ?_
        clear hS
        refine d_nil ?_
        refine hK14 _ _ _ ?_
        refine WB_done (by kernel_rfl) ?_
        refine Done_some [0, 1, 2] id () trivial ⟨?_, ?_, (by decide : List.Nodup ([] : List Nat)), ?_, ?_, ⟨Nat.zero_le _, fun i hi => absurd hi (Nat.not_lt_zero i)⟩⟩
        · repeat' (first | exact trivial | refine And.intro ?_ ?_ | rfl | omega | decide | (show (_ : Nat) < _; decide))
          all_goals first | (simp [lists, Cont.take, Cont.drop] <;> omega) | skip
        · repeat' (first | exact trivial | refine And.intro ?_ ?_ | rfl | omega | decide | (show (_ : Nat) < _; decide))
        · repeat' (first | exact trivial | refine And.intro ?_ ?_ | rfl | omega | decide | (show (_ : Nat) < _; decide))
        · repeat' (first | exact trivial | refine And.intro ?_ ?_ | rfl | omega | decide | (show (_ : Nat) < _; decide))
      · refine WB_force (gf_ok h27) rfl rfl (by decide) rfl fun _ hS => ?_
        repeat refine And.intro (by first | omega | exact trivial | rfl | exact inR_i64.mpr ⟨by omega, by omega⟩ | (simp [hs] <;> omega) | exact (hs _).symm | (refine And.intro ?_ ?_ <;> exact trivial) | exact ⟨trivial, trivial, trivial⟩) ?_
        refine hS _ _ _ ?_
        clear hS
        refine WB_run (gf_ok h27) (g := 0) (by kernel_rfl) [(6, false), (16, true), (17, true), (18, true)] (by kernel_rfl) fun _ hK15 => ?_
        refine d_grow rfl rfl (by decide) rfl fun _ hS => ?_
        repeat refine And.intro (by first | omega | exact trivial | rfl | exact inR_i64.mpr ⟨by omega, by omega⟩ | (simp [hs] <;> omega) | exact (hs _).symm | (refine And.intro ?_ ?_ <;> exact trivial) | exact ⟨trivial, trivial, trivial⟩) ?_
        refine hS _ _ _ ?_
        clear hS
        refine d_read rfl rfl (by decide) rfl fun _ hS => ?_
        refine hS _ ?_
        clear hS
        refine d_read rfl rfl (by decide) rfl fun _ hS => ?_
        refine hS _ ?_
        clear hS
        refine d_read rfl rfl (by decide) rfl fun _ hS => ?_
        refine hS _ ?_
        clear hS
        refine d_nil ?_
        refine hK15 _ _ _ ?_
        refine WB_done (by kernel_rfl) ?_
        refine Done_some [0, 1, 2] id () trivial ⟨?_, ?_, (by decide : List.Nodup ([] : List Nat)), ?_, ?_, ⟨Nat.zero_le _, fun i hi => absurd hi (Nat.not_lt_zero i)⟩⟩
        · repeat' (first | exact trivial | refine And.intro ?_ ?_ | rfl | omega | decide | (show (_ : Nat) < _; decide))
          all_goals first | (simp [lists, Cont.take, Cont.drop] <;> omega) | skip
        · repeat' (first | exact trivial | refine And.intro ?_ ?_ | rfl | omega | decide | (show (_ : Nat) < _; decide))
        · repeat' (first | exact trivial | refine And.intro ?_ ?_ | rfl | omega | decide | (show (_ : Nat) < _; decide))
        · repeat' (first | exact trivial | refine And.intro ?_ ?_ | rfl | omega | decide | (show (_ : Nat) < _; decide))
    · refine WB_force (gf_ok h27) rfl rfl (by decide) rfl fun _ hS => ?_
      repeat refine And.intro (by first | omega | exact trivial | rfl | exact inR_i64.mpr ⟨by omega, by omega⟩ | (simp [hs] <;> omega) | exact (hs _).symm | (refine And.intro ?_ ?_ <;> exact trivial) | exact ⟨trivial, trivial, trivial⟩) ?_
      refine hS _ _ _ ?_
      clear hS
      refine WB_all [6, 13] (by kernel_rfl) (by decide) (List.forall_mem_cons.2 ⟨?_, List.forall_mem_cons.2 ⟨?_, fun _ h => by cases h⟩⟩)
      · refine WB_force (gf_ok h27) rfl rfl (by decide) rfl fun _ hS => ?_
        repeat refine And.intro (by first | omega | exact trivial | rfl | exact inR_i64.mpr ⟨by omega, by omega⟩ | (simp [hs] <;> omega) | exact (hs _).symm | (refine And.intro ?_ ?_ <;> exact trivial) | exact ⟨trivial, trivial, trivial⟩) ?_
        refine hS _ _ _ ?_
        clear hS
        refine WB_run (gf_ok h27) (g := 0) (by kernel_rfl) [(16, true), (13, false), (17, true), (18, true)] (by kernel_rfl) fun _ hK16 => ?_
        refine d_read rfl rfl (by decide) rfl fun _ hS => ?_
        refine hS _ ?_
        clear hS
        refine d_grow rfl rfl (by decide) rfl fun _ hS => ?_
        repeat refine And.intro (by first | omega | exact trivial | rfl | exact inR_i64.mpr ⟨by omega, by omega⟩ | (simp [hs] <;> omega) | exact (hs _).symm | (refine And.intro ?_ ?_ <;> exact trivial) | exact ⟨trivial, trivial, trivial⟩) ?_
        refine hS _ _ _ ?_
        clear hS
        refine d_read rfl rfl (by decide) rfl fun _ hS => ?_
        refine hS _ ?_
        clear hS
        refine d_read rfl rfl (by decide) rfl fun _ hS => ?_
        refine hS _ ?_
        clear hS
        refine d_nil ?_
        refine hK16 _ _ _ ?_
        refine WB_done (by kernel_rfl) ?_
        refine Done_some [0, 1, 2] id () trivial ⟨?_, ?_, (by decide : List.Nodup ([] : List Nat)), ?_, ?_, ⟨Nat.zero_le _, fun i hi => absurd hi (Nat.not_lt_zero i)⟩⟩
        · repeat' (first | exact trivial | refine And.intro ?_ ?_ | rfl | omega | decide | (show (_ : Nat) < _; decide))
          all_goals first | (simp [lists, Cont.take, Cont.drop] <;> omega) | skip
        · repeat' (first | exact trivial | refine And.intro ?_ ?_ | rfl | omega | decide | (show (_ : Nat) < _; decide))
        · repeat' (first | exact trivial | refine And.intro ?_ ?_ | rfl | omega | decide | (show (_ : Nat) < _; decide))
        · repeat' (first | exact trivial | refine And.intro ?_ ?_ | rfl | omega | decide | (show (_ : Nat) < _; decide))
      · refine WB_force (gf_ok h27) rfl rfl (by decide) rfl fun _ hS => ?_
        repeat refine And.intro (by first | omega | exact trivial | rfl | exact inR_i64.mpr ⟨by omega, by omega⟩ | (simp [hs] <;> omega) | exact (hs _).symm | (refine And.intro ?_ ?_ <;> exact trivial) | exact ⟨trivial, trivial, trivial⟩) ?_
        refine hS _ _ _ ?_
        clear hS
        refine WB_run (gf_ok h27) (g := 0) (by kernel_rfl) [(6, false), (16, true), (17, true), (18, true)] (by kernel_rfl) fun _ hK17 => ?_
        refine d_grow rfl rfl (by decide) rfl fun _ hS => ?_
        repeat refine And.intro (by first | omega | exact trivial | rfl | exact inR_i64.mpr ⟨by omega, by omega⟩ | (simp [hs] <;> omega) | exact (hs _).symm | (refine And.intro ?_ ?_ <;> exact trivial) | exact ⟨trivial, trivial, trivial⟩) ?_
        refine hS _ _ _ ?_
        clear hS
        refine d_read rfl rfl (by decide) rfl fun _ hS => ?_
        refine hS _ ?_
        clear hS
        refine d_read rfl rfl (by decide) rfl fun _ hS => ?_
        refine hS _ ?_
        clear hS
        refine d_read rfl rfl (by decide) rfl fun _ hS => ?_
        refine hS _ ?_
        clear hS
        refine d_nil ?_
        refine hK17 _ _ _ ?_
        refine WB_done (by kernel_rfl) ?_
        refine Done_some [0, 1, 2] id () trivial ⟨?_, ?_, (by decide : List.Nodup ([] : List Nat)), ?_, ?_, ⟨Nat.zero_le _, fun i hi => absurd hi (Nat.not_lt_zero i)⟩⟩
        · repeat' (first | exact trivial | refine And.intro ?_ ?_ | rfl | omega | decide | (show (_ : Nat) < _; decide))
          all_goals first | (simp [lists, Cont.take, Cont.drop] <;> omega) | skip
        · repeat' (first | exact trivial | refine And.intro ?_ ?_ | rfl | omega | decide | (show (_ : Nat) < _; decide))
        · repeat' (first | exact trivial | refine And.intro ?_ ?_ | rfl | omega | decide | (show (_ : Nat) < _; decide))
        · repeat' (first | exact trivial | refine And.intro ?_ ?_ | rfl | omega | decide | (show (_ : Nat) < _; decide))
  · intro _ _
    refine seq_k fun _ hK18 => ?_
    refine region_k (gf_ok h27) fun _ hK19 => ?_
    refine s_step rfl (by decide) rfl fun _ hS => ?_
    refine hS _ _ _ ?_
    clear hS
    refine s_step rfl (by decide) rfl fun _ hS => ?_
    repeat first | refine And.intro (by first | omega | exact trivial | rfl | exact inR_i64.mpr ⟨by omega, by omega⟩ | (simp [hs] <;> omega) | exact (hs _).symm | (refine And.intro ?_ ?_ <;> exact trivial) | exact ⟨trivial, trivial, trivial⟩) ?_ | refine whole_yes (by first | omega | exact trivial | rfl | exact inR_i64.mpr ⟨by omega, by omega⟩ | (simp [hs] <;> omega) | exact (hs _).symm | (refine And.intro ?_ ?_ <;> exact trivial) | exact ⟨trivial, trivial, trivial⟩) ?_ | refine whole_sub ?_
    refine Exists.intro [l.take x, l.drop x] ?_
    refine And.intro rfl ?_
    refine And.intro hA ?_
    repeat refine And.intro (by first | omega | exact trivial | rfl | exact inR_i64.mpr ⟨by omega, by omega⟩ | (simp [hs] <;> omega) | exact (hs _).symm | (refine And.intro ?_ ?_ <;> exact trivial) | exact ⟨trivial, trivial, trivial⟩) ?_
    first | refine hS _ _ _ ?_ | (intro cap1 hcap1; refine hS _ _ _ ?_)
    clear hS
    refine s_step rfl (by decide) rfl fun _ hS => ?_
    refine hS _ _ _ ?_
    clear hS
    refine s_step rfl (by decide) rfl fun _ hS => ?_
    repeat first | refine And.intro (by first | omega | exact trivial | rfl | exact inR_i64.mpr ⟨by omega, by omega⟩ | (simp [hs] <;> omega) | exact (hs _).symm | (refine And.intro ?_ ?_ <;> exact trivial) | exact ⟨trivial, trivial, trivial⟩) ?_ | refine whole_yes (by first | omega | exact trivial | rfl | exact inR_i64.mpr ⟨by omega, by omega⟩ | (simp [hs] <;> omega) | exact (hs _).symm | (refine And.intro ?_ ?_ <;> exact trivial) | exact ⟨trivial, trivial, trivial⟩) ?_ | refine whole_sub ?_
    refine Exists.intro [l.take y, l.drop y] ?_
    refine And.intro rfl ?_
    refine And.intro hB ?_
    repeat refine And.intro (by first | omega | exact trivial | rfl | exact inR_i64.mpr ⟨by omega, by omega⟩ | (simp [hs] <;> omega) | exact (hs _).symm | (refine And.intro ?_ ?_ <;> exact trivial) | exact ⟨trivial, trivial, trivial⟩) ?_
    first | refine hS _ _ _ ?_ | (intro cap3 hcap3; refine hS _ _ _ ?_)
    clear hS
    refine s_step rfl (by decide) rfl fun _ hS => ?_
    repeat refine And.intro (by first | omega | exact trivial | rfl | exact inR_i64.mpr ⟨by omega, by omega⟩ | (simp [hs] <;> omega) | exact (hs _).symm | (refine And.intro ?_ ?_ <;> exact trivial) | exact ⟨trivial, trivial, trivial⟩) ?_
    refine hS _ _ _ ?_
    clear hS
    refine s_step rfl (by decide) rfl fun _ hS => ?_
    repeat refine And.intro (by first | omega | exact trivial | rfl | exact inR_i64.mpr ⟨by omega, by omega⟩ | (simp [hs] <;> omega) | exact (hs _).symm | (refine And.intro ?_ ?_ <;> exact trivial) | exact ⟨trivial, trivial, trivial⟩) ?_
    refine hS _ _ _ ?_
    clear hS
    refine s_step0 rfl rfl fun _ hS => ?_
    repeat refine And.intro (by first | omega | exact trivial | rfl | exact inR_i64.mpr ⟨by omega, by omega⟩ | (simp [hs] <;> omega) | exact (hs _).symm | (refine And.intro ?_ ?_ <;> exact trivial) | exact ⟨trivial, trivial, trivial⟩) ?_
    first | refine hS _ _ _ ?_ | (refine splice_full (by first | omega | exact trivial | rfl | exact inR_i64.mpr ⟨by omega, by omega⟩ | (simp [hs] <;> omega) | exact (hs _).symm | (refine And.intro ?_ ?_ <;> exact trivial) | exact ⟨trivial, trivial, trivial⟩) ?_; refine hS _ _ _ ?_)
    clear hS
    refine s_step0 rfl rfl fun _ hS => ?_
    repeat refine And.intro (by first | omega | exact trivial | rfl | exact inR_i64.mpr ⟨by omega, by omega⟩ | (simp [hs] <;> omega) | exact (hs _).symm | (refine And.intro ?_ ?_ <;> exact trivial) | exact ⟨trivial, trivial, trivial⟩) ?_
    first | refine hS _ _ _ ?_ | (refine splice_full (by first | omega | exact trivial | rfl | exact inR_i64.mpr ⟨by omega, by omega⟩ | (simp [hs] <;> omega) | exact (hs _).symm | (refine And.intro ?_ ?_ <;> exact trivial) | exact ⟨trivial, trivial, trivial⟩) ?_; refine hS _ _ _ ?_)
    clear hS
    refine s_nil ?_
    refine hK19 _ _ _ ?_
    refine hK18 _ _ _ ?_
    refine seq_k fun _ hK20 => ?_
    refine sched_k (gf_ok h27) [(0, true), (1, true), (2, false), (3, true), (4, true), (5, true), (7, true), (6, false), (8, false), (9, true), (10, true), (11, true)] rfl (by kernel_rfl) (by kernel_rfl) fun _ hK21 => ?_
    refine d_read rfl rfl (by decide) rfl fun _ hS => ?_
    repeat refine And.intro (by first | omega | exact trivial | rfl | exact inR_i64.mpr ⟨by omega, by omega⟩ | (simp [hs] <;> omega) | exact (hs _).symm | (refine And.intro ?_ ?_ <;> exact trivial) | exact ⟨trivial, trivial, trivial⟩) ?_
    first | refine hS _ ?_ | (refine ite_yes (by first | omega | exact trivial | rfl | exact inR_i64.mpr ⟨by omega, by omega⟩ | (simp [hs] <;> omega) | exact (hs _).symm | (refine And.intro ?_ ?_ <;> exact trivial) | exact ⟨trivial, trivial, trivial⟩) ?_; refine hS _ ?_)
    clear hS
    refine d_read rfl rfl (by decide) rfl fun _ hS => ?_
    refine hS _ ?_
    clear hS
    refine d_grow rfl rfl (by decide) rfl fun _ hS => ?_
    repeat first | refine And.intro (by first | omega | exact trivial | rfl | exact inR_i64.mpr ⟨by omega, by omega⟩ | (simp [hs] <;> omega) | exact (hs _).symm | (refine And.intro ?_ ?_ <;> exact trivial) | exact ⟨trivial, trivial, trivial⟩) ?_ | refine whole_yes (by first | omega | exact trivial | rfl | exact inR_i64.mpr ⟨by omega, by omega⟩ | (simp [hs] <;> omega) | exact (hs _).symm | (refine And.intro ?_ ?_ <;> exact trivial) | exact ⟨trivial, trivial, trivial⟩) ?_ | refine whole_sub ?_
    refine Exists.intro [l] ?_
    refine And.intro rfl ?_
    refine And.intro hC ?_
    repeat refine And.intro (by first | omega | exact trivial | rfl | exact inR_i64.mpr ⟨by omega, by omega⟩ | (simp [hs] <;> omega) | exact (hs _).symm | (refine And.intro ?_ ?_ <;> exact trivial) | exact ⟨trivial, trivial, trivial⟩) ?_
    first | refine hS _ _ _ ?_ | (intro cap2 hcap2; refine hS _ _ _ ?_)
    clear hS
    refine d_read rfl rfl (by decide) rfl fun _ hS => ?_
    repeat refine And.intro (by first | omega | exact trivial | rfl | exact inR_i64.mpr ⟨by omega, by omega⟩ | (simp [hs] <;> omega) | exact (hs _).symm | (refine And.intro ?_ ?_ <;> exact trivial) | exact ⟨trivial, trivial, trivial⟩) ?_
    refine hS _ ?_
    clear hS
    refine d_read rfl rfl (by decide) rfl fun _ hS => ?_
    refine d_split hS (fun hb4 => ?_) (fun hb4 => ?_)
    · clear hS
      simp only [decide_eq_false_iff_not, Bool.not_eq_eq_eq_not, Bool.not_true] at hb4
      refine d_readg (b := true) rfl rfl (by decide) rfl rfl (fun e => absurd e (by decide)) (fun _ => ?_)
      refine d_readg (b := true) rfl rfl (by decide) rfl rfl (fun e => absurd e (by decide)) (fun _ => ?_)
      refine d_growg (b := true) rfl rfl (by decide) rfl rfl (fun e => absurd e (by decide)) (fun _ => ?_)
      refine d_growg (b := true) rfl rfl (by decide) rfl rfl (fun e => absurd e (by decide)) (fun _ => ?_)
      refine d_readg (b := true) rfl rfl (by decide) rfl rfl (fun e => absurd e (by decide)) (fun _ => ?_)
      refine d_read rfl rfl (by decide) rfl fun _ hS => ?_
      refine hS _ ?_
      clear hS
      refine d_read rfl rfl (by decide) rfl fun _ hS => ?_
      refine hS _ ?_
      clear hS
      refine d_nil ?_
      refine hK21 _ _ _ ?_
      refine hK20 _ _ _ ?_
      refine seq_k fun _ hK22 => ?_
      refine sched_k (gf_ok h27) [(0, true), (1, true), (2, true), (3, true), (4, true), (5, true), (6, true), (7, true), (9, true), (8, false), (10, false), (11, true), (12, true), (13, true), (14, true), (15, true), (16, true), (17, true), (18, true), (19, true), (20, true)] rfl (by kernel_rfl) (by kernel_rfl) fun _ hK23 => ?_
      refine d_read rfl rfl (by decide) rfl fun _ hS => ?_
      repeat refine And.intro (by first | omega | exact trivial | rfl | exact inR_i64.mpr ⟨by omega, by omega⟩ | (simp [hs] <;> omega) | exact (hs _).symm | (refine And.intro ?_ ?_ <;> exact trivial) | exact ⟨trivial, trivial, trivial⟩) ?_
      first | refine hS _ ?_ | (refine ite_yes (by first | omega | exact trivial | rfl | exact inR_i64.mpr ⟨by omega, by omega⟩ | (simp [hs] <;> omega) | exact (hs _).symm | (refine And.intro ?_ ?_ <;> exact trivial) | exact ⟨trivial, trivial, trivial⟩) ?_; refine hS _ ?_)
      clear hS
      refine d_read rfl rfl (by decide) rfl fun _ hS => ?_
      repeat refine And.intro (by first | omega | exact trivial | rfl | exact inR_i64.mpr ⟨by omega, by omega⟩ | (simp [hs] <;> omega) | exact (hs _).symm | (refine And.intro ?_ ?_ <;> exact trivial) | exact ⟨trivial, trivial, trivial⟩) ?_
      first | refine hS _ ?_ | (refine ite_yes (by first | omega | exact trivial | rfl | exact inR_i64.mpr ⟨by omega, by omega⟩ | (simp [hs] <;> omega) | exact (hs _).symm | (refine And.intro ?_ ?_ <;> exact trivial) | exact ⟨trivial, trivial, trivial⟩) ?_; refine hS _ ?_)
      clear hS
      refine d_read rfl rfl (by decide) rfl fun _ hS => ?_
      repeat refine And.intro (by first | omega | exact trivial | rfl | exact inR_i64.mpr ⟨by omega, by omega⟩ | (simp [hs] <;> omega) | exact (hs _).symm | (refine And.intro ?_ ?_ <;> exact trivial) | exact ⟨trivial, trivial, trivial⟩) ?_
      refine hS _ ?_
      clear hS
      refine d_read rfl rfl (by decide) rfl fun _ hS => ?_
      refine hS _ ?_
      clear hS
      refine d_read rfl rfl (by decide) rfl fun _ hS => ?_
      refine hS _ ?_
      clear hS
      refine d_read rfl rfl (by decide) rfl fun _ hS => ?_
      repeat refine And.intro (by first | omega | exact trivial | rfl | exact inR_i64.mpr ⟨by omega, by omega⟩ | (simp [hs] <;> omega) | exact (hs _).symm | (refine And.intro ?_ ?_ <;> exact trivial) | exact ⟨trivial, trivial, trivial⟩) ?_
      refine hS _ ?_
      clear hS
      refine d_read rfl rfl (by decide) rfl fun _ hS => ?_
      refine d_split hS (fun hb6 => ?_) (fun hb6 => ?_)
      · clear hS
        simp only [decide_eq_true_eq, Int.natCast_inj] at hb6
        refine d_readg (b := true) rfl rfl (by decide) rfl rfl (fun e => absurd e (by decide)) (fun _ => ?_)
        refine d_readg (b := true) rfl rfl (by decide) rfl rfl (fun e => absurd e (by decide)) (fun _ => ?_)
        refine d_growg (b := true) rfl rfl (by decide) rfl rfl (fun e => absurd e (by decide)) (fun _ => ?_)
        refine d_growg (b := true) rfl rfl (by decide) rfl rfl (fun e => absurd e (by decide)) (fun _ => ?_)
        refine d_readg (b := true) rfl rfl (by decide) rfl rfl (fun e => absurd e (by decide)) (fun _ => ?_)
        refine d_read rfl rfl (by decide) rfl fun _ hS => ?_
        refine hS _ ?_
        clear hS
        refine d_read rfl rfl (by decide) rfl fun _ hS => ?_
        repeat refine And.intro (by first | omega | exact trivial | rfl | exact inR_i64.mpr ⟨by omega, by omega⟩ | (simp [hs] <;> omega) | exact (hs _).symm | (refine And.intro ?_ ?_ <;> exact trivial) | exact ⟨trivial, trivial, trivial⟩) ?_
        refine hS _ ?_
        clear hS
        refine d_read rfl rfl (by decide) rfl fun _ hS => ?_
        refine d_split hS (fun hb14 => ?_) (fun hb14 => ?_)
        rotate_left 1
        · exfalso; first | (simp at hb14; done) | (rw [hb6] at hb14; simp at hb14)
        clear hS
        refine d_readg (b := true) rfl rfl (by decide) rfl rfl (fun _ _ hS => ?_) (fun e => absurd e (by decide))
        refine hS _ ?_
        clear hS
        refine d_read rfl rfl (by decide) rfl fun _ hS => ?_
        refine hS _ ?_
        clear hS
        refine d_read rfl rfl (by decide) rfl fun _ hS => ?_
        refine d_split hS (fun hb17 => ?_) (fun hb17 => ?_)
        rotate_left 1
        · exfalso; first | (simp at hb17; done) | (rw [hb4] at hb17; simp at hb17)
        clear hS
        refine d_readg (b := true) rfl rfl (by decide) rfl rfl (fun _ _ hS => ?_) (fun e => absurd e (by decide))
        refine hS _ ?_
        clear hS
        refine d_read rfl rfl (by decide) rfl fun _ hS => ?_
        refine hS _ ?_
        clear hS
        refine d_read rfl rfl (by decide) rfl fun _ hS => ?_
        refine hS _ ?_
        clear hS
        refine d_nil ?_
        refine hK23 _ _ _ ?_
        refine hK22 _ _ _ ?_
        refine WP_ret (Done_flat (gf_ok h27) (fun _ _ h => h) (by first | rfl | assumption) [.tmp 6] rfl ?_)
        repeat refine And.intro (by first | omega | exact trivial | rfl | (simp <;> omega)) ?_
        try refine ite_yes (by first | omega | exact trivial | rfl | (simp <;> omega)) ?_
        show _ = _
        rfl
      · clear hS
        simp only [decide_eq_false_iff_not, Int.natCast_inj] at hb6
        refine d_readg (b := false) rfl rfl (by decide) rfl rfl (fun _ _ hS => ?_) (fun e => absurd e (by decide))
        refine hS _ ?_
        clear hS
        refine d_readg (b := false) rfl rfl (by decide) rfl rfl (fun _ _ hS => ?_) (fun e => absurd e (by decide))
        refine hS _ ?_
        clear hS
        refine d_growg (b := false) rfl rfl (by decide) rfl rfl (fun _ _ hS => ?_) (fun e => absurd e (by decide))
        repeat first | refine And.intro (by first | omega | exact trivial | rfl | exact inR_i64.mpr ⟨by omega, by omega⟩ | (simp [hs] <;> omega) | exact (hs _).symm | (refine And.intro ?_ ?_ <;> exact trivial) | exact ⟨trivial, trivial, trivial⟩) ?_ | refine whole_yes (by first | omega | exact trivial | rfl | exact inR_i64.mpr ⟨by omega, by omega⟩ | (simp [hs] <;> omega) | exact (hs _).symm | (refine And.intro ?_ ?_ <;> exact trivial) | exact ⟨trivial, trivial, trivial⟩) ?_ | refine whole_sub ?_
        refine Exists.intro [l.take x, l.drop x] ?_
        refine And.intro rfl ?_
        refine And.intro hA ?_
        repeat refine And.intro (by first | omega | exact trivial | rfl | exact inR_i64.mpr ⟨by omega, by omega⟩ | (simp [hs] <;> omega) | exact (hs _).symm | (refine And.intro ?_ ?_ <;> exact trivial) | exact ⟨trivial, trivial, trivial⟩) ?_
        first | refine hS _ _ _ ?_ | (intro cap8 hcap8; refine hS _ _ _ ?_)
        clear hS
        refine d_growg (b := false) rfl rfl (by decide) rfl rfl (fun _ _ hS => ?_) (fun e => absurd e (by decide))
        repeat first | refine And.intro (by first | omega | exact trivial | rfl | exact inR_i64.mpr ⟨by omega, by omega⟩ | (simp [hs] <;> omega) | exact (hs _).symm | (refine And.intro ?_ ?_ <;> exact trivial) | exact ⟨trivial, trivial, trivial⟩) ?_ | refine whole_yes (by first | omega | exact trivial | rfl | exact inR_i64.mpr ⟨by omega, by omega⟩ | (simp [hs] <;> omega) | exact (hs _).symm | (refine And.intro ?_ ?_ <;> exact trivial) | exact ⟨trivial, trivial, trivial⟩) ?_ | refine whole_sub ?_
        refine Exists.intro [l.take y, l.drop y] ?_
        refine And.intro rfl ?_
        refine And.intro hB ?_
        repeat refine And.intro (by first | omega | exact trivial | rfl | exact inR_i64.mpr ⟨by omega, by omega⟩ | (simp [hs] <;> omega) | exact (hs _).symm | (refine And.intro ?_ ?_ <;> exact trivial) | exact ⟨trivial, trivial, trivial⟩) ?_
        first | refine hS _ _ _ ?_ | (intro cap10 hcap10; refine hS _ _ _ ?_)
        clear hS
        refine d_readg (b := false) rfl rfl (by decide) rfl rfl (fun _ _ hS => ?_) (fun e => absurd e (by decide))
        repeat refine And.intro (by first | omega | exact trivial | rfl | exact inR_i64.mpr ⟨by omega, by omega⟩ | (simp [hs] <;> omega) | exact (hs _).symm | (refine And.intro ?_ ?_ <;> exact trivial) | exact ⟨trivial, trivial, trivial⟩) ?_
        refine hS _ ?_
        clear hS
        refine d_read rfl rfl (by decide) rfl fun _ hS => ?_
        refine hS _ ?_
        clear hS
        refine d_read rfl rfl (by decide) rfl fun _ hS => ?_
        repeat refine And.intro (by first | omega | exact trivial | rfl | exact inR_i64.mpr ⟨by omega, by omega⟩ | (simp [hs] <;> omega) | exact (hs _).symm | (refine And.intro ?_ ?_ <;> exact trivial) | exact ⟨trivial, trivial, trivial⟩) ?_
        refine hS _ ?_
        clear hS
        refine d_read rfl rfl (by decide) rfl fun _ hS => ?_
        refine d_split hS (fun hb14 => ?_) (fun hb14 => ?_)
        rotate_left 1
        · exfalso; first | (simp at hb14; done) | (rw [hb6] at hb14; simp at hb14)
        clear hS
        refine d_readg (b := true) rfl rfl (by decide) rfl rfl (fun _ _ hS => ?_) (fun e => absurd e (by decide))
        refine hS _ ?_
        clear hS
        refine d_read rfl rfl (by decide) rfl fun _ hS => ?_
        refine hS _ ?_
        clear hS
        refine d_read rfl rfl (by decide) rfl fun _ hS => ?_
        refine d_split hS (fun hb17 => ?_) (fun hb17 => ?_)
        rotate_left 1
        · exfalso; first | (simp at hb17; done) | (rw [hb4] at hb17; simp at hb17)
        clear hS
        refine d_readg (b := true) rfl rfl (by decide) rfl rfl (fun _ _ hS => ?_) (fun e => absurd e (by decide))
        refine hS _ ?_
        clear hS
        refine d_read rfl rfl (by decide) rfl fun _ hS => ?_
        refine hS _ ?_
        clear hS
        refine d_read rfl rfl (by decide) rfl fun _ hS => ?_
        refine hS _ ?_
        clear hS
        refine d_nil ?_
        refine hK23 _ _ _ ?_
        refine hK22 _ _ _ ?_
        refine WP_ret (Done_flat (gf_ok h27) (fun _ _ h => h) (by first | rfl | assumption) [.tmp 6] rfl ?_)
        repeat refine And.intro (by first | omega | exact trivial | rfl | (simp <;> omega)) ?_
        try refine ite_yes (by first | omega | exact trivial | rfl | (simp <;> omega)) ?_
        show _ = _
        rfl
    · clear hS
      simp only [decide_eq_true_eq, Bool.not_eq_eq_eq_not, Bool.not_false] at hb4
      refine d_readg (b := false) rfl rfl (by decide) rfl rfl (fun _ _ hS => ?_) (fun e => absurd e (by decide))
      refine hS _ ?_
      clear hS
      refine d_readg (b := false) rfl rfl (by decide) rfl rfl (fun _ _ hS => ?_) (fun e => absurd e (by decide))
      refine hS _ ?_
      clear hS
      refine d_growg (b := false) rfl rfl (by decide) rfl rfl (fun _ _ hS => ?_) (fun e => absurd e (by decide))
      repeat first | refine And.intro (by first | omega | exact trivial | rfl | exact inR_i64.mpr ⟨by omega, by omega⟩ | (simp [hs] <;> omega) | exact (hs _).symm | (refine And.intro ?_ ?_ <;> exact trivial) | exact ⟨trivial, trivial, trivial⟩) ?_ | refine whole_yes (by first | omega | exact trivial | rfl | exact inR_i64.mpr ⟨by omega, by omega⟩ | (simp [hs] <;> omega) | exact (hs _).symm | (refine And.intro ?_ ?_ <;> exact trivial) | exact ⟨trivial, trivial, trivial⟩) ?_ | refine whole_sub ?_
      refine Exists.intro [l.take x, l.drop x] ?_
      refine And.intro rfl ?_
      refine And.intro hA ?_
      repeat refine And.intro (by first | omega | exact trivial | rfl | exact inR_i64.mpr ⟨by omega, by omega⟩ | (simp [hs] <;> omega) | exact (hs _).symm | (refine And.intro ?_ ?_ <;> exact trivial) | exact ⟨trivial, trivial, trivial⟩) ?_
      first | refine hS _ _ _ ?_ | (intro cap6 hcap6; refine hS _ _ _ ?_)
      clear hS
      refine d_growg (b := false) rfl rfl (by decide) rfl rfl (fun _ _ hS => ?_) (fun e => absurd e (by decide))
      repeat first | refine And.intro (by first | omega | exact trivial | rfl | exact inR_i64.mpr ⟨by omega, by omega⟩ | (simp [hs] <;> omega) | exact (hs _).symm | (refine And.intro ?_ ?_ <;> exact trivial) | exact ⟨trivial, trivial, trivial⟩) ?_ | refine whole_yes (by first | omega | exact trivial | rfl | exact inR_i64.mpr ⟨by omega, by omega⟩ | (simp [hs] <;> omega) | exact (hs _).symm | (refine And.intro ?_ ?_ <;> exact trivial) | exact ⟨trivial, trivial, trivial⟩) ?_ | refine whole_sub ?_
      refine Exists.intro [l] ?_
      refine And.intro rfl ?_
      refine And.intro hC ?_
      repeat refine And.intro (by first | omega | exact trivial | rfl | exact inR_i64.mpr ⟨by omega, by omega⟩ | (simp [hs] <;> omega) | exact (hs _).symm | (refine And.intro ?_ ?_ <;> exact trivial) | exact ⟨trivial, trivial, trivial⟩) ?_
      first | refine hS _ _ _ ?_ | (intro cap8 hcap8; refine hS _ _ _ ?_)
      clear hS
      refine d_readg (b := false) rfl rfl (by decide) rfl rfl (fun _ _ hS => ?_) (fun e => absurd e (by decide))
      repeat refine And.intro (by first | omega | exact trivial | rfl | exact inR_i64.mpr ⟨by omega, by omega⟩ | (simp [hs] <;> omega) | exact (hs _).symm | (refine And.intro ?_ ?_ <;> exact trivial) | exact ⟨trivial, trivial, trivial⟩) ?_
      refine hS _ ?_
      clear hS
      refine d_read rfl rfl (by decide) rfl fun _ hS => ?_
      refine hS _ ?_
      clear hS
      refine d_read rfl rfl (by decide) rfl fun _ hS => ?_
      refine hS _ ?_
      clear hS
      refine d_nil ?_
      refine hK21 _ _ _ ?_
      refine hK20 _ _ _ ?_
      refine seq_k fun _ hK24 => ?_
      refine sched_k (gf_ok h27) [(0, true), (1, true), (2, true), (3, true), (4, true), (5, true), (6, true), (7, true), (9, true), (8, false), (10, false), (11, true), (12, true), (13, true), (14, true), (15, true), (16, true), (17, true), (18, true), (19, true), (20, true)] rfl (by kernel_rfl) (by kernel_rfl) fun _ hK25 => ?_
      refine d_read rfl rfl (by decide) rfl fun _ hS => ?_
      repeat refine And.intro (by first | omega | exact trivial | rfl | exact inR_i64.mpr ⟨by omega, by omega⟩ | (simp [hs] <;> omega) | exact (hs _).symm | (refine And.intro ?_ ?_ <;> exact trivial) | exact ⟨trivial, trivial, trivial⟩) ?_
      first | refine hS _ ?_ | (refine ite_yes (by first | omega | exact trivial | rfl | exact inR_i64.mpr ⟨by omega, by omega⟩ | (simp [hs] <;> omega) | exact (hs _).symm | (refine And.intro ?_ ?_ <;> exact trivial) | exact ⟨trivial, trivial, trivial⟩) ?_; refine hS _ ?_)
      clear hS
      refine d_read rfl rfl (by decide) rfl fun _ hS => ?_
      repeat refine And.intro (by first | omega | exact trivial | rfl | exact inR_i64.mpr ⟨by omega, by omega⟩ | (simp [hs] <;> omega) | exact (hs _).symm | (refine And.intro ?_ ?_ <;> exact trivial) | exact ⟨trivial, trivial, trivial⟩) ?_
      first | refine hS _ ?_ | (refine ite_yes (by first | omega | exact trivial | rfl | exact inR_i64.mpr ⟨by omega, by omega⟩ | (simp [hs] <;> omega) | exact (hs _).symm | (refine And.intro ?_ ?_ <;> exact trivial) | exact ⟨trivial, trivial, trivial⟩) ?_; refine hS _ ?_)
      clear hS
      refine d_read rfl rfl (by decide) rfl fun _ hS => ?_
      repeat refine And.intro (by first | omega | exact trivial | rfl | exact inR_i64.mpr ⟨by omega, by omega⟩ | (simp [hs] <;> omega) | exact (hs _).symm | (refine And.intro ?_ ?_ <;> exact trivial) | exact ⟨trivial, trivial, trivial⟩) ?_
      refine hS _ ?_
      clear hS
      refine d_read rfl rfl (by decide) rfl fun _ hS => ?_
      refine hS _ ?_
      clear hS
      refine d_read rfl rfl (by decide) rfl fun _ hS => ?_
      refine hS _ ?_
      clear hS
      refine d_read rfl rfl (by decide) rfl fun _ hS => ?_
      repeat refine And.intro (by first | omega | exact trivial | rfl | exact inR_i64.mpr ⟨by omega, by omega⟩ | (simp [hs] <;> omega) | exact (hs _).symm | (refine And.intro ?_ ?_ <;> exact trivial) | exact ⟨trivial, trivial, trivial⟩) ?_
      refine hS _ ?_
      clear hS
      refine d_read rfl rfl (by decide) rfl fun _ hS => ?_
      refine d_split hS (fun hb6 => ?_) (fun hb6 => ?_)
      · clear hS
        simp only [decide_eq_true_eq, Int.natCast_inj] at hb6
        refine d_readg (b := true) rfl rfl (by decide) rfl rfl (fun e => absurd e (by decide)) (fun _ => ?_)
        refine d_readg (b := true) rfl rfl (by decide) rfl rfl (fun e => absurd e (by decide)) (fun _ => ?_)
        refine d_growg (b := true) rfl rfl (by decide) rfl rfl (fun e => absurd e (by decide)) (fun _ => ?_)
        refine d_growg (b := true) rfl rfl (by decide) rfl rfl (fun e => absurd e (by decide)) (fun _ => ?_)
        refine d_readg (b := true) rfl rfl (by decide) rfl rfl (fun e => absurd e (by decide)) (fun _ => ?_)
        refine d_read rfl rfl (by decide) rfl fun _ hS => ?_
        refine hS _ ?_
        clear hS
        refine d_read rfl rfl (by decide) rfl fun _ hS => ?_
        repeat refine And.intro (by first | omega | exact trivial | rfl | exact inR_i64.mpr ⟨by omega, by omega⟩ | (simp [hs] <;> omega) | exact (hs _).symm | (refine And.intro ?_ ?_ <;> exact trivial) | exact ⟨trivial, trivial, trivial⟩) ?_
        refine hS _ ?_
        clear hS
        refine d_read rfl rfl (by decide) rfl fun _ hS => ?_
        refine d_split hS (fun hb14 => ?_) (fun hb14 => ?_)
        rotate_left 1
        · exfalso; first | (simp at hb14; done) | (rw [hb6] at hb14; simp at hb14)
        clear hS
        refine d_readg (b := true) rfl rfl (by decide) rfl rfl (fun _ _ hS => ?_) (fun e => absurd e (by decide))
        refine hS _ ?_
        clear hS
        refine d_read rfl rfl (by decide) rfl fun _ hS => ?_
        refine hS _ ?_
        clear hS
        refine d_read rfl rfl (by decide) rfl fun _ hS => ?_
        refine d_split hS (fun hb17 => ?_) (fun hb17 => ?_)
        rotate_left 1
        · exfalso; first | (simp at hb17; done) | (rw [hb4] at hb17; simp at hb17)
        clear hS
        refine d_readg (b := true) rfl rfl (by decide) rfl rfl (fun _ _ hS => ?_) (fun e => absurd e (by decide))
        refine hS _ ?_
        clear hS
        refine d_read rfl rfl (by decide) rfl fun _ hS => ?_
        refine hS _ ?_
        clear hS
        refine d_read rfl rfl (by decide) rfl fun _ hS => ?_
        refine hS _ ?_
        clear hS
        refine d_nil ?_
        refine hK25 _ _ _ ?_
        refine hK24 _ _ _ ?_
        refine WP_ret (Done_flat (gf_ok h27) (fun _ _ h => h) (by first | rfl | assumption) [.tmp 6] rfl ?_)
        repeat refine And.intro (by first | omega | exact trivial | rfl | (simp <;> omega)) ?_
        try refine ite_yes (by first | omega | exact trivial | rfl | (simp <;> omega)) ?_
        show _ = _
        rfl
      · clear hS
        simp only [decide_eq_false_iff_not, Int.natCast_inj] at hb6
        refine d_readg (b := false) rfl rfl (by decide) rfl rfl (fun _ _ hS => ?_) (fun e => absurd e (by decide))
        refine hS _ ?_
        clear hS
        refine d_readg (b := false) rfl rfl (by decide) rfl rfl (fun _ _ hS => ?_) (fun e => absurd e (by decide))
        refine hS _ ?_
        clear hS
        refine d_growg (b := false) rfl rfl (by decide) rfl rfl (fun _ _ hS => ?_) (fun e => absurd e (by decide))
        repeat first | refine And.intro (by first | omega | exact trivial | rfl | exact inR_i64.mpr ⟨by omega, by omega⟩ | (simp [hs] <;> omega) | exact (hs _).symm | (refine And.intro ?_ ?_ <;> exact trivial) | exact ⟨trivial, trivial, trivial⟩) ?_ | refine whole_yes (by first | omega | exact trivial | rfl | exact inR_i64.mpr ⟨by omega, by omega⟩ | (simp [hs] <;> omega) | exact (hs _).symm | (refine And.intro ?_ ?_ <;> exact trivial) | exact ⟨trivial, trivial, trivial⟩) ?_ | refine whole_sub ?_
        refine Exists.intro [l.take x, l.drop x] ?_
        refine And.intro rfl ?_
        refine And.intro hA ?_
        repeat refine And.intro (by first | omega | exact trivial | rfl | exact inR_i64.mpr ⟨by omega, by omega⟩ | (simp [hs] <;> omega) | exact (hs _).symm | (refine And.intro ?_ ?_ <;> exact trivial) | exact ⟨trivial, trivial, trivial⟩) ?_
        first | refine hS _ _ _ ?_ | (intro cap8 hcap8; refine hS _ _ _ ?_)
        clear hS
        refine d_growg (b := false) rfl rfl (by decide) rfl rfl (fun _ _ hS => ?_) (fun e => absurd e (by decide))
        repeat first | refine And.intro (by first | omega | exact trivial | rfl | exact inR_i64.mpr ⟨by omega, by omega⟩ | (simp [hs] <;> omega) | exact (hs _).symm | (refine And.intro ?_ ?_ <;> exact trivial) | exact ⟨trivial, trivial, trivial⟩) ?_ | refine whole_yes (by first | omega | exact trivial | rfl | exact inR_i64.mpr ⟨by omega, by omega⟩ | (simp [hs] <;> omega) | exact (hs _).symm | (refine And.intro ?_ ?_ <;> exact trivial) | exact ⟨trivial, trivial, trivial⟩) ?_ | refine whole_sub ?_
        refine Exists.intro [l.take y, l.drop y] ?_
        refine And.intro rfl ?_
        refine And.intro hB ?_
        repeat refine And.intro (by first | omega | exact trivial | rfl | exact inR_i64.mpr ⟨by omega, by omega⟩ | (simp [hs] <;> omega) | exact (hs _).symm | (refine And.intro ?_ ?_ <;> exact trivial) | exact ⟨trivial, trivial, trivial⟩) ?_
        first | refine hS _ _ _ ?_ | (intro cap10 hcap10; refine hS _ _ _ ?_)
        clear hS
        refine d_readg (b := false) rfl rfl (by decide) rfl rfl (fun _ _ hS => ?_) (fun e => absurd e (by decide))
        repeat refine And.intro (by first | omega | exact trivial | rfl | exact inR_i64.mpr ⟨by omega, by omega⟩ | (simp [hs] <;> omega) | exact (hs _).symm | (refine And.intro ?_ ?_ <;> exact trivial) | exact ⟨trivial, trivial, trivial⟩) ?_
        refine hS _ ?_
        clear hS
        refine d_read rfl rfl (by decide) rfl fun _ hS => ?_
        refine hS _ ?_
        clear hS
        refine d_read rfl rfl (by decide) rfl fun _ hS => ?_
        repeat refine And.intro (by first | omega | exact trivial | rfl | exact inR_i64.mpr ⟨by omega, by omega⟩ | (simp [hs] <;> omega) | exact (hs _).symm | (refine And.intro ?_ ?_ <;> exact trivial) | exact ⟨trivial, trivial, trivial⟩) ?_
        refine hS _ ?_
        clear hS
        refine d_read rfl rfl (by decide) rfl fun _ hS => ?_
        refine d_split hS (fun hb14 => ?_) (fun hb14 => ?_)
        rotate_left 1
        · exfalso; first | (simp at hb14; done) | (rw [hb6] at hb14; simp at hb14)
        clear hS
        refine d_readg (b := true) rfl rfl (by decide) rfl rfl (fun _ _ hS => ?_) (fun e => absurd e (by decide))
        refine hS _ ?_
        clear hS
        refine d_read rfl rfl (by decide) rfl fun _ hS => ?_
        refine hS _ ?_
        clear hS
        refine d_read rfl rfl (by decide) rfl fun _ hS => ?_
        refine d_split hS (fun hb17 => ?_) (fun hb17 => ?_)
        rotate_left 1
        · exfalso; first | (simp at hb17; done) | (rw [hb4] at hb17; simp at hb17)
        clear hS
        refine d_readg (b := true) rfl rfl (by decide) rfl rfl (fun _ _ hS => ?_) (fun e => absurd e (by decide))
        refine hS _ ?_
        clear hS
        refine d_read rfl rfl (by decide) rfl fun _ hS => ?_
        refine hS _ ?_
        clear hS
        refine d_read rfl rfl (by decide) rfl fun _ hS => ?_
        refine hS _ ?_
        clear hS
        refine d_nil ?_
        refine hK25 _ _ _ ?_
        refine hK24 _ _ _ ?_
        refine WP_ret (Done_flat (gf_ok h27) (fun _ _ h => h) (by first | rfl | assumption) [.tmp 6] rfl ?_)
        repeat refine And.intro (by first | omega | exact trivial | rfl | (simp <;> omega)) ?_
        try refine ite_yes (by first | omega | exact trivial | rfl | (simp <;> omega)) ?_
        show _ = _
        rfl
end Go.Proofs.YtdanaehfdbdhdaaDoor
