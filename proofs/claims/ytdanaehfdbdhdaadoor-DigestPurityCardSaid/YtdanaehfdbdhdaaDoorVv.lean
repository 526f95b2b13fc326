/- The law of purity. -/
import Derived.Test.YtdanaehfdbdhdaaDoorVu
namespace Go.Proofs.YtdanaehfdbdhdaaDoor
set_option linter.unusedVariables false
open Go.Ab Go.RowKit

noncomputable def gg : Ctx := { P := Tryd.prog, ty := ty, glob := gl, fs := [(11, .flat sanityS), (12, .data shortS), (14, .flat sumS), (16, .flat keyedS), (18, .flat fieldsS), (26, .flat sameBytesS)] }
theorem gg_ok (h27 : FlatOK Tryd.prog gl 27 hashS) : gg.OK := ⟨tyOK, ⟨⟨enters_mk Tryd.func11 (by kernel_rfl) rfl, sanity_ok h27⟩, ⟨enters_mk Tryd.func12 (by kernel_rfl) rfl, short_ok⟩, ⟨enters_mk Tryd.func14 (by kernel_rfl) rfl, sum_ok h27⟩, ⟨enters_mk Tryd.func16 (by kernel_rfl) rfl, keyed_ok h27⟩, ⟨enters_mk Tryd.func18 (by kernel_rfl) rfl, fields_ok h27⟩, ⟨enters_mk Tryd.func26 (by kernel_rfl) rfl, sameBytes_ok⟩, trivial⟩, mixed⟩
@[simp] theorem gg_ty : gg.ty = ty := rfl


attribute [local irreducible] Sha.sum encode keyed
def lawPurityS : QSpec := fun vs K => ∃ l m d, vs = [.c (.ds l.length (.u8s l)), .c (.ds m.length (.u8s m)), .agg (.u8s d)] ∧ (l.length ≤ 9223372036854775807 ∧ m.length ≤ 9223372036854775807 ∧ d.length = 32) ∧ K (.c (.bool true))
set_option maxHeartbeats 2000000 in
theorem lawPurity_ok (h27 : FlatOK Tryd.prog gl 27 hashS) : FlatOK Tryd.prog gl 10 lawPurityS := by
  refine flat_of (Γ := gg) (N := 75) Tryd.func10 rfl rfl fun vs K h => ?_
  obtain ⟨l0, m0, d, rfl, ⟨hl0, hm0, hd⟩, h⟩ := h
  refine ⟨_, h, rfl, by simp, fun w I => ?_⟩
  have hs := Sha.sum_length
  have hkl := keyed_length
  refine seq_k fun _ hK1 => ?_
  refine region_k (gg_ok h27) fun _ hK2 => ?_
  refine s_step rfl (by decide) rfl fun _ hS => ?_
  repeat refine And.intro (by first | omega | exact trivial | rfl | exact inR_i64.mpr ⟨by omega, by omega⟩ | (simp [hs, hkl, hd] <;> omega) | exact hd.symm | (refine And.intro ?_ ?_ <;> exact trivial) | exact ⟨trivial, trivial, trivial⟩) ?_
  refine hS _ _ _ ?_
  clear hS
  refine s_step rfl (by decide) rfl fun _ hS => ?_
  refine hS _ _ _ ?_
  clear hS
  refine s_nil ?_
  refine hK2 _ _ _ ?_
  refine hK1 _ _ _ ?_
  refine seq_k fun _ hK3 => ?_
  refine region_k (gg_ok h27) fun _ hK4 => ?_
  refine s_step rfl (by decide) rfl fun _ hS => ?_
  repeat first | refine And.intro (by first | omega | exact trivial | rfl | exact inR_i64.mpr ⟨by omega, by omega⟩ | (simp [hs, hkl, hd] <;> omega) | exact hd | exact hd.symm | exact (hs _).symm | exact (hkl _ _).symm | (refine And.intro ?_ ?_ <;> exact trivial) | exact ⟨trivial, trivial, trivial⟩) ?_ | refine whole_yes (by first | omega | exact trivial | rfl | exact inR_i64.mpr ⟨by omega, by omega⟩ | (simp [hs, hkl, hd] <;> omega) | exact hd | exact hd.symm | exact (hs _).symm | exact (hkl _ _).symm | (refine And.intro ?_ ?_ <;> exact trivial) | exact ⟨trivial, trivial, trivial⟩) ?_ | refine whole_sub ?_
  first | refine hS _ _ _ ?_ | (intro cap0 hcap0; refine hS _ _ _ ?_)
  clear hS
  refine s_step rfl (by decide) rfl fun _ hS => ?_
  refine hS _ _ _ ?_
  clear hS
  refine s_nil ?_
  refine hK4 _ _ _ ?_
  refine hK3 _ _ _ ?_
  refine seq_k fun _ hK5 => ?_
  refine region_k (gg_ok h27) fun _ hK6 => ?_
  refine s_step rfl (by decide) rfl fun _ hS => ?_
  repeat refine And.intro (by first | omega | exact trivial | rfl | exact inR_i64.mpr ⟨by omega, by omega⟩ | (simp [hs, hkl, hd] <;> omega) | exact hd | exact hd.symm | exact (hs _).symm | exact (hkl _ _).symm | (refine And.intro ?_ ?_ <;> exact trivial) | exact ⟨trivial, trivial, trivial⟩) ?_
  refine hS _ _ _ ?_
  clear hS
  refine s_step rfl (by decide) rfl fun _ hS => ?_
  refine hS _ _ _ ?_
  clear hS
  refine s_step rfl (by decide) rfl fun _ hS => ?_
  repeat first | refine And.intro (by first | omega | exact trivial | rfl | exact inR_i64.mpr ⟨by omega, by omega⟩ | (simp [hs, hkl, hd] <;> omega) | exact hd | exact hd.symm | exact (hs _).symm | exact (hkl _ _).symm | (refine And.intro ?_ ?_ <;> exact trivial) | exact ⟨trivial, trivial, trivial⟩) ?_ | refine whole_yes (by first | omega | exact trivial | rfl | exact inR_i64.mpr ⟨by omega, by omega⟩ | (simp [hs, hkl, hd] <;> omega) | exact hd | exact hd.symm | exact (hs _).symm | exact (hkl _ _).symm | (refine And.intro ?_ ?_ <;> exact trivial) | exact ⟨trivial, trivial, trivial⟩) ?_ | refine whole_sub ?_
  first | refine hS _ _ _ ?_ | (intro cap2 hcap2; refine hS _ _ _ ?_)
  clear hS
  refine s_step rfl (by decide) rfl fun _ hS => ?_
  repeat first | refine And.intro (by first | omega | exact trivial | rfl | exact inR_i64.mpr ⟨by omega, by omega⟩ | (simp <;> omega) | exact hd | exact hd.symm | exact (hs _).symm | exact (hkl _ _).symm | (refine And.intro ?_ ?_ <;> exact trivial) | exact ⟨trivial, trivial, trivial⟩) ?_ | refine whole_yes (by first | omega | exact trivial | rfl | exact inR_i64.mpr ⟨by omega, by omega⟩ | (simp [hs, hkl, hd] <;> omega) | exact hd | exact hd.symm | exact (hs _).symm | exact (hkl _ _).symm | (refine And.intro ?_ ?_ <;> exact trivial) | exact ⟨trivial, trivial, trivial⟩) ?_ | refine whole_sub ?_
  intro cap3 hcap3; refine hS _ _ _ ?_
  clear hS
  refine s_step rfl (by decide) rfl fun _ hS => ?_
  refine hS _ _ _ ?_
  clear hS
  refine s_nil ?_
  refine hK6 _ _ _ ?_
  refine hK5 _ _ _ ?_
  refine seq_k fun _ hK7 => ?_
  refine region_k (gg_ok h27) fun _ hK8 => ?_
  refine s_step rfl (by decide) rfl fun _ hS => ?_
  refine hS _ _ _ ?_
  clear hS
  refine s_step rfl (by decide) rfl fun _ hS => ?_
  repeat refine And.intro (by first | omega | exact trivial | rfl | exact inR_i64.mpr ⟨by omega, by omega⟩ | (simp [hs, hkl, hd] <;> omega) | exact hd | exact hd.symm | exact (hs _).symm | exact (hkl _ _).symm | (refine And.intro ?_ ?_ <;> exact trivial) | exact ⟨trivial, trivial, trivial⟩) ?_
  refine hS _ _ _ ?_
  clear hS
  refine s_step rfl (by decide) rfl fun _ hS => ?_
  refine hS _ _ _ ?_
  clear hS
  refine s_nil ?_
  refine hK8 _ _ _ ?_
  refine hK7 _ _ _ ?_
  refine seq_k fun _ hK9 => ?_
  refine region_k (gg_ok h27) fun _ hK10 => ?_
  refine s_step rfl (by decide) rfl fun _ hS => ?_
  refine hS _ _ _ ?_
  clear hS
  refine s_step rfl (by decide) rfl fun _ hS => ?_
  refine hS _ _ _ ?_
  clear hS
  refine s_step rfl (by decide) rfl fun _ hS => ?_
  repeat first | refine And.intro (by first | omega | exact trivial | rfl | exact inR_i64.mpr ⟨by omega, by omega⟩ | (simp [hs, hkl, hd] <;> omega) | exact hd | exact hd.symm | exact (hs _).symm | exact (hkl _ _).symm | (refine And.intro ?_ ?_ <;> exact trivial) | exact ⟨trivial, trivial, trivial⟩) ?_ | refine whole_yes (by first | omega | exact trivial | rfl | exact inR_i64.mpr ⟨by omega, by omega⟩ | (simp [hs, hkl, hd] <;> omega) | exact hd | exact hd.symm | exact (hs _).symm | exact (hkl _ _).symm | (refine And.intro ?_ ?_ <;> exact trivial) | exact ⟨trivial, trivial, trivial⟩) ?_ | refine whole_sub ?_
  first | refine hS _ _ _ ?_ | (intro cap2 hcap2; refine hS _ _ _ ?_)
  clear hS
  refine s_step rfl (by decide) rfl fun _ hS => ?_
  repeat first | refine And.intro (by first | omega | exact trivial | rfl | exact inR_i64.mpr ⟨by omega, by omega⟩ | (simp <;> omega) | exact hd | exact hd.symm | exact (hs _).symm | exact (hkl _ _).symm | (refine And.intro ?_ ?_ <;> exact trivial) | exact ⟨trivial, trivial, trivial⟩) ?_ | refine whole_yes (by first | omega | exact trivial | rfl | exact inR_i64.mpr ⟨by omega, by omega⟩ | (simp [hs, hkl, hd] <;> omega) | exact hd | exact hd.symm | exact (hs _).symm | exact (hkl _ _).symm | (refine And.intro ?_ ?_ <;> exact trivial) | exact ⟨trivial, trivial, trivial⟩) ?_ | refine whole_sub ?_
  intro cap3 hcap3; refine hS _ _ _ ?_
  clear hS
  refine s_step rfl (by decide) rfl fun _ hS => ?_
  refine hS _ _ _ ?_
  clear hS
  refine s_nil ?_
  refine hK10 _ _ _ ?_
  refine hK9 _ _ _ ?_
  refine seq_k fun _ hK11 => ?_
  refine region_k (gg_ok h27) fun _ hK12 => ?_
  refine s_step rfl (by decide) rfl fun _ hS => ?_
  repeat refine And.intro (by first | omega | exact trivial | rfl | exact inR_i64.mpr ⟨by omega, by omega⟩ | (simp [hs, hkl, hd] <;> omega) | exact hd | exact hd.symm | exact (hs _).symm | exact (hkl _ _).symm | (refine And.intro ?_ ?_ <;> exact trivial) | exact ⟨trivial, trivial, trivial⟩) ?_
  refine hS _ _ _ ?_
  clear hS
  refine s_step rfl (by decide) rfl fun _ hS => ?_
  refine hS _ _ _ ?_
  clear hS
  refine s_step rfl (by decide) rfl fun _ hS => ?_
  repeat first | refine And.intro (by first | omega | exact trivial | rfl | exact inR_i64.mpr ⟨by omega, by omega⟩ | (simp <;> omega) | exact hd | exact hd.symm | exact (hs _).symm | exact (hkl _ _).symm | (refine And.intro ?_ ?_ <;> exact trivial) | exact ⟨trivial, trivial, trivial⟩) ?_ | refine whole_yes (by first | omega | exact trivial | rfl | exact inR_i64.mpr ⟨by omega, by omega⟩ | (simp <;> omega) | exact hd | exact hd.symm | exact (hs _).symm | exact (hkl _ _).symm | (refine And.intro ?_ ?_ <;> exact trivial) | exact ⟨trivial, trivial, trivial⟩) ?_ | refine whole_sub ?_
  intro cap2 hcap2; refine hS _ _ _ ?_
  clear hS
  refine s_step rfl (by decide) rfl fun _ hS => ?_
  refine hS _ _ _ ?_
  clear hS
  refine s_nil ?_
  refine hK12 _ _ _ ?_
  generalize hl : l0.take (Int.toNat 200) = l
  generalize hm : m0.take (Int.toNat 64) = m
  have hll : l.length ≤ 200 := by rw [← hl]; simp; omega
  have hml : m.length ≤ 64 := by rw [← hm]; simp; omega
  refine hK11 _ _ _ ?_
  refine WP_cut (α := Unit) (fun _ => [(5, .c (.dp (.u8s d) 0)), (7, .c (.bool true)), (9, .c (.int .i64 l.length)), (10, .c (.ds (l ++ m).length (.u8s (l ++ m)))), (11, .c (.ds (l ++ m).length (.u8s (l ++ m)))), (12, .c (.dp (.u8s (Sha.sum l)) 0)), (13, .c (.dp (.u8s (keyed d l)) 0))]) (fun _ => []) 8 (fun _ => True) ?_ ?_
  · skip
    refine WP_le (is := [0, 3, 5]) (ρ := id) (E' := [(5, .c (.dp (.u8s d) 0)), (7, .c (.bool true)), (9, .c (.int .i64 l.length)), (10, .c (.ds (l ++ m).length (.u8s (l ++ m)))), (11, .c (.ds (l ++ m).length (.u8s (l ++ m))))]) (H' := []) (n' := 6) ⟨?_, ?_, (by decide : List.Nodup ([] : List Nat)), ?_, ?_, ⟨Nat.zero_le _, fun i hi => absurd hi (Nat.not_lt_zero i)⟩⟩ ?_
    · repeat' (first | exact trivial | refine And.intro ?_ ?_ | rfl | omega | decide | (show (_ : Nat) < _; decide))
      all_goals first | (simp [hd]; done) | (simp [Cont.sub, Cont.take, Cont.drop, hs, hkl, hd] <;> omega) | skip
    · repeat' (first | exact trivial | refine And.intro ?_ ?_ | rfl | omega | decide | (show (_ : Nat) < _; decide))
      all_goals first | (simp [hd]; done) | (simp [Cont.sub, Cont.take, Cont.drop, hs, hkl, hd] <;> omega) | skip
    · repeat' (first | exact trivial | refine And.intro ?_ ?_ | rfl | omega | decide | (show (_ : Nat) < _; decide))
    · repeat' (first | exact trivial | refine And.intro ?_ ?_ | rfl | omega | decide | (show (_ : Nat) < _; decide))
    refine tree_k (gg_ok h27) ?_
    refine WB_run (gg_ok h27) (g := 6) (by kernel_rfl) [(0, true), (1, true), (2, true), (4, true), (5, true), (6, true), (7, true)] (by kernel_rfl) fun _ hK14 => ?_
    refine d_read rfl rfl (by decide) rfl fun _ hS => ?_
    refine hS _ ?_
    clear hS
    refine d_read rfl rfl (by decide) rfl fun _ hS => ?_
    refine hS _ ?_
    clear hS
    refine d_read rfl rfl (by decide) rfl fun _ hS => ?_
    repeat refine And.intro (by first | omega | exact trivial | rfl | exact inR_i64.mpr ⟨by omega, by omega⟩ | (simp <;> omega) | exact hd | exact hd.symm | exact (hs _).symm | exact (hkl _ _).symm | (refine And.intro ?_ ?_ <;> exact trivial) | exact ⟨trivial, trivial, trivial⟩) ?_
    first | refine hS _ ?_ | (refine ite_yes (by first | omega | exact trivial | rfl | exact inR_i64.mpr ⟨by omega, by omega⟩ | (simp [hs, hkl, hd] <;> omega) | exact hd | exact hd.symm | exact (hs _).symm | exact (hkl _ _).symm | (refine And.intro ?_ ?_ <;> exact trivial) | exact ⟨trivial, trivial, trivial⟩) ?_; (repeat refine And.intro (by first | omega | exact trivial | rfl | exact inR_i64.mpr ⟨by omega, by omega⟩ | (simp [hs, hkl, hd] <;> omega) | exact hd | exact hd.symm | exact (hs _).symm | exact (hkl _ _).symm | (refine And.intro ?_ ?_ <;> exact trivial) | exact ⟨trivial, trivial, trivial⟩) ?_); refine hS _ ?_)
    clear hS
    refine d_read rfl rfl (by decide) rfl fun _ hS => ?_
    repeat refine And.intro (by first | omega | exact trivial | rfl | exact inR_i64.mpr ⟨by omega, by omega⟩ | (simp [hd] <;> omega) | exact hd | exact hd.symm | exact (hs _).symm | exact (hkl _ _).symm | (refine And.intro ?_ ?_ <;> exact trivial) | exact ⟨trivial, trivial, trivial⟩) ?_
    first | refine hS _ ?_ | (refine ite_yes (by first | omega | exact trivial | rfl | exact inR_i64.mpr ⟨by omega, by omega⟩ | (simp [hd] <;> omega) | exact hd | exact hd.symm | exact (hs _).symm | exact (hkl _ _).symm | (refine And.intro ?_ ?_ <;> exact trivial) | exact ⟨trivial, trivial, trivial⟩) ?_; refine hS _ ?_)
    clear hS
    refine d_read rfl rfl (by decide) rfl fun _ hS => ?_
    refine hS _ ?_
    clear hS
    refine d_read rfl rfl (by decide) rfl fun _ hS => ?_
    refine hS _ ?_
    clear hS
    refine d_read rfl rfl (by decide) rfl fun _ hS => ?_
    repeat refine And.intro (by first | omega | exact trivial | rfl | exact inR_i64.mpr ⟨by omega, by omega⟩ | (simp <;> omega) | exact hd | exact hd.symm | exact (hs _).symm | exact (hkl _ _).symm | (refine And.intro ?_ ?_ <;> exact trivial) | exact ⟨trivial, trivial, trivial⟩) ?_
    first | refine hS _ ?_ | (refine ite_yes (by first | omega | exact trivial | rfl | exact inR_i64.mpr ⟨by omega, by omega⟩ | (simp [hs, hkl, hd] <;> omega) | exact hd | exact hd.symm | exact (hs _).symm | exact (hkl _ _).symm | (refine And.intro ?_ ?_ <;> exact trivial) | exact ⟨trivial, trivial, trivial⟩) ?_; (repeat refine And.intro (by first | omega | exact trivial | rfl | exact inR_i64.mpr ⟨by omega, by omega⟩ | (simp [hs, hkl, hd] <;> omega) | exact hd | exact hd.symm | exact (hs _).symm | exact (hkl _ _).symm | (refine And.intro ?_ ?_ <;> exact trivial) | exact ⟨trivial, trivial, trivial⟩) ?_); refine hS _ ?_)
    clear hS
    refine d_nil ?_
    refine hK14 _ _ _ ?_
    refine WB_all [3, 9, 10] (by kernel_rfl) (by decide) (List.forall_mem_cons.2 ⟨?_, List.forall_mem_cons.2 ⟨?_, List.forall_mem_cons.2 ⟨?_, fun _ h => by cases h⟩⟩⟩)
    · refine WB_force (gg_ok h27) rfl rfl (by decide) rfl fun _ hS => ?_
      repeat first | refine And.intro (by first | omega | exact trivial | rfl | exact inR_i64.mpr ⟨by omega, by omega⟩ | (simp <;> omega) | exact hd | exact hd.symm | exact (hs _).symm | exact (hkl _ _).symm | (refine And.intro ?_ ?_ <;> exact trivial) | exact ⟨trivial, trivial, trivial⟩) ?_ | refine whole_yes (by first | omega | exact trivial | rfl | exact inR_i64.mpr ⟨by omega, by omega⟩ | (simp [hs, hkl, hd] <;> omega) | exact hd | exact hd.symm | exact (hs _).symm | exact (hkl _ _).symm | (refine And.intro ?_ ?_ <;> exact trivial) | exact ⟨trivial, trivial, trivial⟩) ?_ | refine whole_sub ?_
      first | refine hS _ _ _ ?_ | (intro cap3 hcap3; refine hS _ _ _ ?_)
      clear hS
      refine WB_all [8, 9, 10] (by kernel_rfl) (by decide) (List.forall_mem_cons.2 ⟨?_, List.forall_mem_cons.2 ⟨?_, List.forall_mem_cons.2 ⟨?_, fun _ h => by cases h⟩⟩⟩)
      · refine WB_force (gg_ok h27) rfl rfl (by decide) rfl fun _ hS => ?_
        repeat first | refine And.intro (by first | omega | exact trivial | rfl | exact inR_i64.mpr ⟨by omega, by omega⟩ | (simp [hd] <;> omega) | exact hd | exact hd.symm | exact (hs _).symm | exact (hkl _ _).symm | (refine And.intro ?_ ?_ <;> exact trivial) | exact ⟨trivial, trivial, trivial⟩) ?_ | refine whole_yes (by first | omega | exact trivial | rfl | exact inR_i64.mpr ⟨by omega, by omega⟩ | (simp [hs, hkl, hd] <;> omega) | exact hd | exact hd.symm | exact (hs _).symm | exact (hkl _ _).symm | (refine And.intro ?_ ?_ <;> exact trivial) | exact ⟨trivial, trivial, trivial⟩) ?_ | refine whole_sub ?_
        first | refine hS _ _ _ ?_ | (intro cap8 hcap8; refine hS _ _ _ ?_)
        clear hS
        refine WB_all [9, 10] (by kernel_rfl) (by decide) (List.forall_mem_cons.2 ⟨?_, List.forall_mem_cons.2 ⟨?_, fun _ h => by cases h⟩⟩)
        · refine WB_force (gg_ok h27) rfl rfl (by decide) rfl fun _ hS => ?_
          repeat refine And.intro (by first | omega | exact trivial | rfl | exact inR_i64.mpr ⟨by omega, by omega⟩ | (simp [hs, hkl, hd] <;> omega) | exact hd | exact hd.symm | exact (hs _).symm | exact (hkl _ _).symm | (refine And.intro ?_ ?_ <;> exact trivial) | exact ⟨trivial, trivial, trivial⟩) ?_
          refine hS _ _ _ ?_
          clear hS
          refine WB_run (gg_ok h27) (g := 0) (by kernel_rfl) [(10, false), (11, false), (12, false)] (by kernel_rfl) fun _ hK15 => ?_
          refine d_grow rfl rfl (by decide) rfl fun _ hS => ?_
          repeat refine And.intro (by first | omega | exact trivial | rfl | exact inR_i64.mpr ⟨by omega, by omega⟩ | (simp [hs, hkl, hd] <;> omega) | exact hd | exact hd.symm | exact (hs _).symm | exact (hkl _ _).symm | (refine And.intro ?_ ?_ <;> exact trivial) | exact ⟨trivial, trivial, trivial⟩) ?_
          refine hS _ _ _ ?_
          clear hS
          refine d_grow0 rfl rfl rfl fun _ hS => ?_
          repeat refine And.intro (by first | omega | exact trivial | rfl | exact inR_i64.mpr ⟨by omega, by omega⟩ | (simp [hs] <;> omega) | exact hd | exact hd.symm | exact (hs _).symm | exact (hkl _ _).symm | (refine And.intro ?_ ?_ <;> exact trivial) | exact ⟨trivial, trivial, trivial⟩) ?_
          first | refine hS _ _ _ ?_ | (refine splice_full (by first | omega | exact trivial | rfl | exact inR_i64.mpr ⟨by omega, by omega⟩ | (simp [hs] <;> omega) | exact hd | exact hd.symm | exact (hs _).symm | exact (hkl _ _).symm | (refine And.intro ?_ ?_ <;> exact trivial) | exact ⟨trivial, trivial, trivial⟩) ?_; refine hS _ _ _ ?_)
          clear hS
          refine d_grow0 rfl rfl rfl fun _ hS => ?_
          repeat refine And.intro (by first | omega | exact trivial | rfl | exact inR_i64.mpr ⟨by omega, by omega⟩ | (simp [hkl] <;> omega) | exact hd | exact hd.symm | exact (hs _).symm | exact (hkl _ _).symm | (refine And.intro ?_ ?_ <;> exact trivial) | exact ⟨trivial, trivial, trivial⟩) ?_
          first | refine hS _ _ _ ?_ | (refine splice_full (by first | omega | exact trivial | rfl | exact inR_i64.mpr ⟨by omega, by omega⟩ | (simp [hkl] <;> omega) | exact hd | exact hd.symm | exact (hs _).symm | exact (hkl _ _).symm | (refine And.intro ?_ ?_ <;> exact trivial) | exact ⟨trivial, trivial, trivial⟩) ?_; refine hS _ _ _ ?_)
          clear hS
          refine d_nil ?_
          refine hK15 _ _ _ ?_
          refine WB_done (by kernel_rfl) ?_
          refine Done_some [6, 7] id () trivial ⟨?_, ?_, (by decide : List.Nodup ([] : List Nat)), ?_, ?_, ⟨Nat.zero_le _, fun i hi => absurd hi (Nat.not_lt_zero i)⟩⟩
          · repeat' (first | exact trivial | refine And.intro ?_ ?_ | rfl | omega | decide | (show (_ : Nat) < _; decide))
            all_goals first | (simp; done) | (simp [hs, hkl] <;> omega) | skip
          · repeat' (first | exact trivial | refine And.intro ?_ ?_ | rfl | omega | decide | (show (_ : Nat) < _; decide))
          · repeat' (first | exact trivial | refine And.intro ?_ ?_ | rfl | omega | decide | (show (_ : Nat) < _; decide))
          · repeat' (first | exact trivial | refine And.intro ?_ ?_ | rfl | omega | decide | (show (_ : Nat) < _; decide))
        · refine WB_force (gg_ok h27) rfl rfl (by decide) rfl fun _ hS => ?_
          repeat refine And.intro (by first | omega | exact trivial | rfl | exact inR_i64.mpr ⟨by omega, by omega⟩ | (simp [hs, hkl, hd] <;> omega) | exact hd | exact hd.symm | exact (hs _).symm | exact (hkl _ _).symm | (refine And.intro ?_ ?_ <;> exact trivial) | exact ⟨trivial, trivial, trivial⟩) ?_
          refine hS _ _ _ ?_
          clear hS
          refine WB_run (gg_ok h27) (g := 0) (by kernel_rfl) [(9, false), (11, false), (12, false)] (by kernel_rfl) fun _ hK16 => ?_
          refine d_grow rfl rfl (by decide) rfl fun _ hS => ?_
          repeat refine And.intro (by first | omega | exact trivial | rfl | exact inR_i64.mpr ⟨by omega, by omega⟩ | (simp [hs, hkl, hd] <;> omega) | exact hd | exact hd.symm | exact (hs _).symm | exact (hkl _ _).symm | (refine And.intro ?_ ?_ <;> exact trivial) | exact ⟨trivial, trivial, trivial⟩) ?_
          refine hS _ _ _ ?_
          clear hS
          refine d_grow0 rfl rfl rfl fun _ hS => ?_
          repeat refine And.intro (by first | omega | exact trivial | rfl | exact inR_i64.mpr ⟨by omega, by omega⟩ | (simp [hs] <;> omega) | exact hd | exact hd.symm | exact (hs _).symm | exact (hkl _ _).symm | (refine And.intro ?_ ?_ <;> exact trivial) | exact ⟨trivial, trivial, trivial⟩) ?_
          first | refine hS _ _ _ ?_ | (refine splice_full (by first | omega | exact trivial | rfl | exact inR_i64.mpr ⟨by omega, by omega⟩ | (simp [hs] <;> omega) | exact hd | exact hd.symm | exact (hs _).symm | exact (hkl _ _).symm | (refine And.intro ?_ ?_ <;> exact trivial) | exact ⟨trivial, trivial, trivial⟩) ?_; refine hS _ _ _ ?_)
          clear hS
          refine d_grow0 rfl rfl rfl fun _ hS => ?_
          repeat refine And.intro (by first | omega | exact trivial | rfl | exact inR_i64.mpr ⟨by omega, by omega⟩ | (simp [hkl] <;> omega) | exact hd | exact hd.symm | exact (hs _).symm | exact (hkl _ _).symm | (refine And.intro ?_ ?_ <;> exact trivial) | exact ⟨trivial, trivial, trivial⟩) ?_
          first | refine hS _ _ _ ?_ | (refine splice_full (by first | omega | exact trivial | rfl | exact inR_i64.mpr ⟨by omega, by omega⟩ | (simp [hkl] <;> omega) | exact hd | exact hd.symm | exact (hs _).symm | exact (hkl _ _).symm | (refine And.intro ?_ ?_ <;> exact trivial) | exact ⟨trivial, trivial, trivial⟩) ?_; refine hS _ _ _ ?_)
          clear hS
          refine d_nil ?_
          refine hK16 _ _ _ ?_
          refine WB_done (by kernel_rfl) ?_
          refine Done_some [6, 7] id () trivial ⟨?_, ?_, (by decide : List.Nodup ([] : List Nat)), ?_, ?_, ⟨Nat.zero_le _, fun i hi => absurd hi (Nat.not_lt_zero i)⟩⟩
          · repeat' (first | exact trivial | refine And.intro ?_ ?_ | rfl | omega | decide | (show (_ : Nat) < _; decide))
            all_goals first | (simp; done) | (simp [hs, hkl] <;> omega) | skip
          · repeat' (first | exact trivial | refine And.intro ?_ ?_ | rfl | omega | decide | (show (_ : Nat) < _; decide))
          · repeat' (first | exact trivial | refine And.intro ?_ ?_ | rfl | omega | decide | (show (_ : Nat) < _; decide))
          · repeat' (first | exact trivial | refine And.intro ?_ ?_ | rfl | omega | decide | (show (_ : Nat) < _; decide))
      · refine WB_force (gg_ok h27) rfl rfl (by decide) rfl fun _ hS => ?_
        repeat refine And.intro (by first | omega | exact trivial | rfl | exact inR_i64.mpr ⟨by omega, by omega⟩ | (simp [hs, hkl, hd] <;> omega) | exact hd | exact hd.symm | exact (hs _).symm | exact (hkl _ _).symm | (refine And.intro ?_ ?_ <;> exact trivial) | exact ⟨trivial, trivial, trivial⟩) ?_
        refine hS _ _ _ ?_
        clear hS
        refine WB_all [8, 10] (by kernel_rfl) (by decide) (List.forall_mem_cons.2 ⟨?_, List.forall_mem_cons.2 ⟨?_, fun _ h => by cases h⟩⟩)
        · refine WB_force (gg_ok h27) rfl rfl (by decide) rfl fun _ hS => ?_
          repeat first | refine And.intro (by first | omega | exact trivial | rfl | exact inR_i64.mpr ⟨by omega, by omega⟩ | (simp [hd] <;> omega) | exact hd | exact hd.symm | exact (hs _).symm | exact (hkl _ _).symm | (refine And.intro ?_ ?_ <;> exact trivial) | exact ⟨trivial, trivial, trivial⟩) ?_ | refine whole_yes (by first | omega | exact trivial | rfl | exact inR_i64.mpr ⟨by omega, by omega⟩ | (simp [hs, hkl, hd] <;> omega) | exact hd | exact hd.symm | exact (hs _).symm | exact (hkl _ _).symm | (refine And.intro ?_ ?_ <;> exact trivial) | exact ⟨trivial, trivial, trivial⟩) ?_ | refine whole_sub ?_
          first | refine hS _ _ _ ?_ | (intro cap8 hcap8; refine hS _ _ _ ?_)
          clear hS
          refine WB_run (gg_ok h27) (g := 0) (by kernel_rfl) [(10, false), (11, false), (12, false)] (by kernel_rfl) fun _ hK17 => ?_
          refine d_grow rfl rfl (by decide) rfl fun _ hS => ?_
          repeat refine And.intro (by first | omega | exact trivial | rfl | exact inR_i64.mpr ⟨by omega, by omega⟩ | (simp [hs, hkl, hd] <;> omega) | exact hd | exact hd.symm | exact (hs _).symm | exact (hkl _ _).symm | (refine And.intro ?_ ?_ <;> exact trivial) | exact ⟨trivial, trivial, trivial⟩) ?_
          refine hS _ _ _ ?_
          clear hS
          refine d_grow0 rfl rfl rfl fun _ hS => ?_
          repeat refine And.intro (by first | omega | exact trivial | rfl | exact inR_i64.mpr ⟨by omega, by omega⟩ | (simp [hs] <;> omega) | exact hd | exact hd.symm | exact (hs _).symm | exact (hkl _ _).symm | (refine And.intro ?_ ?_ <;> exact trivial) | exact ⟨trivial, trivial, trivial⟩) ?_
          first | refine hS _ _ _ ?_ | (refine splice_full (by first | omega | exact trivial | rfl | exact inR_i64.mpr ⟨by omega, by omega⟩ | (simp [hs] <;> omega) | exact hd | exact hd.symm | exact (hs _).symm | exact (hkl _ _).symm | (refine And.intro ?_ ?_ <;> exact trivial) | exact ⟨trivial, trivial, trivial⟩) ?_; refine hS _ _ _ ?_)
          clear hS
          refine d_grow0 rfl rfl rfl fun _ hS => ?_
          repeat refine And.intro (by first | omega | exact trivial | rfl | exact inR_i64.mpr ⟨by omega, by omega⟩ | (simp [hkl] <;> omega) | exact hd | exact hd.symm | exact (hs _).symm | exact (hkl _ _).symm | (refine And.intro ?_ ?_ <;> exact trivial) | exact ⟨trivial, trivial, trivial⟩) ?_
          first | refine hS _ _ _ ?_ | (refine splice_full (by first | omega | exact trivial | rfl | exact inR_i64.mpr ⟨by omega, by omega⟩ | (simp [hkl] <;> omega) | exact hd | exact hd.symm | exact (hs _).symm | exact (hkl _ _).symm | (refine And.intro ?_ ?_ <;> exact trivial) | exact ⟨trivial, trivial, trivial⟩) ?_; refine hS _ _ _ ?_)
          clear hS
          refine d_nil ?_
          refine hK17 _ _ _ ?_
          refine WB_done (by kernel_rfl) ?_
          refine Done_some [6, 7] id () trivial ⟨?_, ?_, (by decide : List.Nodup ([] : List Nat)), ?_, ?_, ⟨Nat.zero_le _, fun i hi => absurd hi (Nat.not_lt_zero i)⟩⟩
          · repeat' (first | exact trivial | refine And.intro ?_ ?_ | rfl | omega | decide | (show (_ : Nat) < _; decide))
            all_goals first | (simp; done) | (simp [hs, hkl] <;> omega) | skip
          · repeat' (first | exact trivial | refine And.intro ?_ ?_ | rfl | omega | decide | (show (_ : Nat) < _; decide))
          · repeat' (first | exact trivial | refine And.intro ?_ ?_ | rfl | omega | decide | (show (_ : Nat) < _; decide))
          · repeat' (first | exact trivial | refine And.intro ?_ ?_ | rfl | omega | decide | (show (_ : Nat) < _; decide))
        · refine WB_force (gg_ok h27) rfl rfl (by decide) rfl fun _ hS => ?_
          repeat refine And.intro (by first | omega | exact trivial | rfl | exact inR_i64.mpr ⟨by omega, by omega⟩ | (simp [hs, hkl, hd] <;> omega) | exact hd | exact hd.symm | exact (hs _).symm | exact (hkl _ _).symm | (refine And.intro ?_ ?_ <;> exact trivial) | exact ⟨trivial, trivial, trivial⟩) ?_
          refine hS _ _ _ ?_
          clear hS
          refine WB_run (gg_ok h27) (g := 0) (by kernel_rfl) [(8, false), (11, false), (12, false)] (by kernel_rfl) fun _ hK18 => ?_
          refine d_grow rfl rfl (by decide) rfl fun _ hS => ?_
          repeat first | refine And.intro (by first | omega | exact trivial | rfl | exact inR_i64.mpr ⟨by omega, by omega⟩ | (simp [hd] <;> omega) | exact hd | exact hd.symm | exact (hs _).symm | exact (hkl _ _).symm | (refine And.intro ?_ ?_ <;> exact trivial) | exact ⟨trivial, trivial, trivial⟩) ?_ | refine whole_yes (by first | omega | exact trivial | rfl | exact inR_i64.mpr ⟨by omega, by omega⟩ | (simp [hs, hkl, hd] <;> omega) | exact hd | exact hd.symm | exact (hs _).symm | exact (hkl _ _).symm | (refine And.intro ?_ ?_ <;> exact trivial) | exact ⟨trivial, trivial, trivial⟩) ?_ | refine whole_sub ?_
          first | refine hS _ _ _ ?_ | (intro cap8 hcap8; refine hS _ _ _ ?_)
          clear hS
          refine d_grow0 rfl rfl rfl fun _ hS => ?_
          repeat refine And.intro (by first | omega | exact trivial | rfl | exact inR_i64.mpr ⟨by omega, by omega⟩ | (simp [hs] <;> omega) | exact hd | exact hd.symm | exact (hs _).symm | exact (hkl _ _).symm | (refine And.intro ?_ ?_ <;> exact trivial) | exact ⟨trivial, trivial, trivial⟩) ?_
          first | refine hS _ _ _ ?_ | (refine splice_full (by first | omega | exact trivial | rfl | exact inR_i64.mpr ⟨by omega, by omega⟩ | (simp [hs] <;> omega) | exact hd | exact hd.symm | exact (hs _).symm | exact (hkl _ _).symm | (refine And.intro ?_ ?_ <;> exact trivial) | exact ⟨trivial, trivial, trivial⟩) ?_; refine hS _ _ _ ?_)
          clear hS
          refine d_grow0 rfl rfl rfl fun _ hS => ?_
          repeat refine And.intro (by first | omega | exact trivial | rfl | exact inR_i64.mpr ⟨by omega, by omega⟩ | (simp [hkl] <;> omega) | exact hd | exact hd.symm | exact (hs _).symm | exact (hkl _ _).symm | (refine And.intro ?_ ?_ <;> exact trivial) | exact ⟨trivial, trivial, trivial⟩) ?_
          first | refine hS _ _ _ ?_ | (refine splice_full (by first | omega | exact trivial | rfl | exact inR_i64.mpr ⟨by omega, by omega⟩ | (simp [hkl] <;> omega) | exact hd | exact hd.symm | exact (hs _).symm | exact (hkl _ _).symm | (refine And.intro ?_ ?_ <;> exact trivial) | exact ⟨trivial, trivial, trivial⟩) ?_; refine hS _ _ _ ?_)
          clear hS
          refine d_nil ?_
          refine hK18 _ _ _ ?_
          refine WB_done (by kernel_rfl) ?_
          refine Done_some [6, 7] id () trivial ⟨?_, ?_, (by decide : List.Nodup ([] : List Nat)), ?_, ?_, ⟨Nat.zero_le _, fun i hi => absurd hi (Nat.not_lt_zero i)⟩⟩
          · repeat' (first | exact trivial | refine And.intro ?_ ?_ | rfl | omega | decide | (show (_ : Nat) < _; decide))
            all_goals first | (simp; done) | (simp [hs, hkl] <;> omega) | skip
          · repeat' (first | exact trivial | refine And.intro ?_ ?_ | rfl | omega | decide | (show (_ : Nat) < _; decide))
          · repeat' (first | exact trivial | refine And.intro ?_ ?_ | rfl | omega | decide | (show (_ : Nat) < _; decide))
          · repeat' (first | exact trivial | refine And.intro ?_ ?_ | rfl | omega | decide | (show (_ : Nat) < _; decide))
      · refine WB_force (gg_ok h27) rfl rfl (by decide) rfl fun _ hS => ?_
        repeat refine And.intro (by first | omega | exact trivial | rfl | exact inR_i64.mpr ⟨by omega, by omega⟩ | (simp [hs, hkl, hd] <;> omega) | exact hd | exact hd.symm | exact (hs _).symm | exact (hkl _ _).symm | (refine And.intro ?_ ?_ <;> exact trivial) | exact ⟨trivial, trivial, trivial⟩) ?_
        refine hS _ _ _ ?_
        clear hS
        refine WB_all [8, 9] (by kernel_rfl) (by decide) (List.forall_mem_cons.2 ⟨?_, List.forall_mem_cons.2 ⟨?_, fun _ h => by cases h⟩⟩)
        · refine WB_force (gg_ok h27) rfl rfl (by decide) rfl fun _ hS => ?_
          repeat first | refine And.intro (by first | omega | exact trivial | rfl | exact inR_i64.mpr ⟨by omega, by omega⟩ | (simp [hd] <;> omega) | exact hd | exact hd.symm | exact (hs _).symm | exact (hkl _ _).symm | (refine And.intro ?_ ?_ <;> exact trivial) | exact ⟨trivial, trivial, trivial⟩) ?_ | refine whole_yes (by first | omega | exact trivial | rfl | exact inR_i64.mpr ⟨by omega, by omega⟩ | (simp [hs, hkl, hd] <;> omega) | exact hd | exact hd.symm | exact (hs _).symm | exact (hkl _ _).symm | (refine And.intro ?_ ?_ <;> exact trivial) | exact ⟨trivial, trivial, trivial⟩) ?_ | refine whole_sub ?_
          first | refine hS _ _ _ ?_ | (intro cap8 hcap8; refine hS _ _ _ ?_)
          clear hS
          refine WB_run (gg_ok h27) (g := 0) (by kernel_rfl) [(9, false), (11, false), (12, false)] (by kernel_rfl) fun _ hK19 => ?_
          refine d_grow rfl rfl (by decide) rfl fun _ hS => ?_
          repeat refine And.intro (by first | omega | exact trivial | rfl | exact inR_i64.mpr ⟨by omega, by omega⟩ | (simp [hs, hkl, hd] <;> omega) | exact hd | exact hd.symm | exact (hs _).symm | exact (hkl _ _).symm | (refine And.intro ?_ ?_ <;> exact trivial) | exact ⟨trivial, trivial, trivial⟩) ?_
          refine hS _ _ _ ?_
          clear hS
          refine d_grow0 rfl rfl rfl fun _ hS => ?_
          repeat refine And.intro (by first | omega | exact trivial | rfl | exact inR_i64.mpr ⟨by omega, by omega⟩ | (simp [hs] <;> omega) | exact hd | exact hd.symm | exact (hs _).symm | exact (hkl _ _).symm | (refine And.intro ?_ ?_ <;> exact trivial) | exact ⟨trivial, trivial, trivial⟩) ?_
          first | refine hS _ _ _ ?_ | (refine splice_full (by first | omega | exact trivial | rfl | exact inR_i64.mpr ⟨by omega, by omega⟩ | (simp [hs] <;> omega) | exact hd | exact hd.symm | exact (hs _).symm | exact (hkl _ _).symm | (refine And.intro ?_ ?_ <;> exact trivial) | exact ⟨trivial, trivial, trivial⟩) ?_; refine hS _ _ _ ?_)
          clear hS
          refine d_grow0 rfl rfl rfl fun _ hS => ?_
          repeat refine And.intro (by first | omega | exact trivial | rfl | exact inR_i64.mpr ⟨by omega, by omega⟩ | (simp [hkl] <;> omega) | exact hd | exact hd.symm | exact (hs _).symm | exact (hkl _ _).symm | (refine And.intro ?_ ?_ <;> exact trivial) | exact ⟨trivial, trivial, trivial⟩) ?_
          first | refine hS _ _ _ ?_ | (refine splice_full (by first | omega | exact trivial | rfl | exact inR_i64.mpr ⟨by omega, by omega⟩ | (simp [hkl] <;> omega) | exact hd | exact hd.symm | exact (hs _).symm | exact (hkl _ _).symm | (refine And.intro ?_ ?_ <;> exact trivial) | exact ⟨trivial, trivial, trivial⟩) ?_; refine hS _ _ _ ?_)
          clear hS
          refine d_nil ?_
          refine hK19 _ _ _ ?_
          refine WB_done (by kernel_rfl) ?_
          refine Done_some [6, 7] id () trivial ⟨?_, ?_, (by decide : List.Nodup ([] : List Nat)), ?_, ?_, ⟨Nat.zero_le _, fun i hi => absurd hi (Nat.not_lt_zero i)⟩⟩
          · repeat' (first | exact trivial | refine And.intro ?_ ?_ | rfl | omega | decide | (show (_ : Nat) < _; decide))
            all_goals first | (simp; done) | (simp [hs, hkl] <;> omega) | skip
          · repeat' (first | exact trivial | refine And.intro ?_ ?_ | rfl | omega | decide | (show (_ : Nat) < _; decide))
          · repeat' (first | exact trivial | refine And.intro ?_ ?_ | rfl | omega | decide | (show (_ : Nat) < _; decide))
          · repeat' (first | exact trivial | refine And.intro ?_ ?_ | rfl | omega | decide | (show (_ : Nat) < _; decide))
        · refine WB_force (gg_ok h27) rfl rfl (by decide) rfl fun _ hS => ?_
          repeat refine And.intro (by first | omega | exact trivial | rfl | exact inR_i64.mpr ⟨by omega, by omega⟩ | (simp [hs, hkl, hd] <;> omega) | exact hd | exact hd.symm | exact (hs _).symm | exact (hkl _ _).symm | (refine And.intro ?_ ?_ <;> exact trivial) | exact ⟨trivial, trivial, trivial⟩) ?_
          refine hS _ _ _ ?_
          clear hS
          refine WB_run (gg_ok h27) (g := 0) (by kernel_rfl) [(8, false), (11, false), (12, false)] (by kernel_rfl) fun _ hK20 => ?_
          refine d_grow rfl rfl (by decide) rfl fun _ hS => ?_
          repeat first | refine And.intro (by first | omega | exact trivial | rfl | exact inR_i64.mpr ⟨by omega, by omega⟩ | (simp [hd] <;> omega) | exact hd | exact hd.symm | exact (hs _).symm | exact (hkl _ _).symm | (refine And.intro ?_ ?_ <;> exact trivial) | exact ⟨trivial, trivial, trivial⟩) ?_ | refine whole_yes (by first | omega | exact trivial | rfl | exact inR_i64.mpr ⟨by omega, by omega⟩ | (simp [hs, hkl, hd] <;> omega) | exact hd | exact hd.symm | exact (hs _).symm | exact (hkl _ _).symm | (refine And.intro ?_ ?_ <;> exact trivial) | exact ⟨trivial, trivial, trivial⟩) ?_ | refine whole_sub ?_
          first | refine hS _ _ _ ?_ | (intro cap8 hcap8; refine hS _ _ _ ?_)
          clear hS
          refine d_grow0 rfl rfl rfl fun _ hS => ?_
          repeat refine And.intro (by first | omega | exact trivial | rfl | exact inR_i64.mpr ⟨by omega, by omega⟩ | (simp [hs] <;> omega) | exact hd | exact hd.symm | exact (hs _).symm | exact (hkl _ _).symm | (refine And.intro ?_ ?_ <;> exact trivial) | exact ⟨trivial, trivial, trivial⟩) ?_
          first | refine hS _ _ _ ?_ | (refine splice_full (by first | omega | exact trivial | rfl | exact inR_i64.mpr ⟨by omega, by omega⟩ | (simp [hs] <;> omega) | exact hd | exact hd.symm | exact (hs _).symm | exact (hkl _ _).symm | (refine And.intro ?_ ?_ <;> exact trivial) | exact ⟨trivial, trivial, trivial⟩) ?_; refine hS _ _ _ ?_)
          clear hS
          refine d_grow0 rfl rfl rfl fun _ hS => ?_
          repeat refine And.intro (by first | omega | exact trivial | rfl | exact inR_i64.mpr ⟨by omega, by omega⟩ | (simp [hkl] <;> omega) | exact hd | exact hd.symm | exact (hs _).symm | exact (hkl _ _).symm | (refine And.intro ?_ ?_ <;> exact trivial) | exact ⟨trivial, trivial, trivial⟩) ?_
          first | refine hS _ _ _ ?_ | (refine splice_full (by first | omega | exact trivial | rfl | exact inR_i64.mpr ⟨by omega, by omega⟩ | (simp [hkl] <;> omega) | exact hd | exact hd.symm | exact (hs _).symm | exact (hkl _ _).symm | (refine And.intro ?_ ?_ <;> exact trivial) | exact ⟨trivial, trivial, trivial⟩) ?_; refine hS _ _ _ ?_)
          clear hS
          refine d_nil ?_
          refine hK20 _ _ _ ?_
          refine WB_done (by kernel_rfl) ?_
          refine Done_some [6, 7] id () trivial ⟨?_, ?_, (by decide : List.Nodup ([] : List Nat)), ?_, ?_, ⟨Nat.zero_le _, fun i hi => absurd hi (Nat.not_lt_zero i)⟩⟩
          · repeat' (first | exact trivial | refine And.intro ?_ ?_ | rfl | omega | decide | (show (_ : Nat) < _; decide))
            all_goals first | (simp; done) | (simp [hs, hkl] <;> omega) | skip
          · repeat' (first | exact trivial | refine And.intro ?_ ?_ | rfl | omega | decide | (show (_ : Nat) < _; decide))
          · repeat' (first | exact trivial | refine And.intro ?_ ?_ | rfl | omega | decide | (show (_ : Nat) < _; decide))
          · repeat' (first | exact trivial | refine And.intro ?_ ?_ | rfl | omega | decide | (show (_ : Nat) < _; decide))
    · refine WB_force (gg_ok h27) rfl rfl (by decide) rfl fun _ hS => ?_
      repeat refine And.intro (by first | omega | exact trivial | rfl | exact inR_i64.mpr ⟨by omega, by omega⟩ | (simp [hs, hkl, hd] <;> omega) | exact hd | exact hd.symm | exact (hs _).symm | exact (hkl _ _).symm | (refine And.intro ?_ ?_ <;> exact trivial) | exact ⟨trivial, trivial, trivial⟩) ?_
      refine hS _ _ _ ?_
      clear hS
      refine WB_all [3, 10] (by kernel_rfl) (by decide) (List.forall_mem_cons.2 ⟨?_, List.forall_mem_cons.2 ⟨?_, fun _ h => by cases h⟩⟩)
      · refine WB_force (gg_ok h27) rfl rfl (by decide) rfl fun _ hS => ?_
        repeat first | refine And.intro (by first | omega | exact trivial | rfl | exact inR_i64.mpr ⟨by omega, by omega⟩ | (simp <;> omega) | exact hd | exact hd.symm | exact (hs _).symm | exact (hkl _ _).symm | (refine And.intro ?_ ?_ <;> exact trivial) | exact ⟨trivial, trivial, trivial⟩) ?_ | refine whole_yes (by first | omega | exact trivial | rfl | exact inR_i64.mpr ⟨by omega, by omega⟩ | (simp [hs, hkl, hd] <;> omega) | exact hd | exact hd.symm | exact (hs _).symm | exact (hkl _ _).symm | (refine And.intro ?_ ?_ <;> exact trivial) | exact ⟨trivial, trivial, trivial⟩) ?_ | refine whole_sub ?_
        first | refine hS _ _ _ ?_ | (intro cap3 hcap3; refine hS _ _ _ ?_)
        clear hS
        refine WB_all [8, 10] (by kernel_rfl) (by decide) (List.forall_mem_cons.2 ⟨?_, List.forall_mem_cons.2 ⟨?_, fun _ h => by cases h⟩⟩)
        · refine WB_force (gg_ok h27) rfl rfl (by decide) rfl fun _ hS => ?_
          repeat first | refine And.intro (by first | omega | exact trivial | rfl | exact inR_i64.mpr ⟨by omega, by omega⟩ | (simp [hd] <;> omega) | exact hd | exact hd.symm | exact (hs _).symm | exact (hkl _ _).symm | (refine And.intro ?_ ?_ <;> exact trivial) | exact ⟨trivial, trivial, trivial⟩) ?_ | refine whole_yes (by first | omega | exact trivial | rfl | exact inR_i64.mpr ⟨by omega, by omega⟩ | (simp [hs, hkl, hd] <;> omega) | exact hd | exact hd.symm | exact (hs _).symm | exact (hkl _ _).symm | (refine And.intro ?_ ?_ <;> exact trivial) | exact ⟨trivial, trivial, trivial⟩) ?_ | refine whole_sub ?_
          first | refine hS _ _ _ ?_ | (intro cap8 hcap8; refine hS _ _ _ ?_)
          clear hS
          refine WB_run (gg_ok h27) (g := 0) (by kernel_rfl) [(10, false), (11, false), (12, false)] (by kernel_rfl) fun _ hK21 => ?_
          refine d_grow rfl rfl (by decide) rfl fun _ hS => ?_
          repeat refine And.intro (by first | omega | exact trivial | rfl | exact inR_i64.mpr ⟨by omega, by omega⟩ | (simp [hs, hkl, hd] <;> omega) | exact hd | exact hd.symm | exact (hs _).symm | exact (hkl _ _).symm | (refine And.intro ?_ ?_ <;> exact trivial) | exact ⟨trivial, trivial, trivial⟩) ?_
          refine hS _ _ _ ?_
          clear hS
          refine d_grow0 rfl rfl rfl fun _ hS => ?_
          repeat refine And.intro (by first | omega | exact trivial | rfl | exact inR_i64.mpr ⟨by omega, by omega⟩ | (simp [hs] <;> omega) | exact hd | exact hd.symm | exact (hs _).symm | exact (hkl _ _).symm | (refine And.intro ?_ ?_ <;> exact trivial) | exact ⟨trivial, trivial, trivial⟩) ?_
          first | refine hS _ _ _ ?_ | (refine splice_full (by first | omega | exact trivial | rfl | exact inR_i64.mpr ⟨by omega, by omega⟩ | (simp [hs] <;> omega) | exact hd | exact hd.symm | exact (hs _).symm | exact (hkl _ _).symm | (refine And.intro ?_ ?_ <;> exact trivial) | exact ⟨trivial, trivial, trivial⟩) ?_; refine hS _ _ _ ?_)
          clear hS
          refine d_grow0 rfl rfl rfl fun _ hS => ?_
          repeat refine And.intro (by first | omega | exact trivial | rfl | exact inR_i64.mpr ⟨by omega, by omega⟩ | (simp [hkl] <;> omega) | exact hd | exact hd.symm | exact (hs _).symm | exact (hkl _ _).symm | (refine And.intro ?_ ?_ <;> exact trivial) | exact ⟨trivial, trivial, trivial⟩) ?_
          first | refine hS _ _ _ ?_ | (refine splice_full (by first | omega | exact trivial | rfl | exact inR_i64.mpr ⟨by omega, by omega⟩ | (simp [hkl] <;> omega) | exact hd | exact hd.symm | exact (hs _).symm | exact (hkl _ _).symm | (refine And.intro ?_ ?_ <;> exact trivial) | exact ⟨trivial, trivial, trivial⟩) ?_; refine hS _ _ _ ?_)
          clear hS
          refine d_nil ?_
          refine hK21 _ _ _ ?_
          refine WB_done (by kernel_rfl) ?_
          refine Done_some [6, 7] id () trivial ⟨?_, ?_, (by decide : List.Nodup ([] : List Nat)), ?_, ?_, ⟨Nat.zero_le _, fun i hi => absurd hi (Nat.not_lt_zero i)⟩⟩
          · repeat' (first | exact trivial | refine And.intro ?_ ?_ | rfl | omega | decide | (show (_ : Nat) < _; decide))
            all_goals first | (simp; done) | (simp [hs, hkl] <;> omega) | skip
          · repeat' (first | exact trivial | refine And.intro ?_ ?_ | rfl | omega | decide | (show (_ : Nat) < _; decide))
          · repeat' (first | exact trivial | refine And.intro ?_ ?_ | rfl | omega | decide | (show (_ : Nat) < _; decide))
          · repeat' (first | exact trivial | refine And.intro ?_ ?_ | rfl | omega | decide | (show (_ : Nat) < _; decide))
        · refine WB_force (gg_ok h27) rfl rfl (by decide) rfl fun _ hS => ?_
          repeat refine And.intro (by first | omega | exact trivial | rfl | exact inR_i64.mpr ⟨by omega, by omega⟩ | (simp [hs, hkl, hd] <;> omega) | exact hd | exact hd.symm | exact (hs _).symm | exact (hkl _ _).symm | (refine And.intro ?_ ?_ <;> exact trivial) | exact ⟨trivial, trivial, trivial⟩) ?_
          refine hS _ _ _ ?_
          clear hS
          refine WB_run (gg_ok h27) (g := 0) (by kernel_rfl) [(8, false), (11, false), (12, false)] (by kernel_rfl) fun _ hK22 => ?_
          refine d_grow rfl rfl (by decide) rfl fun _ hS => ?_
          repeat first | refine And.intro (by first | omega | exact trivial | rfl | exact inR_i64.mpr ⟨by omega, by omega⟩ | (simp [hd] <;> omega) | exact hd | exact hd.symm | exact (hs _).symm | exact (hkl _ _).symm | (refine And.intro ?_ ?_ <;> exact trivial) | exact ⟨trivial, trivial, trivial⟩) ?_ | refine whole_yes (by first | omega | exact trivial | rfl | exact inR_i64.mpr ⟨by omega, by omega⟩ | (simp [hs, hkl, hd] <;> omega) | exact hd | exact hd.symm | exact (hs _).symm | exact (hkl _ _).symm | (refine And.intro ?_ ?_ <;> exact trivial) | exact ⟨trivial, trivial, trivial⟩) ?_ | refine whole_sub ?_
          first | refine hS _ _ _ ?_ | (intro cap8 hcap8; refine hS _ _ _ ?_)
          clear hS
          refine d_grow0 rfl rfl rfl fun _ hS => ?_
          repeat refine And.intro (by first | omega | exact trivial | rfl | exact inR_i64.mpr ⟨by omega, by omega⟩ | (simp [hs] <;> omega) | exact hd | exact hd.symm | exact (hs _).symm | exact (hkl _ _).symm | (refine And.intro ?_ ?_ <;> exact trivial) | exact ⟨trivial, trivial, trivial⟩) ?_
          first | refine hS _ _ _ ?_ | (refine splice_full (by first | omega | exact trivial | rfl | exact inR_i64.mpr ⟨by omega, by omega⟩ | (simp [hs] <;> omega) | exact hd | exact hd.symm | exact (hs _).symm | exact (hkl _ _).symm | (refine And.intro ?_ ?_ <;> exact trivial) | exact ⟨trivial, trivial, trivial⟩) ?_; refine hS _ _ _ ?_)
          clear hS
          refine d_grow0 rfl rfl rfl fun _ hS => ?_
          repeat refine And.intro (by first | omega | exact trivial | rfl | exact inR_i64.mpr ⟨by omega, by omega⟩ | (simp [hkl] <;> omega) | exact hd | exact hd.symm | exact (hs _).symm | exact (hkl _ _).symm | (refine And.intro ?_ ?_ <;> exact trivial) | exact ⟨trivial, trivial, trivial⟩) ?_
          first | refine hS _ _ _ ?_ | (refine splice_full (by first | omega | exact trivial | rfl | exact inR_i64.mpr ⟨by omega, by omega⟩ | (simp [hkl] <;> omega) | exact hd | exact hd.symm | exact (hs _).symm | exact (hkl _ _).symm | (refine And.intro ?_ ?_ <;> exact trivial) | exact ⟨trivial, trivial, trivial⟩) ?_; refine hS _ _ _ ?_)
          clear hS
          refine d_nil ?_
          refine hK22 _ _ _ ?_
          refine WB_done (by kernel_rfl) ?_
          refine Done_some [6, 7] id () trivial ⟨?_, ?_, (by decide : List.Nodup ([] : List Nat)), ?_, ?_, ⟨Nat.zero_le _, fun i hi => absurd hi (Nat.not_lt_zero i)⟩⟩
          · repeat' (first | exact trivial | refine And.intro ?_ ?_ | rfl | omega | decide | (show (_ : Nat) < _; decide))
            all_goals first | (simp; done) | (simp [hs, hkl] <;> omega) | skip
          · repeat' (first | exact trivial | refine And.intro ?_ ?_ | rfl | omega | decide | (show (_ : Nat) < _; decide))
          · repeat' (first | exact trivial | refine And.intro ?_ ?_ | rfl | omega | decide | (show (_ : Nat) < _; decide))
          · repeat' (first | exact trivial | refine And.intro ?_ ?_ | rfl | omega | decide | (show (_ : Nat) < _; decide))
      · refine WB_force (gg_ok h27) rfl rfl (by decide) rfl fun _ hS => ?_
        repeat refine And.intro (by first | omega | exact trivial | rfl | exact inR_i64.mpr ⟨by omega, by omega⟩ | (simp [hs, hkl, hd] <;> omega) | exact hd | exact hd.symm | exact (hs _).symm | exact (hkl _ _).symm | (refine And.intro ?_ ?_ <;> exact trivial) | exact ⟨trivial, trivial, trivial⟩) ?_
        refine hS _ _ _ ?_
        clear hS
        refine WB_run (gg_ok h27) (g := 0) (by kernel_rfl) [(3, false), (8, false), (11, false), (12, false)] (by kernel_rfl) fun _ hK23 => ?_
        refine d_grow rfl rfl (by decide) rfl fun _ hS => ?_
        repeat first | refine And.intro (by first | omega | exact trivial | rfl | exact inR_i64.mpr ⟨by omega, by omega⟩ | (simp <;> omega) | exact hd | exact hd.symm | exact (hs _).symm | exact (hkl _ _).symm | (refine And.intro ?_ ?_ <;> exact trivial) | exact ⟨trivial, trivial, trivial⟩) ?_ | refine whole_yes (by first | omega | exact trivial | rfl | exact inR_i64.mpr ⟨by omega, by omega⟩ | (simp [hs, hkl, hd] <;> omega) | exact hd | exact hd.symm | exact (hs _).symm | exact (hkl _ _).symm | (refine And.intro ?_ ?_ <;> exact trivial) | exact ⟨trivial, trivial, trivial⟩) ?_ | refine whole_sub ?_
        first | refine hS _ _ _ ?_ | (intro cap3 hcap3; refine hS _ _ _ ?_)
        clear hS
        refine d_grow rfl rfl (by decide) rfl fun _ hS => ?_
        repeat first | refine And.intro (by first | omega | exact trivial | rfl | exact inR_i64.mpr ⟨by omega, by omega⟩ | (simp [hd] <;> omega) | exact hd | exact hd.symm | exact (hs _).symm | exact (hkl _ _).symm | (refine And.intro ?_ ?_ <;> exact trivial) | exact ⟨trivial, trivial, trivial⟩) ?_ | refine whole_yes (by first | omega | exact trivial | rfl | exact inR_i64.mpr ⟨by omega, by omega⟩ | (simp [hs, hkl, hd] <;> omega) | exact hd | exact hd.symm | exact (hs _).symm | exact (hkl _ _).symm | (refine And.intro ?_ ?_ <;> exact trivial) | exact ⟨trivial, trivial, trivial⟩) ?_ | refine whole_sub ?_
        first | refine hS _ _ _ ?_ | (intro cap8 hcap8; refine hS _ _ _ ?_)
        clear hS
        refine d_grow0 rfl rfl rfl fun _ hS => ?_
        repeat refine And.intro (by first | omega | exact trivial | rfl | exact inR_i64.mpr ⟨by omega, by omega⟩ | (simp [hs] <;> omega) | exact hd | exact hd.symm | exact (hs _).symm | exact (hkl _ _).symm | (refine And.intro ?_ ?_ <;> exact trivial) | exact ⟨trivial, trivial, trivial⟩) ?_
        first | refine hS _ _ _ ?_ | (refine splice_full (by first | omega | exact trivial | rfl | exact inR_i64.mpr ⟨by omega, by omega⟩ | (simp [hs] <;> omega) | exact hd | exact hd.symm | exact (hs _).symm | exact (hkl _ _).symm | (refine And.intro ?_ ?_ <;> exact trivial) | exact ⟨trivial, trivial, trivial⟩) ?_; refine hS _ _ _ ?_)
        clear hS
        refine d_grow0 rfl rfl rfl fun _ hS => ?_
        repeat refine And.intro (by first | omega | exact trivial | rfl | exact inR_i64.mpr ⟨by omega, by omega⟩ | (simp [hkl] <;> omega) | exact hd | exact hd.symm | exact (hs _).symm | exact (hkl _ _).symm | (refine And.intro ?_ ?_ <;> exact trivial) | exact ⟨trivial, trivial, trivial⟩) ?_
        first | refine hS _ _ _ ?_ | (refine splice_full (by first | omega | exact trivial | rfl | exact inR_i64.mpr ⟨by omega, by omega⟩ | (simp [hkl] <;> omega) | exact hd | exact hd.symm | exact (hs _).symm | exact (hkl _ _).symm | (refine And.intro ?_ ?_ <;> exact trivial) | exact ⟨trivial, trivial, trivial⟩) ?_; refine hS _ _ _ ?_)
        clear hS
        refine d_nil ?_
        refine hK23 _ _ _ ?_
        refine WB_done (by kernel_rfl) ?_
        refine Done_some [6, 7] id () trivial ⟨?_, ?_, (by decide : List.Nodup ([] : List Nat)), ?_, ?_, ⟨Nat.zero_le _, fun i hi => absurd hi (Nat.not_lt_zero i)⟩⟩
        · repeat' (first | exact trivial | refine And.intro ?_ ?_ | rfl | omega | decide | (show (_ : Nat) < _; decide))
          all_goals first | (simp; done) | (simp [hs, hkl] <;> omega) | skip
        · repeat' (first | exact trivial | refine And.intro ?_ ?_ | rfl | omega | decide | (show (_ : Nat) < _; decide))
        · repeat' (first | exact trivial | refine And.intro ?_ ?_ | rfl | omega | decide | (show (_ : Nat) < _; decide))
        · repeat' (first | exact trivial | refine And.intro ?_ ?_ | rfl | omega | decide | (show (_ : Nat) < _; decide))
    · refine WB_force (gg_ok h27) rfl rfl (by decide) rfl fun _ hS => ?_
      repeat refine And.intro (by first | omega | exact trivial | rfl | exact inR_i64.mpr ⟨by omega, by omega⟩ | (simp [hs, hkl, hd] <;> omega) | exact hd | exact hd.symm | exact (hs _).symm | exact (hkl _ _).symm | (refine And.intro ?_ ?_ <;> exact trivial) | exact ⟨trivial, trivial, trivial⟩) ?_
      refine hS _ _ _ ?_
      clear hS
      refine WB_all [3, 9] (by kernel_rfl) (by decide) (List.forall_mem_cons.2 ⟨?_, List.forall_mem_cons.2 ⟨?_, fun _ h => by cases h⟩⟩)
      · refine WB_force (gg_ok h27) rfl rfl (by decide) rfl fun _ hS => ?_
        repeat first | refine And.intro (by first | omega | exact trivial | rfl | exact inR_i64.mpr ⟨by omega, by omega⟩ | (simp <;> omega) | exact hd | exact hd.symm | exact (hs _).symm | exact (hkl _ _).symm | (refine And.intro ?_ ?_ <;> exact trivial) | exact ⟨trivial, trivial, trivial⟩) ?_ | refine whole_yes (by first | omega | exact trivial | rfl | exact inR_i64.mpr ⟨by omega, by omega⟩ | (simp [hs, hkl, hd] <;> omega) | exact hd | exact hd.symm | exact (hs _).symm | exact (hkl _ _).symm | (refine And.intro ?_ ?_ <;> exact trivial) | exact ⟨trivial, trivial, trivial⟩) ?_ | refine whole_sub ?_
        first | refine hS _ _ _ ?_ | (intro cap3 hcap3; refine hS _ _ _ ?_)
        clear hS
        refine WB_all [8, 9] (by kernel_rfl) (by decide) (List.forall_mem_cons.2 ⟨?_, List.forall_mem_cons.2 ⟨?_, fun _ h => by cases h⟩⟩)
        · refine WB_force (gg_ok h27) rfl rfl (by decide) rfl fun _ hS => ?_
          repeat first | refine And.intro (by first | omega | exact trivial | rfl | exact inR_i64.mpr ⟨by omega, by omega⟩ | (simp [hd] <;> omega) | exact hd | exact hd.symm | exact (hs _).symm | exact (hkl _ _).symm | (refine And.intro ?_ ?_ <;> exact trivial) | exact ⟨trivial, trivial, trivial⟩) ?_ | refine whole_yes (by first | omega | exact trivial | rfl | exact inR_i64.mpr ⟨by omega, by omega⟩ | (simp [hs, hkl, hd] <;> omega) | exact hd | exact hd.symm | exact (hs _).symm | exact (hkl _ _).symm | (refine And.intro ?_ ?_ <;> exact trivial) | exact ⟨trivial, trivial, trivial⟩) ?_ | refine whole_sub ?_
          first | refine hS _ _ _ ?_ | (intro cap8 hcap8; refine hS _ _ _ ?_)
          clear hS
          refine WB_run (gg_ok h27) (g := 0) (by kernel_rfl) [(9, false), (11, false), (12, false)] (by kernel_rfl) fun _ hK24 => ?_
          refine d_grow rfl rfl (by decide) rfl fun _ hS => ?_
          repeat refine And.intro (by first | omega | exact trivial | rfl | exact inR_i64.mpr ⟨by omega, by omega⟩ | (simp [hs, hkl, hd] <;> omega) | exact hd | exact hd.symm | exact (hs _).symm | exact (hkl _ _).symm | (refine And.intro ?_ ?_ <;> exact trivial) | exact ⟨trivial, trivial, trivial⟩) ?_
          refine hS _ _ _ ?_
          clear hS
          refine d_grow0 rfl rfl rfl fun _ hS => ?_
          repeat refine And.intro (by first | omega | exact trivial | rfl | exact inR_i64.mpr ⟨by omega, by omega⟩ | (simp [hs] <;> omega) | exact hd | exact hd.symm | exact (hs _).symm | exact (hkl _ _).symm | (refine And.intro ?_ ?_ <;> exact trivial) | exact ⟨trivial, trivial, trivial⟩) ?_
          first | refine hS _ _ _ ?_ | (refine splice_full (by first | omega | exact trivial | rfl | exact inR_i64.mpr ⟨by omega, by omega⟩ | (simp [hs] <;> omega) | exact hd | exact hd.symm | exact (hs _).symm | exact (hkl _ _).symm | (refine And.intro ?_ ?_ <;> exact trivial) | exact ⟨trivial, trivial, trivial⟩) ?_; refine hS _ _ _ ?_)
          clear hS
          refine d_grow0 rfl rfl rfl fun _ hS => ?_
          repeat refine And.intro (by first | omega | exact trivial | rfl | exact inR_i64.mpr ⟨by omega, by omega⟩ | (simp [hkl] <;> omega) | exact hd | exact hd.symm | exact (hs _).symm | exact (hkl _ _).symm | (refine And.intro ?_ ?_ <;> exact trivial) | exact ⟨trivial, trivial, trivial⟩) ?_
          first | refine hS _ _ _ ?_ | (refine splice_full (by first | omega | exact trivial | rfl | exact inR_i64.mpr ⟨by omega, by omega⟩ | (simp [hkl] <;> omega) | exact hd | exact hd.symm | exact (hs _).symm | exact (hkl _ _).symm | (refine And.intro ?_ ?_ <;> exact trivial) | exact ⟨trivial, trivial, trivial⟩) ?_; refine hS _ _ _ ?_)
          clear hS
          refine d_nil ?_
          refine hK24 _ _ _ ?_
          refine WB_done (by kernel_rfl) ?_
          refine Done_some [6, 7] id () trivial ⟨?_, ?_, (by decide : List.Nodup ([] : List Nat)), ?_, ?_, ⟨Nat.zero_le _, fun i hi => absurd hi (Nat.not_lt_zero i)⟩⟩
          · repeat' (first | exact trivial | refine And.intro ?_ ?_ | rfl | omega | decide | (show (_ : Nat) < _; decide))
            all_goals first | (simp; done) | (simp [hs, hkl] <;> omega) | skip
          · repeat' (first | exact trivial | refine And.intro ?_ ?_ | rfl | omega | decide | (show (_ : Nat) < _; decide))
          · repeat' (first | exact trivial | refine And.intro ?_ ?_ | rfl | omega | decide | (show (_ : Nat) < _; decide))
          · repeat' (first | exact trivial | refine And.intro ?_ ?_ | rfl | omega | decide | (show (_ : Nat) < _; decide))
        · refine WB_force (gg_ok h27) rfl rfl (by decide) rfl fun _ hS => ?_
          repeat refine And.intro (by first | omega | exact trivial | rfl | exact inR_i64.mpr ⟨by omega, by omega⟩ | (simp [hs, hkl, hd] <;> omega) | exact hd | exact hd.symm | exact (hs _).symm | exact (hkl _ _).symm | (refine And.intro ?_ ?_ <;> exact trivial) | exact ⟨trivial, trivial, trivial⟩) ?_
          refine hS _ _ _ ?_
          clear hS
          refine WB_run (gg_ok h27) (g := 0) (by kernel_rfl) [(8, false), (11, false), (12, false)] (by kernel_rfl) fun _ hK25 => ?_
          refine d_grow rfl rfl (by decide) rfl fun _ hS => ?_
          repeat first | refine And.intro (by first | omega | exact trivial | rfl | exact inR_i64.mpr ⟨by omega, by omega⟩ | (simp [hd] <;> omega) | exact hd | exact hd.symm | exact (hs _).symm | exact (hkl _ _).symm | (refine And.intro ?_ ?_ <;> exact trivial) | exact ⟨trivial, trivial, trivial⟩) ?_ | refine whole_yes (by first | omega | exact trivial | rfl | exact inR_i64.mpr ⟨by omega, by omega⟩ | (simp [hs, hkl, hd] <;> omega) | exact hd | exact hd.symm | exact (hs _).symm | exact (hkl _ _).symm | (refine And.intro ?_ ?_ <;> exact trivial) | exact ⟨trivial, trivial, trivial⟩) ?_ | refine whole_sub ?_
          first | refine hS _ _ _ ?_ | (intro cap8 hcap8; refine hS _ _ _ ?_)
          clear hS
          refine d_grow0 rfl rfl rfl fun _ hS => ?_
          repeat refine And.intro (by first | omega | exact trivial | rfl | exact inR_i64.mpr ⟨by omega, by omega⟩ | (simp [hs] <;> omega) | exact hd | exact hd.symm | exact (hs _).symm | exact (hkl _ _).symm | (refine And.intro ?_ ?_ <;> exact trivial) | exact ⟨trivial, trivial, trivial⟩) ?_
          first | refine hS _ _ _ ?_ | (refine splice_full (by first | omega | exact trivial | rfl | exact inR_i64.mpr ⟨by omega, by omega⟩ | (simp [hs] <;> omega) | exact hd | exact hd.symm | exact (hs _).symm | exact (hkl _ _).symm | (refine And.intro ?_ ?_ <;> exact trivial) | exact ⟨trivial, trivial, trivial⟩) ?_; refine hS _ _ _ ?_)
          clear hS
          refine d_grow0 rfl rfl rfl fun _ hS => ?_
          repeat refine And.intro (by first | omega | exact trivial | rfl | exact inR_i64.mpr ⟨by omega, by omega⟩ | (simp [hkl] <;> omega) | exact hd | exact hd.symm | exact (hs _).symm | exact (hkl _ _).symm | (refine And.intro ?_ ?_ <;> exact trivial) | exact ⟨trivial, trivial, trivial⟩) ?_
          first | refine hS _ _ _ ?_ | (refine splice_full (by first | omega | exact trivial | rfl | exact inR_i64.mpr ⟨by omega, by omega⟩ | (simp [hkl] <;> omega) | exact hd | exact hd.symm | exact (hs _).symm | exact (hkl _ _).symm | (refine And.intro ?_ ?_ <;> exact trivial) | exact ⟨trivial, trivial, trivial⟩) ?_; refine hS _ _ _ ?_)
          clear hS
          refine d_nil ?_
          refine hK25 _ _ _ ?_
          refine WB_done (by kernel_rfl) ?_
          refine Done_some [6, 7] id () trivial ⟨?_, ?_, (by decide : List.Nodup ([] : List Nat)), ?_, ?_, ⟨Nat.zero_le _, fun i hi => absurd hi (Nat.not_lt_zero i)⟩⟩
          · repeat' (first | exact trivial | refine And.intro ?_ ?_ | rfl | omega | decide | (show (_ : Nat) < _; decide))
            all_goals first | (simp; done) | (simp [hs, hkl] <;> omega) | skip
          · repeat' (first | exact trivial | refine And.intro ?_ ?_ | rfl | omega | decide | (show (_ : Nat) < _; decide))
          · repeat' (first | exact trivial | refine And.intro ?_ ?_ | rfl | omega | decide | (show (_ : Nat) < _; decide))
          · repeat' (first | exact trivial | refine And.intro ?_ ?_ | rfl | omega | decide | (show (_ : Nat) < _; decide))
      · refine WB_force (gg_ok h27) rfl rfl (by decide) rfl fun _ hS => ?_
        repeat refine And.intro (by first | omega | exact trivial | rfl | exact inR_i64.mpr ⟨by omega, by omega⟩ | (simp [hs, hkl, hd] <;> omega) | exact hd | exact hd.symm | exact (hs _).symm | exact (hkl _ _).symm | (refine And.intro ?_ ?_ <;> exact trivial) | exact ⟨trivial, trivial, trivial⟩) ?_
        refine hS _ _ _ ?_
        clear hS
        refine WB_run (gg_ok h27) (g := 0) (by kernel_rfl) [(3, false), (8, false), (11, false), (12, false)] (by kernel_rfl) fun _ hK26 => ?_
        refine d_grow rfl rfl (by decide) rfl fun _ hS => ?_
        repeat first | refine And.intro (by first | omega | exact trivial | rfl | exact inR_i64.mpr ⟨by omega, by omega⟩ | (simp <;> omega) | exact hd | exact hd.symm | exact (hs _).symm | exact (hkl _ _).symm | (refine And.intro ?_ ?_ <;> exact trivial) | exact ⟨trivial, trivial, trivial⟩) ?_ | refine whole_yes (by first | omega | exact trivial | rfl | exact inR_i64.mpr ⟨by omega, by omega⟩ | (simp [hs, hkl, hd] <;> omega) | exact hd | exact hd.symm | exact (hs _).symm | exact (hkl _ _).symm | (refine And.intro ?_ ?_ <;> exact trivial) | exact ⟨trivial, trivial, trivial⟩) ?_ | refine whole_sub ?_
        first | refine hS _ _ _ ?_ | (intro cap3 hcap3; refine hS _ _ _ ?_)
        clear hS
        refine d_grow rfl rfl (by decide) rfl fun _ hS => ?_
        repeat first | refine And.intro (by first | omega | exact trivial | rfl | exact inR_i64.mpr ⟨by omega, by omega⟩ | (simp [hd] <;> omega) | exact hd | exact hd.symm | exact (hs _).symm | exact (hkl _ _).symm | (refine And.intro ?_ ?_ <;> exact trivial) | exact ⟨trivial, trivial, trivial⟩) ?_ | refine whole_yes (by first | omega | exact trivial | rfl | exact inR_i64.mpr ⟨by omega, by omega⟩ | (simp [hs, hkl, hd] <;> omega) | exact hd | exact hd.symm | exact (hs _).symm | exact (hkl _ _).symm | (refine And.intro ?_ ?_ <;> exact trivial) | exact ⟨trivial, trivial, trivial⟩) ?_ | refine whole_sub ?_
        first | refine hS _ _ _ ?_ | (intro cap8 hcap8; refine hS _ _ _ ?_)
        clear hS
        refine d_grow0 rfl rfl rfl fun _ hS => ?_
        repeat refine And.intro (by first | omega | exact trivial | rfl | exact inR_i64.mpr ⟨by omega, by omega⟩ | (simp [hs] <;> omega) | exact hd | exact hd.symm | exact (hs _).symm | exact (hkl _ _).symm | (refine And.intro ?_ ?_ <;> exact trivial) | exact ⟨trivial, trivial, trivial⟩) ?_
        first | refine hS _ _ _ ?_ | (refine splice_full (by first | omega | exact trivial | rfl | exact inR_i64.mpr ⟨by omega, by omega⟩ | (simp [hs] <;> omega) | exact hd | exact hd.symm | exact (hs _).symm | exact (hkl _ _).symm | (refine And.intro ?_ ?_ <;> exact trivial) | exact ⟨trivial, trivial, trivial⟩) ?_; refine hS _ _ _ ?_)
        clear hS
        refine d_grow0 rfl rfl rfl fun _ hS => ?_
        repeat refine And.intro (by first | omega | exact trivial | rfl | exact inR_i64.mpr ⟨by omega, by omega⟩ | (simp [hkl] <;> omega) | exact hd | exact hd.symm | exact (hs _).symm | exact (hkl _ _).symm | (refine And.intro ?_ ?_ <;> exact trivial) | exact ⟨trivial, trivial, trivial⟩) ?_
        first | refine hS _ _ _ ?_ | (refine splice_full (by first | omega | exact trivial | rfl | exact inR_i64.mpr ⟨by omega, by omega⟩ | (simp [hkl] <;> omega) | exact hd | exact hd.symm | exact (hs _).symm | exact (hkl _ _).symm | (refine And.intro ?_ ?_ <;> exact trivial) | exact ⟨trivial, trivial, trivial⟩) ?_; refine hS _ _ _ ?_)
        clear hS
        refine d_nil ?_
        refine hK26 _ _ _ ?_
        refine WB_done (by kernel_rfl) ?_
        refine Done_some [6, 7] id () trivial ⟨?_, ?_, (by decide : List.Nodup ([] : List Nat)), ?_, ?_, ⟨Nat.zero_le _, fun i hi => absurd hi (Nat.not_lt_zero i)⟩⟩
        · repeat' (first | exact trivial | refine And.intro ?_ ?_ | rfl | omega | decide | (show (_ : Nat) < _; decide))
          all_goals first | (simp; done) | (simp [hs, hkl] <;> omega) | skip
        · repeat' (first | exact trivial | refine And.intro ?_ ?_ | rfl | omega | decide | (show (_ : Nat) < _; decide))
        · repeat' (first | exact trivial | refine And.intro ?_ ?_ | rfl | omega | decide | (show (_ : Nat) < _; decide))
        · repeat' (first | exact trivial | refine And.intro ?_ ?_ | rfl | omega | decide | (show (_ : Nat) < _; decide))
  · intro _ _
    refine seq_k fun _ hK27 => ?_
    refine region_k (gg_ok h27) fun _ hK28 => ?_
    refine s_step rfl (by decide) rfl fun _ hS => ?_
    refine hS _ _ _ ?_
    clear hS
    refine s_step rfl (by decide) rfl fun _ hS => ?_
    refine hS _ _ _ ?_
    clear hS
    refine s_step rfl (by decide) rfl fun _ hS => ?_
    repeat refine And.intro (by first | omega | exact trivial | rfl | exact inR_i64.mpr ⟨by omega, by omega⟩ | (simp <;> omega) | exact hd | exact hd.symm | exact (hs _).symm | exact (hkl _ _).symm | (refine And.intro ?_ ?_ <;> exact trivial) | exact ⟨trivial, trivial, trivial⟩) ?_
    first | refine hS _ _ _ ?_ | (refine ite_yes (by first | omega | exact trivial | rfl | exact inR_i64.mpr ⟨by omega, by omega⟩ | (simp [hs, hkl, hd] <;> omega) | exact hd | exact hd.symm | exact (hs _).symm | exact (hkl _ _).symm | (refine And.intro ?_ ?_ <;> exact trivial) | exact ⟨trivial, trivial, trivial⟩) ?_; (repeat refine And.intro (by first | omega | exact trivial | rfl | exact inR_i64.mpr ⟨by omega, by omega⟩ | (simp [hs, hkl, hd] <;> omega) | exact hd | exact hd.symm | exact (hs _).symm | exact (hkl _ _).symm | (refine And.intro ?_ ?_ <;> exact trivial) | exact ⟨trivial, trivial, trivial⟩) ?_); refine hS _ _ _ ?_)
    clear hS
    refine s_step rfl (by decide) rfl fun _ hS => ?_
    repeat refine And.intro (by first | omega | exact trivial | rfl | exact inR_i64.mpr ⟨by omega, by omega⟩ | (simp [hs, hkl, hd] <;> omega) | exact hd | exact hd.symm | exact (hs _).symm | exact (hkl _ _).symm | (refine And.intro ?_ ?_ <;> exact trivial) | exact ⟨trivial, trivial, trivial⟩) ?_
    refine hS _ _ _ ?_
    clear hS
    refine s_step rfl (by decide) rfl fun _ hS => ?_
    repeat first | refine And.intro (by first | omega | exact trivial | rfl | exact inR_i64.mpr ⟨by omega, by omega⟩ | (simp <;> omega) | exact hd | exact hd.symm | exact (hs _).symm | exact (hkl _ _).symm | (refine And.intro ?_ ?_ <;> exact trivial) | exact ⟨trivial, trivial, trivial⟩) ?_ | refine whole_yes (by first | omega | exact trivial | rfl | exact inR_i64.mpr ⟨by omega, by omega⟩ | (simp [hs, hkl, hd] <;> omega) | exact hd | exact hd.symm | exact (hs _).symm | exact (hkl _ _).symm | (refine And.intro ?_ ?_ <;> exact trivial) | exact ⟨trivial, trivial, trivial⟩) ?_ | refine whole_sub ?_
    refine Exists.intro [l] ?_
    refine And.intro (by simp [lists, Cont.take]) ?_
    refine And.intro (by simp; omega) ?_
    repeat refine And.intro (by first | omega | exact trivial | rfl | exact inR_i64.mpr ⟨by omega, by omega⟩ | (simp [hs, hkl, hd] <;> omega) | exact hd | exact hd.symm | exact (hs _).symm | exact (hkl _ _).symm | (refine And.intro ?_ ?_ <;> exact trivial) | exact ⟨trivial, trivial, trivial⟩) ?_
    first | refine hS _ _ _ ?_ | (intro cap4 hcap4; refine hS _ _ _ ?_)
    clear hS
    refine s_step rfl (by decide) rfl fun _ hS => ?_
    repeat refine And.intro (by first | omega | exact trivial | rfl | exact inR_i64.mpr ⟨by omega, by omega⟩ | (simp [hs, hkl, hd] <;> omega) | exact hd | exact hd.symm | exact (hs _).symm | exact (hkl _ _).symm | (refine And.intro ?_ ?_ <;> exact trivial) | exact ⟨trivial, trivial, trivial⟩) ?_
    refine hS _ _ _ ?_
    clear hS
    refine s_step0 rfl rfl fun _ hS => ?_
    repeat refine And.intro (by first | omega | exact trivial | rfl | exact inR_i64.mpr ⟨by omega, by omega⟩ | (simp [hs] <;> omega) | exact hd | exact hd.symm | exact (hs _).symm | exact (hkl _ _).symm | (refine And.intro ?_ ?_ <;> exact trivial) | exact ⟨trivial, trivial, trivial⟩) ?_
    first | refine hS _ _ _ ?_ | (refine splice_full (by first | omega | exact trivial | rfl | exact inR_i64.mpr ⟨by omega, by omega⟩ | (simp [hs] <;> omega) | exact hd | exact hd.symm | exact (hs _).symm | exact (hkl _ _).symm | (refine And.intro ?_ ?_ <;> exact trivial) | exact ⟨trivial, trivial, trivial⟩) ?_; refine hS _ _ _ ?_)
    clear hS
    refine s_nil ?_
    refine hK28 _ _ _ ?_
    refine hK27 _ _ _ ?_
    refine seq_k fun _ hK29 => ?_
    refine region_k (gg_ok h27) fun _ hK30 => ?_
    refine s_step rfl (by decide) rfl fun _ hS => ?_
    repeat refine And.intro (by first | omega | exact trivial | rfl | exact inR_i64.mpr ⟨by omega, by omega⟩ | (simp [hs, hkl, hd, Cont.take] <;> omega) | exact hd | exact hd.symm | exact (hs _).symm | exact (hkl _ _).symm | (refine And.intro ?_ ?_ <;> exact trivial) | exact ⟨trivial, trivial, trivial⟩) ?_
    refine hS _ _ _ ?_
    clear hS
    refine s_step rfl (by decide) rfl fun _ hS => ?_
    refine hS _ _ _ ?_
    clear hS
    refine s_step rfl (by decide) rfl fun _ hS => ?_
    refine hS _ _ _ ?_
    clear hS
    refine s_step rfl (by decide) rfl fun _ hS => ?_
    repeat refine And.intro (by first | omega | exact trivial | rfl | exact inR_i64.mpr ⟨by omega, by omega⟩ | (simp <;> omega) | exact hd | exact hd.symm | exact (hs _).symm | exact (hkl _ _).symm | (refine And.intro ?_ ?_ <;> exact trivial) | exact ⟨trivial, trivial, trivial⟩) ?_
    first | refine hS _ _ _ ?_ | (refine ite_yes (by first | omega | exact trivial | rfl | exact inR_i64.mpr ⟨by omega, by omega⟩ | (simp [hs, hkl, hd, Cont.take] <;> omega) | exact hd | exact hd.symm | exact (hs _).symm | exact (hkl _ _).symm | (refine And.intro ?_ ?_ <;> exact trivial) | exact ⟨trivial, trivial, trivial⟩) ?_; (repeat refine And.intro (by first | omega | exact trivial | rfl | exact inR_i64.mpr ⟨by omega, by omega⟩ | (simp [hs, hkl, hd, Cont.take] <;> omega) | exact hd | exact hd.symm | exact (hs _).symm | exact (hkl _ _).symm | (refine And.intro ?_ ?_ <;> exact trivial) | exact ⟨trivial, trivial, trivial⟩) ?_); refine hS _ _ _ ?_)
    clear hS
    refine s_step rfl (by decide) rfl fun _ hS => ?_
    repeat first | refine And.intro (by first | omega | exact trivial | rfl | exact inR_i64.mpr ⟨by omega, by omega⟩ | (simp [Cont.take] <;> omega) | exact hd | exact hd.symm | exact (hs _).symm | exact (hkl _ _).symm | (refine And.intro ?_ ?_ <;> exact trivial) | exact ⟨trivial, trivial, trivial⟩) ?_ | refine whole_yes (by first | omega | exact trivial | rfl | exact inR_i64.mpr ⟨by omega, by omega⟩ | (simp [hs, hkl, hd, Cont.take] <;> omega) | exact hd | exact hd.symm | exact (hs _).symm | exact (hkl _ _).symm | (refine And.intro ?_ ?_ <;> exact trivial) | exact ⟨trivial, trivial, trivial⟩) ?_ | refine whole_sub ?_
    intro cap4 hcap4; refine hS _ _ _ ?_
    clear hS
    refine s_step rfl (by decide) rfl fun _ hS => ?_
    refine hS _ _ _ ?_
    clear hS
    refine s_nil ?_
    refine hK30 _ _ _ ?_
    refine hK29 _ _ _ ?_
    refine seq_k fun _ hK31 => ?_
    refine WP_le (is := [8, 9, 10, 11]) (ρ := id) (E' := [(5, .c (.dp (.u8s d) 0)), (7, .c (.bool true)), (9, .c (.int .i64 l.length)), (10, .c (.ds (l ++ m).length (.u8s (l ++ m)))), (11, .c (.ds (l ++ m).length (.u8s (l ++ m)))), (12, .c (.dp (.u8s (Sha.sum l)) 0)), (13, .c (.dp (.u8s (keyed d l)) 0)), (14, .c (.dp (.u8s (Sha.sum (encode [l]))) 0)), (15, .c (.ds l.length (.u8s l)))]) (H' := []) (n' := 12) ⟨?_, ?_, (by decide : List.Nodup ([] : List Nat)), ?_, ?_, ⟨Nat.zero_le _, fun i hi => absurd hi (Nat.not_lt_zero i)⟩⟩ ?_
    · repeat' (first | exact trivial | refine And.intro ?_ ?_ | rfl | omega | decide | (show (_ : Nat) < _; decide))
      all_goals first | (simp; done) | (simp [hs] <;> omega) | skip
    · repeat' (first | exact trivial | refine And.intro ?_ ?_ | rfl | omega | decide | (show (_ : Nat) < _; decide))
      all_goals first | (simp [hd]; done) | (simp [Cont.sub, Cont.take, Cont.drop, hs, hkl, hd] <;> omega) | skip
    · repeat' (first | exact trivial | refine And.intro ?_ ?_ | rfl | omega | decide | (show (_ : Nat) < _; decide))
    · repeat' (first | exact trivial | refine And.intro ?_ ?_ | rfl | omega | decide | (show (_ : Nat) < _; decide))
    refine sched_k (gg_ok h27) [(0, true), (1, true), (2, false), (3, true), (4, true), (5, true), (6, false), (7, true), (8, true), (9, true), (10, true), (11, true), (12, true), (13, false), (14, true), (15, true), (16, true), (17, true), (18, true), (19, false), (20, false), (21, true), (22, true), (23, true), (24, true), (25, true), (26, true)] rfl (by kernel_rfl) (by kernel_rfl) fun _ hK32 => ?_
    refine d_read rfl rfl (by decide) rfl fun _ hS => ?_
    refine hS _ ?_
    clear hS
    refine d_read rfl rfl (by decide) rfl fun _ hS => ?_
    refine hS _ ?_
    clear hS
    refine d_grow rfl rfl (by decide) rfl fun _ hS => ?_
    repeat first | refine And.intro (by first | omega | exact trivial | rfl | exact inR_i64.mpr ⟨by omega, by omega⟩ | (simp [hs, hkl, hd] <;> omega) | exact hd | exact hd.symm | exact (hs _).symm | exact (hkl _ _).symm | (refine And.intro ?_ ?_ <;> exact trivial) | exact ⟨trivial, trivial, trivial⟩) ?_ | refine whole_yes (by first | omega | exact trivial | rfl | exact inR_i64.mpr ⟨by omega, by omega⟩ | (simp [hs, hkl, hd] <;> omega) | exact hd | exact hd.symm | exact (hs _).symm | exact (hkl _ _).symm | (refine And.intro ?_ ?_ <;> exact trivial) | exact ⟨trivial, trivial, trivial⟩) ?_ | refine whole_sub ?_
    first | refine hS _ _ _ ?_ | (intro cap2 hcap2; refine hS _ _ _ ?_)
    clear hS
    refine d_read rfl rfl (by decide) rfl fun _ hS => ?_
    refine d_split hS (fun hb3 => ?_) (fun hb3 => ?_)
    rotate_left 1
    · exfalso; simp at hb3
    clear hS
    refine d_readg (b := true) rfl rfl (by decide) rfl rfl (fun _ _ hS => ?_) (fun e => absurd e (by decide))
    repeat refine And.intro (by first | omega | exact trivial | rfl | exact inR_i64.mpr ⟨by omega, by omega⟩ | (simp [hs] <;> omega) | exact hd | exact hd.symm | exact (hs _).symm | exact (hkl _ _).symm | (refine And.intro ?_ ?_ <;> exact trivial) | exact ⟨trivial, trivial, trivial⟩) ?_
    first | refine hS _ ?_ | (refine ite_yes (by first | omega | exact trivial | rfl | exact inR_i64.mpr ⟨by omega, by omega⟩ | (simp [hs] <;> omega) | exact hd | exact hd.symm | exact (hs _).symm | exact (hkl _ _).symm | (refine And.intro ?_ ?_ <;> exact trivial) | exact ⟨trivial, trivial, trivial⟩) ?_; refine hS _ ?_)
    clear hS
    refine d_readg (b := true) rfl rfl (by decide) rfl rfl (fun _ _ hS => ?_) (fun e => absurd e (by decide))
    refine hS _ ?_
    clear hS
    refine d_growg (b := true) rfl rfl (by decide) rfl rfl (fun _ _ hS => ?_) (fun e => absurd e (by decide))
    repeat first | refine And.intro (by first | omega | exact trivial | rfl | exact inR_i64.mpr ⟨by omega, by omega⟩ | (simp [hs, hkl, hd] <;> omega) | exact hd | exact hd.symm | exact (hs _).symm | exact (hkl _ _).symm | (refine And.intro ?_ ?_ <;> exact trivial) | exact ⟨trivial, trivial, trivial⟩) ?_ | refine whole_yes (by first | omega | exact trivial | rfl | exact inR_i64.mpr ⟨by omega, by omega⟩ | (simp [hs, hkl, hd] <;> omega) | exact hd | exact hd.symm | exact (hs _).symm | exact (hkl _ _).symm | (refine And.intro ?_ ?_ <;> exact trivial) | exact ⟨trivial, trivial, trivial⟩) ?_ | refine whole_sub ?_
    first | refine hS _ _ _ ?_ | (intro cap6 hcap6; refine hS _ _ _ ?_)
    clear hS
    refine d_readg (b := true) rfl rfl (by decide) rfl rfl (fun _ _ hS => ?_) (fun e => absurd e (by decide))
    repeat refine And.intro (by first | omega | exact trivial | rfl | exact inR_i64.mpr ⟨by omega, by omega⟩ | (simp [hs] <;> omega) | exact hd | exact hd.symm | exact (hs _).symm | exact (hkl _ _).symm | (refine And.intro ?_ ?_ <;> exact trivial) | exact ⟨trivial, trivial, trivial⟩) ?_
    refine hS _ ?_
    clear hS
    refine d_read rfl rfl (by decide) rfl fun _ hS => ?_
    refine hS _ ?_
    clear hS
    refine d_read rfl rfl (by decide) rfl fun _ hS => ?_
    refine d_split hS (fun hb9 => ?_) (fun hb9 => ?_)
    rotate_left 1
    · exfalso; simp at hb9
    clear hS
    refine d_readg (b := true) rfl rfl (by decide) rfl rfl (fun _ _ hS => ?_) (fun e => absurd e (by decide))
    repeat refine And.intro (by first | omega | exact trivial | rfl | exact inR_i64.mpr ⟨by omega, by omega⟩ | (simp [hkl] <;> omega) | exact hd | exact hd.symm | exact (hs _).symm | exact (hkl _ _).symm | (refine And.intro ?_ ?_ <;> exact trivial) | exact ⟨trivial, trivial, trivial⟩) ?_
    first | refine hS _ ?_ | (refine ite_yes (by first | omega | exact trivial | rfl | exact inR_i64.mpr ⟨by omega, by omega⟩ | (simp [hkl] <;> omega) | exact hd | exact hd.symm | exact (hs _).symm | exact (hkl _ _).symm | (refine And.intro ?_ ?_ <;> exact trivial) | exact ⟨trivial, trivial, trivial⟩) ?_; refine hS _ ?_)
    clear hS
    refine d_readg (b := true) rfl rfl (by decide) rfl rfl (fun _ _ hS => ?_) (fun e => absurd e (by decide))
    repeat refine And.intro (by first | omega | exact trivial | rfl | exact inR_i64.mpr ⟨by omega, by omega⟩ | (simp [hd] <;> omega) | exact hd | exact hd.symm | exact (hs _).symm | exact (hkl _ _).symm | (refine And.intro ?_ ?_ <;> exact trivial) | exact ⟨trivial, trivial, trivial⟩) ?_
    first | refine hS _ ?_ | (refine ite_yes (by first | omega | exact trivial | rfl | exact inR_i64.mpr ⟨by omega, by omega⟩ | (simp [hd] <;> omega) | exact hd | exact hd.symm | exact (hs _).symm | exact (hkl _ _).symm | (refine And.intro ?_ ?_ <;> exact trivial) | exact ⟨trivial, trivial, trivial⟩) ?_; refine hS _ ?_)
    clear hS
    refine d_readg (b := true) rfl rfl (by decide) rfl rfl (fun _ _ hS => ?_) (fun e => absurd e (by decide))
    refine hS _ ?_
    clear hS
    refine d_growg (b := true) rfl rfl (by decide) rfl rfl (fun _ _ hS => ?_) (fun e => absurd e (by decide))
    repeat first | refine And.intro (by first | omega | exact trivial | rfl | exact inR_i64.mpr ⟨by omega, by omega⟩ | (simp [hs, hkl, hd] <;> omega) | exact hd | exact hd.symm | exact (hs _).symm | exact (hkl _ _).symm | (refine And.intro ?_ ?_ <;> exact trivial) | exact ⟨trivial, trivial, trivial⟩) ?_ | refine whole_yes (by first | omega | exact trivial | rfl | exact inR_i64.mpr ⟨by omega, by omega⟩ | (simp [hs, hkl, hd] <;> omega) | exact hd | exact hd.symm | exact (hs _).symm | exact (hkl _ _).symm | (refine And.intro ?_ ?_ <;> exact trivial) | exact ⟨trivial, trivial, trivial⟩) ?_ | refine whole_sub ?_
    first | refine hS _ _ _ ?_ | (intro cap13 hcap13; refine hS _ _ _ ?_)
    clear hS
    refine d_readg (b := true) rfl rfl (by decide) rfl rfl (fun _ _ hS => ?_) (fun e => absurd e (by decide))
    repeat refine And.intro (by first | omega | exact trivial | rfl | exact inR_i64.mpr ⟨by omega, by omega⟩ | (simp [hkl] <;> omega) | exact hd | exact hd.symm | exact (hs _).symm | exact (hkl _ _).symm | (refine And.intro ?_ ?_ <;> exact trivial) | exact ⟨trivial, trivial, trivial⟩) ?_
    refine hS _ ?_
    clear hS
    refine d_read rfl rfl (by decide) rfl fun _ hS => ?_
    refine hS _ ?_
    clear hS
    refine d_read rfl rfl (by decide) rfl fun _ hS => ?_
    refine d_split hS (fun hb16 => ?_) (fun hb16 => ?_)
    rotate_left 1
    · exfalso; simp at hb16
    clear hS
    refine d_readg (b := true) rfl rfl (by decide) rfl rfl (fun _ _ hS => ?_) (fun e => absurd e (by decide))
    repeat refine And.intro (by first | omega | exact trivial | rfl | exact inR_i64.mpr ⟨by omega, by omega⟩ | (simp [hs] <;> omega) | exact hd | exact hd.symm | exact (hs _).symm | exact (hkl _ _).symm | (refine And.intro ?_ ?_ <;> exact trivial) | exact ⟨trivial, trivial, trivial⟩) ?_
    first | refine hS _ ?_ | (refine ite_yes (by first | omega | exact trivial | rfl | exact inR_i64.mpr ⟨by omega, by omega⟩ | (simp [hs] <;> omega) | exact hd | exact hd.symm | exact (hs _).symm | exact (hkl _ _).symm | (refine And.intro ?_ ?_ <;> exact trivial) | exact ⟨trivial, trivial, trivial⟩) ?_; refine hS _ ?_)
    clear hS
    refine d_readg (b := true) rfl rfl (by decide) rfl rfl (fun _ _ hS => ?_) (fun e => absurd e (by decide))
    refine hS _ ?_
    clear hS
    refine d_growg (b := true) rfl rfl (by decide) rfl rfl (fun _ _ hS => ?_) (fun e => absurd e (by decide))
    repeat refine And.intro (by first | omega | exact trivial | rfl | exact inR_i64.mpr ⟨by omega, by omega⟩ | (simp [hs, hkl, hd] <;> omega) | exact hd | exact hd.symm | exact (hs _).symm | exact (hkl _ _).symm | (refine And.intro ?_ ?_ <;> exact trivial) | exact ⟨trivial, trivial, trivial⟩) ?_
    refine hS _ _ _ ?_
    clear hS
    refine d_growg (b := true) rfl rfl (by decide) rfl rfl (fun _ _ hS => ?_) (fun e => absurd e (by decide))
    repeat first | refine And.intro (by first | omega | exact trivial | rfl | exact inR_i64.mpr ⟨by omega, by omega⟩ | (simp <;> omega) | exact hd | exact hd.symm | exact (hs _).symm | exact (hkl _ _).symm | (refine And.intro ?_ ?_ <;> exact trivial) | exact ⟨trivial, trivial, trivial⟩) ?_ | refine whole_yes (by first | omega | exact trivial | rfl | exact inR_i64.mpr ⟨by omega, by omega⟩ | (simp [hs, hkl, hd] <;> omega) | exact hd | exact hd.symm | exact (hs _).symm | exact (hkl _ _).symm | (refine And.intro ?_ ?_ <;> exact trivial) | exact ⟨trivial, trivial, trivial⟩) ?_ | refine whole_sub ?_
    refine Exists.intro [l] ?_
    refine And.intro rfl ?_
    refine And.intro (by simp; omega) ?_
    repeat refine And.intro (by first | omega | exact trivial | rfl | exact inR_i64.mpr ⟨by omega, by omega⟩ | (simp [hs, hkl, hd] <;> omega) | exact hd | exact hd.symm | exact (hs _).symm | exact (hkl _ _).symm | (refine And.intro ?_ ?_ <;> exact trivial) | exact ⟨trivial, trivial, trivial⟩) ?_
    first | refine hS _ _ _ ?_ | (intro cap20 hcap20; refine hS _ _ _ ?_)
    clear hS
    refine d_readg (b := true) rfl rfl (by decide) rfl rfl (fun _ _ hS => ?_) (fun e => absurd e (by decide))
    repeat refine And.intro (by first | omega | exact trivial | rfl | exact inR_i64.mpr ⟨by omega, by omega⟩ | (simp [hs] <;> omega) | exact hd | exact hd.symm | exact (hs _).symm | exact (hkl _ _).symm | (refine And.intro ?_ ?_ <;> exact trivial) | exact ⟨trivial, trivial, trivial⟩) ?_
    refine hS _ ?_
    clear hS
    refine d_read rfl rfl (by decide) rfl fun _ hS => ?_
    refine hS _ ?_
    clear hS
    refine d_read rfl rfl (by decide) rfl fun _ hS => ?_
    refine d_split hS (fun hb23 => ?_) (fun hb23 => ?_)
    rotate_left 1
    · exfalso; simp at hb23
    clear hS
    refine d_readg (b := true) rfl rfl (by decide) rfl rfl (fun _ _ hS => ?_) (fun e => absurd e (by decide))
    refine hS _ ?_
    clear hS
    refine d_read rfl rfl (by decide) rfl fun _ hS => ?_
    refine hS _ ?_
    clear hS
    refine d_read rfl rfl (by decide) rfl fun _ hS => ?_
    refine hS _ ?_
    clear hS
    refine d_nil ?_
    refine hK32 _ _ _ ?_
    refine hK31 _ _ _ ?_
    refine WP_ret (Done_flat (gg_ok h27) (fun _ _ h => h) (by first | rfl | assumption) [.tmp 6] rfl ?_)
    repeat refine And.intro (by first | omega | exact trivial | rfl | (simp <;> omega)) ?_
    try refine ite_yes (by first | omega | exact trivial | rfl | (simp <;> omega)) ?_
    show _ = _
    rfl
end Go.Proofs.YtdanaehfdbdhdaaDoor
