/- The law of the changes. -/
import Derived.Test.YtdanaehfdbdhdaaDoorVv
namespace Go.Proofs.YtdanaehfdbdhdaaDoor
set_option linter.unusedVariables false
open Go.Ab Go.RowKit

theorem inR_u16 {n : Int} (h0 : 0 ≤ n) (h1 : n ≤ 65535) : inR .u16 n := by
  refine ⟨?_, ?_⟩ <;> simp [IntKind.min, IntKind.max, IntKind.signed, IntKind.bits] <;> omega
def chg (k : Int) (x : UInt8) : UInt8 := x ^^^ UInt8.ofInt (1 + k / 2 ^ 8 % 255)
noncomputable def gh : Ctx := { P := Tryd.prog, ty := ty, glob := gl, fs := [(11, .flat sanityS), (12, .data shortS), (14, .flat sumS), (15, .flat sumS), (16, .flat keyedS), (17, .flat keyedS)] }
theorem gh_ok (h27 : FlatOK Tryd.prog gl 27 hashS) : gh.OK := ⟨tyOK, ⟨⟨enters_mk Tryd.func11 (by kernel_rfl) rfl, sanity_ok h27⟩, ⟨enters_mk Tryd.func12 (by kernel_rfl) rfl, short_ok⟩, ⟨enters_mk Tryd.func14 (by kernel_rfl) rfl, sum_ok h27⟩, ⟨enters_mk Tryd.func15 (by kernel_rfl) rfl, sumR_ok⟩, ⟨enters_mk Tryd.func16 (by kernel_rfl) rfl, keyed_ok h27⟩, ⟨enters_mk Tryd.func17 (by kernel_rfl) rfl, keyedR_ok⟩, trivial⟩, mixed⟩
@[simp] theorem gh_ty : gh.ty = ty := rfl


attribute [local irreducible] Sha.sum keyed chg
def lawChangesS : QSpec := fun vs K => ∃ l d k, vs = [.c (.ds l.length (.u8s l)), .agg (.u8s d), .c (.int .u16 k)] ∧ (l.length ≤ 9223372036854775807 ∧ d.length = 32 ∧ 0 ≤ k ∧ k ≤ 65535) ∧ K (.c (.bool true))
set_option maxHeartbeats 4000000 in
theorem lawChanges_ok (h27 : FlatOK Tryd.prog gl 27 hashS) : FlatOK Tryd.prog gl 9 lawChangesS := by
  refine flat_of (Γ := gh) (N := 133) Tryd.func9 rfl rfl fun vs K h => ?_
  obtain ⟨l0, d, k, rfl, ⟨hl0, hd, hk0, hk1⟩, h⟩ := h
  refine ⟨_, h, rfl, by simp, fun w I => ?_⟩
  have hs := Sha.sum_length
  have hkl := keyed_length
  have hq : 0 ≤ k / 2 ^ 8 := Int.ediv_nonneg hk0 (by decide)
  refine seq_k fun _ hK1 => ?_
  refine region_k (gh_ok h27) fun _ hK2 => ?_
  refine s_step rfl (by decide) rfl fun _ hS => ?_
  repeat refine And.intro (by first | omega | exact trivial | rfl | exact inR_i64.mpr ⟨by omega, by omega⟩ | (simp [hs, hkl, hd] <;> omega) | exact hd.symm | (refine And.intro ?_ ?_ <;> exact trivial) | exact ⟨trivial, trivial, trivial⟩) ?_
  refine hS _ _ _ ?_
  clear hS
  refine s_step rfl (by decide) rfl fun _ hS => ?_
  refine hS _ _ _ ?_
  clear hS
  refine s_nil ?_
  refine hK2 _ _ _ ?_
  refine hK1 _ _ _ ?_
  refine seq_k fun _ hK3 => ?_
  refine region_k (gh_ok h27) fun _ hK4 => ?_
  refine s_step rfl (by decide) rfl fun _ hS => ?_
  repeat first | refine And.intro (by first | omega | exact trivial | rfl | exact inR_i64.mpr ⟨by omega, by omega⟩ | (simp [hs, hkl, hd] <;> omega) | exact hd | exact hd.symm | exact (hs _).symm | exact (hkl _ _).symm | exact inR_u16 (by omega) (by omega) | exact ⟨hq, by decide⟩ | decide | (refine And.intro ?_ ?_ <;> exact trivial) | exact ⟨trivial, trivial, trivial⟩) ?_ | refine whole_yes (by first | omega | exact trivial | rfl | exact inR_i64.mpr ⟨by omega, by omega⟩ | (simp [hs, hkl, hd] <;> omega) | exact hd | exact hd.symm | exact (hs _).symm | exact (hkl _ _).symm | exact inR_u16 (by omega) (by omega) | exact ⟨hq, by decide⟩ | decide | (refine And.intro ?_ ?_ <;> exact trivial) | exact ⟨trivial, trivial, trivial⟩) ?_ | refine whole_sub ?_
  first | refine hS _ _ _ ?_ | (intro cap0 hcap0; refine hS _ _ _ ?_)
  clear hS
  refine s_step rfl (by decide) rfl fun _ hS => ?_
  refine hS _ _ _ ?_
  clear hS
  refine s_nil ?_
  refine hK4 _ _ _ ?_
  refine hK3 _ _ _ ?_
  refine seq_k fun _ hK5 => ?_
  refine region_k (gh_ok h27) fun _ hK6 => ?_
  refine s_step rfl (by decide) rfl fun _ hS => ?_
  repeat refine And.intro (by first | omega | exact trivial | rfl | exact inR_i64.mpr ⟨by omega, by omega⟩ | (simp [hs, hkl, hd] <;> omega) | exact hd | exact hd.symm | exact (hs _).symm | exact (hkl _ _).symm | exact inR_u16 (by omega) (by omega) | exact ⟨hq, by decide⟩ | decide | (refine And.intro ?_ ?_ <;> exact trivial) | exact ⟨trivial, trivial, trivial⟩) ?_
  refine hS _ _ _ ?_
  clear hS
  refine s_step rfl (by decide) rfl fun _ hS => ?_
  refine hS _ _ _ ?_
  clear hS
  refine s_step rfl (by decide) rfl fun _ hS => ?_
  repeat first | refine And.intro (by first | omega | exact trivial | rfl | exact inR_i64.mpr ⟨by omega, by omega⟩ | (simp [hs, hkl, hd] <;> omega) | exact hd | exact hd.symm | exact (hs _).symm | exact (hkl _ _).symm | exact inR_u16 (by omega) (by omega) | exact ⟨hq, by decide⟩ | decide | (refine And.intro ?_ ?_ <;> exact trivial) | exact ⟨trivial, trivial, trivial⟩) ?_ | refine whole_yes (by first | omega | exact trivial | rfl | exact inR_i64.mpr ⟨by omega, by omega⟩ | (simp [hs, hkl, hd] <;> omega) | exact hd | exact hd.symm | exact (hs _).symm | exact (hkl _ _).symm | exact inR_u16 (by omega) (by omega) | exact ⟨hq, by decide⟩ | decide | (refine And.intro ?_ ?_ <;> exact trivial) | exact ⟨trivial, trivial, trivial⟩) ?_ | refine whole_sub ?_
  first | refine hS _ _ _ ?_ | (intro cap2 hcap2; refine hS _ _ _ ?_)
  clear hS
  refine s_step rfl (by decide) rfl fun _ hS => ?_
  repeat first | refine And.intro (by first | omega | exact trivial | rfl | exact inR_i64.mpr ⟨by omega, by omega⟩ | (simp <;> omega) | exact hd | exact hd.symm | exact (hs _).symm | exact (hkl _ _).symm | exact inR_u16 (by omega) (by omega) | exact ⟨hq, by decide⟩ | decide | (refine And.intro ?_ ?_ <;> exact trivial) | exact ⟨trivial, trivial, trivial⟩) ?_ | refine whole_yes (by first | omega | exact trivial | rfl | exact inR_i64.mpr ⟨by omega, by omega⟩ | (simp [hs, hkl, hd] <;> omega) | exact hd | exact hd.symm | exact (hs _).symm | exact (hkl _ _).symm | exact inR_u16 (by omega) (by omega) | exact ⟨hq, by decide⟩ | decide | (refine And.intro ?_ ?_ <;> exact trivial) | exact ⟨trivial, trivial, trivial⟩) ?_ | refine whole_sub ?_
  intro cap3 hcap3; refine hS _ _ _ ?_
  clear hS
  refine s_step rfl (by decide) rfl fun _ hS => ?_
  refine hS _ _ _ ?_
  clear hS
  refine s_nil ?_
  refine hK6 _ _ _ ?_
  generalize hl : l0.take (Int.toNat 200) = l
  have hll : l.length ≤ 200 := by rw [← hl]; simp; omega
  refine hK5 _ _ _ ?_
  refine WP_cut (α := Unit) (fun _ => [(2, .c (.int .u16 k)), (4, .c (.dp (.u8s d) 0)), (7, .c (.bool true)), (8, .c (.ds l.length (.u8s l))), (9, .c (.dp (.u8s (Sha.sum l)) 0)), (10, .c (.dp (.u8s (keyed d l)) 0))]) (fun _ => []) 5 (fun _ => True) ?_ ?_
  · skip
    refine WP_le (is := [0, 2]) (ρ := id) (E' := [(2, .c (.int .u16 k)), (4, .c (.dp (.u8s d) 0)), (7, .c (.bool true)), (8, .c (.ds l.length (.u8s l)))]) (H' := []) (n' := 3) ⟨?_, ?_, (by decide : List.Nodup ([] : List Nat)), ?_, ?_, ⟨Nat.zero_le _, fun i hi => absurd hi (Nat.not_lt_zero i)⟩⟩ ?_
    · repeat' (first | exact trivial | refine And.intro ?_ ?_ | rfl | omega | decide | (show (_ : Nat) < _; decide))
      all_goals first | (simp [hd]; done) | (simp [Cont.sub, Cont.take, Cont.drop, hs, hkl, hd] <;> omega) | skip
    · repeat' (first | exact trivial | refine And.intro ?_ ?_ | rfl | omega | decide | (show (_ : Nat) < _; decide))
      all_goals first | (simp [hd]; done) | (simp [Cont.sub, Cont.take, Cont.drop, hs, hkl, hd] <;> omega) | skip
    · repeat' (first | exact trivial | refine And.intro ?_ ?_ | rfl | omega | decide | (show (_ : Nat) < _; decide))
    · repeat' (first | exact trivial | refine And.intro ?_ ?_ | rfl | omega | decide | (show (_ : Nat) < _; decide))
    refine tree_k (gh_ok h27) ?_
    refine WB_run (gh_ok h27) (g := 6) (by kernel_rfl) [(0, true), (2, true), (3, true)] (by kernel_rfl) fun _ hK8 => ?_
    refine d_read rfl rfl (by decide) rfl fun _ hS => ?_
    refine hS _ ?_
    clear hS
    refine d_read rfl rfl (by decide) rfl fun _ hS => ?_
    repeat refine And.intro (by first | omega | exact trivial | rfl | exact inR_i64.mpr ⟨by omega, by omega⟩ | (simp [hd] <;> omega) | exact hd | exact hd.symm | exact (hs _).symm | exact (hkl _ _).symm | exact inR_u16 (by omega) (by omega) | exact ⟨hq, by decide⟩ | decide | (refine And.intro ?_ ?_ <;> exact trivial) | exact ⟨trivial, trivial, trivial⟩) ?_
    first | refine hS _ ?_ | (refine ite_yes (by first | omega | exact trivial | rfl | exact inR_i64.mpr ⟨by omega, by omega⟩ | (simp [hd] <;> omega) | exact hd | exact hd.symm | exact (hs _).symm | exact (hkl _ _).symm | exact inR_u16 (by omega) (by omega) | exact ⟨hq, by decide⟩ | decide | (refine And.intro ?_ ?_ <;> exact trivial) | exact ⟨trivial, trivial, trivial⟩) ?_; refine hS _ ?_)
    clear hS
    refine d_read rfl rfl (by decide) rfl fun _ hS => ?_
    refine hS _ ?_
    clear hS
    refine d_nil ?_
    refine hK8 _ _ _ ?_
    refine WB_all [1, 5, 6] (by kernel_rfl) (by decide) (List.forall_mem_cons.2 ⟨?_, List.forall_mem_cons.2 ⟨?_, List.forall_mem_cons.2 ⟨?_, fun _ h => by cases h⟩⟩⟩)
    · refine WB_force (gh_ok h27) rfl rfl (by decide) rfl fun _ hS => ?_
      repeat first | refine And.intro (by first | omega | exact trivial | rfl | exact inR_i64.mpr ⟨by omega, by omega⟩ | (simp [hs, hkl, hd] <;> omega) | exact hd | exact hd.symm | exact (hs _).symm | exact (hkl _ _).symm | exact inR_u16 (by omega) (by omega) | exact ⟨hq, by decide⟩ | decide | (refine And.intro ?_ ?_ <;> exact trivial) | exact ⟨trivial, trivial, trivial⟩) ?_ | refine whole_yes (by first | omega | exact trivial | rfl | exact inR_i64.mpr ⟨by omega, by omega⟩ | (simp [hs, hkl, hd] <;> omega) | exact hd | exact hd.symm | exact (hs _).symm | exact (hkl _ _).symm | exact inR_u16 (by omega) (by omega) | exact ⟨hq, by decide⟩ | decide | (refine And.intro ?_ ?_ <;> exact trivial) | exact ⟨trivial, trivial, trivial⟩) ?_ | refine whole_sub ?_
      first | refine hS _ _ _ ?_ | (intro cap1 hcap1; refine hS _ _ _ ?_)
      clear hS
      refine WB_all [4, 5, 6] (by kernel_rfl) (by decide) (List.forall_mem_cons.2 ⟨?_, List.forall_mem_cons.2 ⟨?_, List.forall_mem_cons.2 ⟨?_, fun _ h => by cases h⟩⟩⟩)
      · refine WB_force (gh_ok h27) rfl rfl (by decide) rfl fun _ hS => ?_
        repeat first | refine And.intro (by first | omega | exact trivial | rfl | exact inR_i64.mpr ⟨by omega, by omega⟩ | (simp [hs, hkl, hd] <;> omega) | exact hd | exact hd.symm | exact (hs _).symm | exact (hkl _ _).symm | exact inR_u16 (by omega) (by omega) | exact ⟨hq, by decide⟩ | decide | (refine And.intro ?_ ?_ <;> exact trivial) | exact ⟨trivial, trivial, trivial⟩) ?_ | refine whole_yes (by first | omega | exact trivial | rfl | exact inR_i64.mpr ⟨by omega, by omega⟩ | (simp [hs, hkl, hd] <;> omega) | exact hd | exact hd.symm | exact (hs _).symm | exact (hkl _ _).symm | exact inR_u16 (by omega) (by omega) | exact ⟨hq, by decide⟩ | decide | (refine And.intro ?_ ?_ <;> exact trivial) | exact ⟨trivial, trivial, trivial⟩) ?_ | refine whole_sub ?_
        first | refine hS _ _ _ ?_ | (intro cap4 hcap4; refine hS _ _ _ ?_)
        clear hS
        refine WB_all [5, 6] (by kernel_rfl) (by decide) (List.forall_mem_cons.2 ⟨?_, List.forall_mem_cons.2 ⟨?_, fun _ h => by cases h⟩⟩)
        · refine WB_force (gh_ok h27) rfl rfl (by decide) rfl fun _ hS => ?_
          repeat refine And.intro (by first | omega | exact trivial | rfl | exact inR_i64.mpr ⟨by omega, by omega⟩ | (simp [hs, hkl, hd] <;> omega) | exact hd | exact hd.symm | exact (hs _).symm | exact (hkl _ _).symm | exact inR_u16 (by omega) (by omega) | exact ⟨hq, by decide⟩ | decide | (refine And.intro ?_ ?_ <;> exact trivial) | exact ⟨trivial, trivial, trivial⟩) ?_
          refine hS _ _ _ ?_
          clear hS
          refine WB_run (gh_ok h27) (g := 0) (by kernel_rfl) [(6, false), (7, false), (8, false)] (by kernel_rfl) fun _ hK9 => ?_
          refine d_grow rfl rfl (by decide) rfl fun _ hS => ?_
          repeat refine And.intro (by first | omega | exact trivial | rfl | exact inR_i64.mpr ⟨by omega, by omega⟩ | (simp [hs, hkl, hd] <;> omega) | exact hd | exact hd.symm | exact (hs _).symm | exact (hkl _ _).symm | exact inR_u16 (by omega) (by omega) | exact ⟨hq, by decide⟩ | decide | (refine And.intro ?_ ?_ <;> exact trivial) | exact ⟨trivial, trivial, trivial⟩) ?_
          refine hS _ _ _ ?_
          clear hS
          refine d_grow0 rfl rfl rfl fun _ hS => ?_
          repeat refine And.intro (by first | omega | exact trivial | rfl | exact inR_i64.mpr ⟨by omega, by omega⟩ | (simp [hs] <;> omega) | exact hd | exact hd.symm | exact (hs _).symm | exact (hkl _ _).symm | exact inR_u16 (by omega) (by omega) | exact ⟨hq, by decide⟩ | decide | (refine And.intro ?_ ?_ <;> exact trivial) | exact ⟨trivial, trivial, trivial⟩) ?_
          first | refine hS _ _ _ ?_ | (refine splice_full (by first | omega | exact trivial | rfl | exact inR_i64.mpr ⟨by omega, by omega⟩ | (simp [hs] <;> omega) | exact hd | exact hd.symm | exact (hs _).symm | exact (hkl _ _).symm | exact inR_u16 (by omega) (by omega) | exact ⟨hq, by decide⟩ | decide | (refine And.intro ?_ ?_ <;> exact trivial) | exact ⟨trivial, trivial, trivial⟩) ?_; refine hS _ _ _ ?_)
          clear hS
          refine d_grow0 rfl rfl rfl fun _ hS => ?_
          repeat refine And.intro (by first | omega | exact trivial | rfl | exact inR_i64.mpr ⟨by omega, by omega⟩ | (simp [hkl] <;> omega) | exact hd | exact hd.symm | exact (hs _).symm | exact (hkl _ _).symm | exact inR_u16 (by omega) (by omega) | exact ⟨hq, by decide⟩ | decide | (refine And.intro ?_ ?_ <;> exact trivial) | exact ⟨trivial, trivial, trivial⟩) ?_
          first | refine hS _ _ _ ?_ | (refine splice_full (by first | omega | exact trivial | rfl | exact inR_i64.mpr ⟨by omega, by omega⟩ | (simp [hkl] <;> omega) | exact hd | exact hd.symm | exact (hs _).symm | exact (hkl _ _).symm | exact inR_u16 (by omega) (by omega) | exact ⟨hq, by decide⟩ | decide | (refine And.intro ?_ ?_ <;> exact trivial) | exact ⟨trivial, trivial, trivial⟩) ?_; refine hS _ _ _ ?_)
          clear hS
          refine d_nil ?_
          refine hK9 _ _ _ ?_
          refine WB_done (by kernel_rfl) ?_
          refine Done_some [3, 4] id () trivial ⟨?_, ?_, (by decide : List.Nodup ([] : List Nat)), ?_, ?_, ⟨Nat.zero_le _, fun i hi => absurd hi (Nat.not_lt_zero i)⟩⟩
          · repeat' (first | exact trivial | refine And.intro ?_ ?_ | rfl | omega | decide | (show (_ : Nat) < _; decide))
            all_goals first | (simp; done) | (simp [hs, hkl] <;> omega) | skip
          · repeat' (first | exact trivial | refine And.intro ?_ ?_ | rfl | omega | decide | (show (_ : Nat) < _; decide))
          · repeat' (first | exact trivial | refine And.intro ?_ ?_ | rfl | omega | decide | (show (_ : Nat) < _; decide))
          · repeat' (first | exact trivial | refine And.intro ?_ ?_ | rfl | omega | decide | (show (_ : Nat) < _; decide))
        · refine WB_force (gh_ok h27) rfl rfl (by decide) rfl fun _ hS => ?_
          repeat refine And.intro (by first | omega | exact trivial | rfl | exact inR_i64.mpr ⟨by omega, by omega⟩ | (simp [hs, hkl, hd] <;> omega) | exact hd | exact hd.symm | exact (hs _).symm | exact (hkl _ _).symm | exact inR_u16 (by omega) (by omega) | exact ⟨hq, by decide⟩ | decide | (refine And.intro ?_ ?_ <;> exact trivial) | exact ⟨trivial, trivial, trivial⟩) ?_
          refine hS _ _ _ ?_
          clear hS
          refine WB_run (gh_ok h27) (g := 0) (by kernel_rfl) [(5, false), (7, false), (8, false)] (by kernel_rfl) fun _ hK10 => ?_
          refine d_grow rfl rfl (by decide) rfl fun _ hS => ?_
          repeat refine And.intro (by first | omega | exact trivial | rfl | exact inR_i64.mpr ⟨by omega, by omega⟩ | (simp [hs, hkl, hd] <;> omega) | exact hd | exact hd.symm | exact (hs _).symm | exact (hkl _ _).symm | exact inR_u16 (by omega) (by omega) | exact ⟨hq, by decide⟩ | decide | (refine And.intro ?_ ?_ <;> exact trivial) | exact ⟨trivial, trivial, trivial⟩) ?_
          refine hS _ _ _ ?_
          clear hS
          refine d_grow0 rfl rfl rfl fun _ hS => ?_
          repeat refine And.intro (by first | omega | exact trivial | rfl | exact inR_i64.mpr ⟨by omega, by omega⟩ | (simp [hs] <;> omega) | exact hd | exact hd.symm | exact (hs _).symm | exact (hkl _ _).symm | exact inR_u16 (by omega) (by omega) | exact ⟨hq, by decide⟩ | decide | (refine And.intro ?_ ?_ <;> exact trivial) | exact ⟨trivial, trivial, trivial⟩) ?_
          first | refine hS _ _ _ ?_ | (refine splice_full (by first | omega | exact trivial | rfl | exact inR_i64.mpr ⟨by omega, by omega⟩ | (simp [hs] <;> omega) | exact hd | exact hd.symm | exact (hs _).symm | exact (hkl _ _).symm | exact inR_u16 (by omega) (by omega) | exact ⟨hq, by decide⟩ | decide | (refine And.intro ?_ ?_ <;> exact trivial) | exact ⟨trivial, trivial, trivial⟩) ?_; refine hS _ _ _ ?_)
          clear hS
          refine d_grow0 rfl rfl rfl fun _ hS => ?_
          repeat refine And.intro (by first | omega | exact trivial | rfl | exact inR_i64.mpr ⟨by omega, by omega⟩ | (simp [hkl] <;> omega) | exact hd | exact hd.symm | exact (hs _).symm | exact (hkl _ _).symm | exact inR_u16 (by omega) (by omega) | exact ⟨hq, by decide⟩ | decide | (refine And.intro ?_ ?_ <;> exact trivial) | exact ⟨trivial, trivial, trivial⟩) ?_
          first | refine hS _ _ _ ?_ | (refine splice_full (by first | omega | exact trivial | rfl | exact inR_i64.mpr ⟨by omega, by omega⟩ | (simp [hkl] <;> omega) | exact hd | exact hd.symm | exact (hs _).symm | exact (hkl _ _).symm | exact inR_u16 (by omega) (by omega) | exact ⟨hq, by decide⟩ | decide | (refine And.intro ?_ ?_ <;> exact trivial) | exact ⟨trivial, trivial, trivial⟩) ?_; refine hS _ _ _ ?_)
          clear hS
          refine d_nil ?_
          refine hK10 _ _ _ ?_
          refine WB_done (by kernel_rfl) ?_
          refine Done_some [3, 4] id () trivial ⟨?_, ?_, (by decide : List.Nodup ([] : List Nat)), ?_, ?_, ⟨Nat.zero_le _, fun i hi => absurd hi (Nat.not_lt_zero i)⟩⟩
          · repeat' (first | exact trivial | refine And.intro ?_ ?_ | rfl | omega | decide | (show (_ : Nat) < _; decide))
            all_goals first | (simp; done) | (simp [hs, hkl] <;> omega) | skip
          · repeat' (first | exact trivial | refine And.intro ?_ ?_ | rfl | omega | decide | (show (_ : Nat) < _; decide))
          · repeat' (first | exact trivial | refine And.intro ?_ ?_ | rfl | omega | decide | (show (_ : Nat) < _; decide))
          · repeat' (first | exact trivial | refine And.intro ?_ ?_ | rfl | omega | decide | (show (_ : Nat) < _; decide))
      · refine WB_force (gh_ok h27) rfl rfl (by decide) rfl fun _ hS => ?_
        repeat refine And.intro (by first | omega | exact trivial | rfl | exact inR_i64.mpr ⟨by omega, by omega⟩ | (simp [hs, hkl, hd] <;> omega) | exact hd | exact hd.symm | exact (hs _).symm | exact (hkl _ _).symm | exact inR_u16 (by omega) (by omega) | exact ⟨hq, by decide⟩ | decide | (refine And.intro ?_ ?_ <;> exact trivial) | exact ⟨trivial, trivial, trivial⟩) ?_
        refine hS _ _ _ ?_
        clear hS
        refine WB_all [4, 6] (by kernel_rfl) (by decide) (List.forall_mem_cons.2 ⟨?_, List.forall_mem_cons.2 ⟨?_, fun _ h => by cases h⟩⟩)
        · refine WB_force (gh_ok h27) rfl rfl (by decide) rfl fun _ hS => ?_
          repeat first | refine And.intro (by first | omega | exact trivial | rfl | exact inR_i64.mpr ⟨by omega, by omega⟩ | (simp [hs, hkl, hd] <;> omega) | exact hd | exact hd.symm | exact (hs _).symm | exact (hkl _ _).symm | exact inR_u16 (by omega) (by omega) | exact ⟨hq, by decide⟩ | decide | (refine And.intro ?_ ?_ <;> exact trivial) | exact ⟨trivial, trivial, trivial⟩) ?_ | refine whole_yes (by first | omega | exact trivial | rfl | exact inR_i64.mpr ⟨by omega, by omega⟩ | (simp [hs, hkl, hd] <;> omega) | exact hd | exact hd.symm | exact (hs _).symm | exact (hkl _ _).symm | exact inR_u16 (by omega) (by omega) | exact ⟨hq, by decide⟩ | decide | (refine And.intro ?_ ?_ <;> exact trivial) | exact ⟨trivial, trivial, trivial⟩) ?_ | refine whole_sub ?_
          first | refine hS _ _ _ ?_ | (intro cap4 hcap4; refine hS _ _ _ ?_)
          clear hS
          refine WB_run (gh_ok h27) (g := 0) (by kernel_rfl) [(6, false), (7, false), (8, false)] (by kernel_rfl) fun _ hK11 => ?_
          refine d_grow rfl rfl (by decide) rfl fun _ hS => ?_
          repeat refine And.intro (by first | omega | exact trivial | rfl | exact inR_i64.mpr ⟨by omega, by omega⟩ | (simp [hs, hkl, hd] <;> omega) | exact hd | exact hd.symm | exact (hs _).symm | exact (hkl _ _).symm | exact inR_u16 (by omega) (by omega) | exact ⟨hq, by decide⟩ | decide | (refine And.intro ?_ ?_ <;> exact trivial) | exact ⟨trivial, trivial, trivial⟩) ?_
          refine hS _ _ _ ?_
          clear hS
          refine d_grow0 rfl rfl rfl fun _ hS => ?_
          repeat refine And.intro (by first | omega | exact trivial | rfl | exact inR_i64.mpr ⟨by omega, by omega⟩ | (simp [hs] <;> omega) | exact hd | exact hd.symm | exact (hs _).symm | exact (hkl _ _).symm | exact inR_u16 (by omega) (by omega) | exact ⟨hq, by decide⟩ | decide | (refine And.intro ?_ ?_ <;> exact trivial) | exact ⟨trivial, trivial, trivial⟩) ?_
          first | refine hS _ _ _ ?_ | (refine splice_full (by first | omega | exact trivial | rfl | exact inR_i64.mpr ⟨by omega, by omega⟩ | (simp [hs] <;> omega) | exact hd | exact hd.symm | exact (hs _).symm | exact (hkl _ _).symm | exact inR_u16 (by omega) (by omega) | exact ⟨hq, by decide⟩ | decide | (refine And.intro ?_ ?_ <;> exact trivial) | exact ⟨trivial, trivial, trivial⟩) ?_; refine hS _ _ _ ?_)
          clear hS
          refine d_grow0 rfl rfl rfl fun _ hS => ?_
          repeat refine And.intro (by first | omega | exact trivial | rfl | exact inR_i64.mpr ⟨by omega, by omega⟩ | (simp [hkl] <;> omega) | exact hd | exact hd.symm | exact (hs _).symm | exact (hkl _ _).symm | exact inR_u16 (by omega) (by omega) | exact ⟨hq, by decide⟩ | decide | (refine And.intro ?_ ?_ <;> exact trivial) | exact ⟨trivial, trivial, trivial⟩) ?_
          first | refine hS _ _ _ ?_ | (refine splice_full (by first | omega | exact trivial | rfl | exact inR_i64.mpr ⟨by omega, by omega⟩ | (simp [hkl] <;> omega) | exact hd | exact hd.symm | exact (hs _).symm | exact (hkl _ _).symm | exact inR_u16 (by omega) (by omega) | exact ⟨hq, by decide⟩ | decide | (refine And.intro ?_ ?_ <;> exact trivial) | exact ⟨trivial, trivial, trivial⟩) ?_; refine hS _ _ _ ?_)
          clear hS
          refine d_nil ?_
          refine hK11 _ _ _ ?_
          refine WB_done (by kernel_rfl) ?_
          refine Done_some [3, 4] id () trivial ⟨?_, ?_, (by decide : List.Nodup ([] : List Nat)), ?_, ?_, ⟨Nat.zero_le _, fun i hi => absurd hi (Nat.not_lt_zero i)⟩⟩
          · repeat' (first | exact trivial | refine And.intro ?_ ?_ | rfl | omega | decide | (show (_ : Nat) < _; decide))
            all_goals first | (simp; done) | (simp [hs, hkl] <;> omega) | skip
          · repeat' (first | exact trivial | refine And.intro ?_ ?_ | rfl | omega | decide | (show (_ : Nat) < _; decide))
          · repeat' (first | exact trivial | refine And.intro ?_ ?_ | rfl | omega | decide | (show (_ : Nat) < _; decide))
          · repeat' (first | exact trivial | refine And.intro ?_ ?_ | rfl | omega | decide | (show (_ : Nat) < _; decide))
        · refine WB_force (gh_ok h27) rfl rfl (by decide) rfl fun _ hS => ?_
          repeat refine And.intro (by first | omega | exact trivial | rfl | exact inR_i64.mpr ⟨by omega, by omega⟩ | (simp [hs, hkl, hd] <;> omega) | exact hd | exact hd.symm | exact (hs _).symm | exact (hkl _ _).symm | exact inR_u16 (by omega) (by omega) | exact ⟨hq, by decide⟩ | decide | (refine And.intro ?_ ?_ <;> exact trivial) | exact ⟨trivial, trivial, trivial⟩) ?_
          refine hS _ _ _ ?_
          clear hS
          refine WB_run (gh_ok h27) (g := 0) (by kernel_rfl) [(4, false), (7, false), (8, false)] (by kernel_rfl) fun _ hK12 => ?_
          refine d_grow rfl rfl (by decide) rfl fun _ hS => ?_
          repeat first | refine And.intro (by first | omega | exact trivial | rfl | exact inR_i64.mpr ⟨by omega, by omega⟩ | (simp [hs, hkl, hd] <;> omega) | exact hd | exact hd.symm | exact (hs _).symm | exact (hkl _ _).symm | exact inR_u16 (by omega) (by omega) | exact ⟨hq, by decide⟩ | decide | (refine And.intro ?_ ?_ <;> exact trivial) | exact ⟨trivial, trivial, trivial⟩) ?_ | refine whole_yes (by first | omega | exact trivial | rfl | exact inR_i64.mpr ⟨by omega, by omega⟩ | (simp [hs, hkl, hd] <;> omega) | exact hd | exact hd.symm | exact (hs _).symm | exact (hkl _ _).symm | exact inR_u16 (by omega) (by omega) | exact ⟨hq, by decide⟩ | decide | (refine And.intro ?_ ?_ <;> exact trivial) | exact ⟨trivial, trivial, trivial⟩) ?_ | refine whole_sub ?_
          first | refine hS _ _ _ ?_ | (intro cap4 hcap4; refine hS _ _ _ ?_)
          clear hS
          refine d_grow0 rfl rfl rfl fun _ hS => ?_
          repeat refine And.intro (by first | omega | exact trivial | rfl | exact inR_i64.mpr ⟨by omega, by omega⟩ | (simp [hs] <;> omega) | exact hd | exact hd.symm | exact (hs _).symm | exact (hkl _ _).symm | exact inR_u16 (by omega) (by omega) | exact ⟨hq, by decide⟩ | decide | (refine And.intro ?_ ?_ <;> exact trivial) | exact ⟨trivial, trivial, trivial⟩) ?_
          first | refine hS _ _ _ ?_ | (refine splice_full (by first | omega | exact trivial | rfl | exact inR_i64.mpr ⟨by omega, by omega⟩ | (simp [hs] <;> omega) | exact hd | exact hd.symm | exact (hs _).symm | exact (hkl _ _).symm | exact inR_u16 (by omega) (by omega) | exact ⟨hq, by decide⟩ | decide | (refine And.intro ?_ ?_ <;> exact trivial) | exact ⟨trivial, trivial, trivial⟩) ?_; refine hS _ _ _ ?_)
          clear hS
          refine d_grow0 rfl rfl rfl fun _ hS => ?_
          repeat refine And.intro (by first | omega | exact trivial | rfl | exact inR_i64.mpr ⟨by omega, by omega⟩ | (simp [hkl] <;> omega) | exact hd | exact hd.symm | exact (hs _).symm | exact (hkl _ _).symm | exact inR_u16 (by omega) (by omega) | exact ⟨hq, by decide⟩ | decide | (refine And.intro ?_ ?_ <;> exact trivial) | exact ⟨trivial, trivial, trivial⟩) ?_
          first | refine hS _ _ _ ?_ | (refine splice_full (by first | omega | exact trivial | rfl | exact inR_i64.mpr ⟨by omega, by omega⟩ | (simp [hkl] <;> omega) | exact hd | exact hd.symm | exact (hs _).symm | exact (hkl _ _).symm | exact inR_u16 (by omega) (by omega) | exact ⟨hq, by decide⟩ | decide | (refine And.intro ?_ ?_ <;> exact trivial) | exact ⟨trivial, trivial, trivial⟩) ?_; refine hS _ _ _ ?_)
          clear hS
          refine d_nil ?_
          refine hK12 _ _ _ ?_
          refine WB_done (by kernel_rfl) ?_
          refine Done_some [3, 4] id () trivial ⟨?_, ?_, (by decide : List.Nodup ([] : List Nat)), ?_, ?_, ⟨Nat.zero_le _, fun i hi => absurd hi (Nat.not_lt_zero i)⟩⟩
          · repeat' (first | exact trivial | refine And.intro ?_ ?_ | rfl | omega | decide | (show (_ : Nat) < _; decide))
            all_goals first | (simp; done) | (simp [hs, hkl] <;> omega) | skip
          · repeat' (first | exact trivial | refine And.intro ?_ ?_ | rfl | omega | decide | (show (_ : Nat) < _; decide))
          · repeat' (first | exact trivial | refine And.intro ?_ ?_ | rfl | omega | decide | (show (_ : Nat) < _; decide))
          · repeat' (first | exact trivial | refine And.intro ?_ ?_ | rfl | omega | decide | (show (_ : Nat) < _; decide))
      · refine WB_force (gh_ok h27) rfl rfl (by decide) rfl fun _ hS => ?_
        repeat refine And.intro (by first | omega | exact trivial | rfl | exact inR_i64.mpr ⟨by omega, by omega⟩ | (simp [hs, hkl, hd] <;> omega) | exact hd | exact hd.symm | exact (hs _).symm | exact (hkl _ _).symm | exact inR_u16 (by omega) (by omega) | exact ⟨hq, by decide⟩ | decide | (refine And.intro ?_ ?_ <;> exact trivial) | exact ⟨trivial, trivial, trivial⟩) ?_
        refine hS _ _ _ ?_
        clear hS
        refine WB_all [4, 5] (by kernel_rfl) (by decide) (List.forall_mem_cons.2 ⟨?_, List.forall_mem_cons.2 ⟨?_, fun _ h => by cases h⟩⟩)
        · refine WB_force (gh_ok h27) rfl rfl (by decide) rfl fun _ hS => ?_
          repeat first | refine And.intro (by first | omega | exact trivial | rfl | exact inR_i64.mpr ⟨by omega, by omega⟩ | (simp [hs, hkl, hd] <;> omega) | exact hd | exact hd.symm | exact (hs _).symm | exact (hkl _ _).symm | exact inR_u16 (by omega) (by omega) | exact ⟨hq, by decide⟩ | decide | (refine And.intro ?_ ?_ <;> exact trivial) | exact ⟨trivial, trivial, trivial⟩) ?_ | refine whole_yes (by first | omega | exact trivial | rfl | exact inR_i64.mpr ⟨by omega, by omega⟩ | (simp [hs, hkl, hd] <;> omega) | exact hd | exact hd.symm | exact (hs _).symm | exact (hkl _ _).symm | exact inR_u16 (by omega) (by omega) | exact ⟨hq, by decide⟩ | decide | (refine And.intro ?_ ?_ <;> exact trivial) | exact ⟨trivial, trivial, trivial⟩) ?_ | refine whole_sub ?_
          first | refine hS _ _ _ ?_ | (intro cap4 hcap4; refine hS _ _ _ ?_)
          clear hS
          refine WB_run (gh_ok h27) (g := 0) (by kernel_rfl) [(5, false), (7, false), (8, false)] (by kernel_rfl) fun _ hK13 => ?_
          refine d_grow rfl rfl (by decide) rfl fun _ hS => ?_
          repeat refine And.intro (by first | omega | exact trivial | rfl | exact inR_i64.mpr ⟨by omega, by omega⟩ | (simp [hs, hkl, hd] <;> omega) | exact hd | exact hd.symm | exact (hs _).symm | exact (hkl _ _).symm | exact inR_u16 (by omega) (by omega) | exact ⟨hq, by decide⟩ | decide | (refine And.intro ?_ ?_ <;> exact trivial) | exact ⟨trivial, trivial, trivial⟩) ?_
          refine hS _ _ _ ?_
          clear hS
          refine d_grow0 rfl rfl rfl fun _ hS => ?_
          repeat refine And.intro (by first | omega | exact trivial | rfl | exact inR_i64.mpr ⟨by omega, by omega⟩ | (simp [hs] <;> omega) | exact hd | exact hd.symm | exact (hs _).symm | exact (hkl _ _).symm | exact inR_u16 (by omega) (by omega) | exact ⟨hq, by decide⟩ | decide | (refine And.intro ?_ ?_ <;> exact trivial) | exact ⟨trivial, trivial, trivial⟩) ?_
          first | refine hS _ _ _ ?_ | (refine splice_full (by first | omega | exact trivial | rfl | exact inR_i64.mpr ⟨by omega, by omega⟩ | (simp [hs] <;> omega) | exact hd | exact hd.symm | exact (hs _).symm | exact (hkl _ _).symm | exact inR_u16 (by omega) (by omega) | exact ⟨hq, by decide⟩ | decide | (refine And.intro ?_ ?_ <;> exact trivial) | exact ⟨trivial, trivial, trivial⟩) ?_; refine hS _ _ _ ?_)
          clear hS
          refine d_grow0 rfl rfl rfl fun _ hS => ?_
          repeat refine And.intro (by first | omega | exact trivial | rfl | exact inR_i64.mpr ⟨by omega, by omega⟩ | (simp [hkl] <;> omega) | exact hd | exact hd.symm | exact (hs _).symm | exact (hkl _ _).symm | exact inR_u16 (by omega) (by omega) | exact ⟨hq, by decide⟩ | decide | (refine And.intro ?_ ?_ <;> exact trivial) | exact ⟨trivial, trivial, trivial⟩) ?_
          first | refine hS _ _ _ ?_ | (refine splice_full (by first | omega | exact trivial | rfl | exact inR_i64.mpr ⟨by omega, by omega⟩ | (simp [hkl] <;> omega) | exact hd | exact hd.symm | exact (hs _).symm | exact (hkl _ _).symm | exact inR_u16 (by omega) (by omega) | exact ⟨hq, by decide⟩ | decide | (refine And.intro ?_ ?_ <;> exact trivial) | exact ⟨trivial, trivial, trivial⟩) ?_; refine hS _ _ _ ?_)
          clear hS
          refine d_nil ?_
          refine hK13 _ _ _ ?_
          refine WB_done (by kernel_rfl) ?_
          refine Done_some [3, 4] id () trivial ⟨?_, ?_, (by decide : List.Nodup ([] : List Nat)), ?_, ?_, ⟨Nat.zero_le _, fun i hi => absurd hi (Nat.not_lt_zero i)⟩⟩
          · repeat' (first | exact trivial | refine And.intro ?_ ?_ | rfl | omega | decide | (show (_ : Nat) < _; decide))
            all_goals first | (simp; done) | (simp [hs, hkl] <;> omega) | skip
          · repeat' (first | exact trivial | refine And.intro ?_ ?_ | rfl | omega | decide | (show (_ : Nat) < _; decide))
          · repeat' (first | exact trivial | refine And.intro ?_ ?_ | rfl | omega | decide | (show (_ : Nat) < _; decide))
          · repeat' (first | exact trivial | refine And.intro ?_ ?_ | rfl | omega | decide | (show (_ : Nat) < _; decide))
        · refine WB_force (gh_ok h27) rfl rfl (by decide) rfl fun _ hS => ?_
          repeat refine And.intro (by first | omega | exact trivial | rfl | exact inR_i64.mpr ⟨by omega, by omega⟩ | (simp [hs, hkl, hd] <;> omega) | exact hd | exact hd.symm | exact (hs _).symm | exact (hkl _ _).symm | exact inR_u16 (by omega) (by omega) | exact ⟨hq, by decide⟩ | decide | (refine And.intro ?_ ?_ <;> exact trivial) | exact ⟨trivial, trivial, trivial⟩) ?_
          refine hS _ _ _ ?_
          clear hS
          refine WB_run (gh_ok h27) (g := 0) (by kernel_rfl) [(4, false), (7, false), (8, false)] (by kernel_rfl) fun _ hK14 => ?_
          refine d_grow rfl rfl (by decide) rfl fun _ hS => ?_
          repeat first | refine And.intro (by first | omega | exact trivial | rfl | exact inR_i64.mpr ⟨by omega, by omega⟩ | (simp [hs, hkl, hd] <;> omega) | exact hd | exact hd.symm | exact (hs _).symm | exact (hkl _ _).symm | exact inR_u16 (by omega) (by omega) | exact ⟨hq, by decide⟩ | decide | (refine And.intro ?_ ?_ <;> exact trivial) | exact ⟨trivial, trivial, trivial⟩) ?_ | refine whole_yes (by first | omega | exact trivial | rfl | exact inR_i64.mpr ⟨by omega, by omega⟩ | (simp [hs, hkl, hd] <;> omega) | exact hd | exact hd.symm | exact (hs _).symm | exact (hkl _ _).symm | exact inR_u16 (by omega) (by omega) | exact ⟨hq, by decide⟩ | decide | (refine And.intro ?_ ?_ <;> exact trivial) | exact ⟨trivial, trivial, trivial⟩) ?_ | refine whole_sub ?_
          first | refine hS _ _ _ ?_ | (intro cap4 hcap4; refine hS _ _ _ ?_)
          clear hS
          refine d_grow0 rfl rfl rfl fun _ hS => ?_
          repeat refine And.intro (by first | omega | exact trivial | rfl | exact inR_i64.mpr ⟨by omega, by omega⟩ | (simp [hs] <;> omega) | exact hd | exact hd.symm | exact (hs _).symm | exact (hkl _ _).symm | exact inR_u16 (by omega) (by omega) | exact ⟨hq, by decide⟩ | decide | (refine And.intro ?_ ?_ <;> exact trivial) | exact ⟨trivial, trivial, trivial⟩) ?_
          first | refine hS _ _ _ ?_ | (refine splice_full (by first | omega | exact trivial | rfl | exact inR_i64.mpr ⟨by omega, by omega⟩ | (simp [hs] <;> omega) | exact hd | exact hd.symm | exact (hs _).symm | exact (hkl _ _).symm | exact inR_u16 (by omega) (by omega) | exact ⟨hq, by decide⟩ | decide | (refine And.intro ?_ ?_ <;> exact trivial) | exact ⟨trivial, trivial, trivial⟩) ?_; refine hS _ _ _ ?_)
          clear hS
          refine d_grow0 rfl rfl rfl fun _ hS => ?_
          repeat refine And.intro (by first | omega | exact trivial | rfl | exact inR_i64.mpr ⟨by omega, by omega⟩ | (simp [hkl] <;> omega) | exact hd | exact hd.symm | exact (hs _).symm | exact (hkl _ _).symm | exact inR_u16 (by omega) (by omega) | exact ⟨hq, by decide⟩ | decide | (refine And.intro ?_ ?_ <;> exact trivial) | exact ⟨trivial, trivial, trivial⟩) ?_
          first | refine hS _ _ _ ?_ | (refine splice_full (by first | omega | exact trivial | rfl | exact inR_i64.mpr ⟨by omega, by omega⟩ | (simp [hkl] <;> omega) | exact hd | exact hd.symm | exact (hs _).symm | exact (hkl _ _).symm | exact inR_u16 (by omega) (by omega) | exact ⟨hq, by decide⟩ | decide | (refine And.intro ?_ ?_ <;> exact trivial) | exact ⟨trivial, trivial, trivial⟩) ?_; refine hS _ _ _ ?_)
          clear hS
          refine d_nil ?_
          refine hK14 _ _ _ ?_
          refine WB_done (by kernel_rfl) ?_
          refine Done_some [3, 4] id () trivial ⟨?_, ?_, (by decide : List.Nodup ([] : List Nat)), ?_, ?_, ⟨Nat.zero_le _, fun i hi => absurd hi (Nat.not_lt_zero i)⟩⟩
          · repeat' (first | exact trivial | refine And.intro ?_ ?_ | rfl | omega | decide | (show (_ : Nat) < _; decide))
            all_goals first | (simp; done) | (simp [hs, hkl] <;> omega) | skip
          · repeat' (first | exact trivial | refine And.intro ?_ ?_ | rfl | omega | decide | (show (_ : Nat) < _; decide))
          · repeat' (first | exact trivial | refine And.intro ?_ ?_ | rfl | omega | decide | (show (_ : Nat) < _; decide))
          · repeat' (first | exact trivial | refine And.intro ?_ ?_ | rfl | omega | decide | (show (_ : Nat) < _; decide))
    · refine WB_force (gh_ok h27) rfl rfl (by decide) rfl fun _ hS => ?_
      repeat refine And.intro (by first | omega | exact trivial | rfl | exact inR_i64.mpr ⟨by omega, by omega⟩ | (simp [hs, hkl, hd] <;> omega) | exact hd | exact hd.symm | exact (hs _).symm | exact (hkl _ _).symm | exact inR_u16 (by omega) (by omega) | exact ⟨hq, by decide⟩ | decide | (refine And.intro ?_ ?_ <;> exact trivial) | exact ⟨trivial, trivial, trivial⟩) ?_
      refine hS _ _ _ ?_
      clear hS
      refine WB_all [1, 6] (by kernel_rfl) (by decide) (List.forall_mem_cons.2 ⟨?_, List.forall_mem_cons.2 ⟨?_, fun _ h => by cases h⟩⟩)
      · refine WB_force (gh_ok h27) rfl rfl (by decide) rfl fun _ hS => ?_
        repeat first | refine And.intro (by first | omega | exact trivial | rfl | exact inR_i64.mpr ⟨by omega, by omega⟩ | (simp [hs, hkl, hd] <;> omega) | exact hd | exact hd.symm | exact (hs _).symm | exact (hkl _ _).symm | exact inR_u16 (by omega) (by omega) | exact ⟨hq, by decide⟩ | decide | (refine And.intro ?_ ?_ <;> exact trivial) | exact ⟨trivial, trivial, trivial⟩) ?_ | refine whole_yes (by first | omega | exact trivial | rfl | exact inR_i64.mpr ⟨by omega, by omega⟩ | (simp [hs, hkl, hd] <;> omega) | exact hd | exact hd.symm | exact (hs _).symm | exact (hkl _ _).symm | exact inR_u16 (by omega) (by omega) | exact ⟨hq, by decide⟩ | decide | (refine And.intro ?_ ?_ <;> exact trivial) | exact ⟨trivial, trivial, trivial⟩) ?_ | refine whole_sub ?_
        first | refine hS _ _ _ ?_ | (intro cap1 hcap1; refine hS _ _ _ ?_)
        clear hS
        refine WB_all [4, 6] (by kernel_rfl) (by decide) (List.forall_mem_cons.2 ⟨?_, List.forall_mem_cons.2 ⟨?_, fun _ h => by cases h⟩⟩)
        · refine WB_force (gh_ok h27) rfl rfl (by decide) rfl fun _ hS => ?_
          repeat first | refine And.intro (by first | omega | exact trivial | rfl | exact inR_i64.mpr ⟨by omega, by omega⟩ | (simp [hs, hkl, hd] <;> omega) | exact hd | exact hd.symm | exact (hs _).symm | exact (hkl _ _).symm | exact inR_u16 (by omega) (by omega) | exact ⟨hq, by decide⟩ | decide | (refine And.intro ?_ ?_ <;> exact trivial) | exact ⟨trivial, trivial, trivial⟩) ?_ | refine whole_yes (by first | omega | exact trivial | rfl | exact inR_i64.mpr ⟨by omega, by omega⟩ | (simp [hs, hkl, hd] <;> omega) | exact hd | exact hd.symm | exact (hs _).symm | exact (hkl _ _).symm | exact inR_u16 (by omega) (by omega) | exact ⟨hq, by decide⟩ | decide | (refine And.intro ?_ ?_ <;> exact trivial) | exact ⟨trivial, trivial, trivial⟩) ?_ | refine whole_sub ?_
          first | refine hS _ _ _ ?_ | (intro cap4 hcap4; refine hS _ _ _ ?_)
          clear hS
          refine WB_run (gh_ok h27) (g := 0) (by kernel_rfl) [(6, false), (7, false), (8, false)] (by kernel_rfl) fun _ hK15 => ?_
          refine d_grow rfl rfl (by decide) rfl fun _ hS => ?_
          repeat refine And.intro (by first | omega | exact trivial | rfl | exact inR_i64.mpr ⟨by omega, by omega⟩ | (simp [hs, hkl, hd] <;> omega) | exact hd | exact hd.symm | exact (hs _).symm | exact (hkl _ _).symm | exact inR_u16 (by omega) (by omega) | exact ⟨hq, by decide⟩ | decide | (refine And.intro ?_ ?_ <;> exact trivial) | exact ⟨trivial, trivial, trivial⟩) ?_
          refine hS _ _ _ ?_
          clear hS
          refine d_grow0 rfl rfl rfl fun _ hS => ?_
          repeat refine And.intro (by first | omega | exact trivial | rfl | exact inR_i64.mpr ⟨by omega, by omega⟩ | (simp [hs] <;> omega) | exact hd | exact hd.symm | exact (hs _).symm | exact (hkl _ _).symm | exact inR_u16 (by omega) (by omega) | exact ⟨hq, by decide⟩ | decide | (refine And.intro ?_ ?_ <;> exact trivial) | exact ⟨trivial, trivial, trivial⟩) ?_
          first | refine hS _ _ _ ?_ | (refine splice_full (by first | omega | exact trivial | rfl | exact inR_i64.mpr ⟨by omega, by omega⟩ | (simp [hs] <;> omega) | exact hd | exact hd.symm | exact (hs _).symm | exact (hkl _ _).symm | exact inR_u16 (by omega) (by omega) | exact ⟨hq, by decide⟩ | decide | (refine And.intro ?_ ?_ <;> exact trivial) | exact ⟨trivial, trivial, trivial⟩) ?_; refine hS _ _ _ ?_)
          clear hS
          refine d_grow0 rfl rfl rfl fun _ hS => ?_
          repeat refine And.intro (by first | omega | exact trivial | rfl | exact inR_i64.mpr ⟨by omega, by omega⟩ | (simp [hkl] <;> omega) | exact hd | exact hd.symm | exact (hs _).symm | exact (hkl _ _).symm | exact inR_u16 (by omega) (by omega) | exact ⟨hq, by decide⟩ | decide | (refine And.intro ?_ ?_ <;> exact trivial) | exact ⟨trivial, trivial, trivial⟩) ?_
          first | refine hS _ _ _ ?_ | (refine splice_full (by first | omega | exact trivial | rfl | exact inR_i64.mpr ⟨by omega, by omega⟩ | (simp [hkl] <;> omega) | exact hd | exact hd.symm | exact (hs _).symm | exact (hkl _ _).symm | exact inR_u16 (by omega) (by omega) | exact ⟨hq, by decide⟩ | decide | (refine And.intro ?_ ?_ <;> exact trivial) | exact ⟨trivial, trivial, trivial⟩) ?_; refine hS _ _ _ ?_)
          clear hS
          refine d_nil ?_
          refine hK15 _ _ _ ?_
          refine WB_done (by kernel_rfl) ?_
          refine Done_some [3, 4] id () trivial ⟨?_, ?_, (by decide : List.Nodup ([] : List Nat)), ?_, ?_, ⟨Nat.zero_le _, fun i hi => absurd hi (Nat.not_lt_zero i)⟩⟩
          · repeat' (first | exact trivial | refine And.intro ?_ ?_ | rfl | omega | decide | (show (_ : Nat) < _; decide))
            all_goals first | (simp; done) | (simp [hs, hkl] <;> omega) | skip
          · repeat' (first | exact trivial | refine And.intro ?_ ?_ | rfl | omega | decide | (show (_ : Nat) < _; decide))
          · repeat' (first | exact trivial | refine And.intro ?_ ?_ | rfl | omega | decide | (show (_ : Nat) < _; decide))
          · repeat' (first | exact trivial | refine And.intro ?_ ?_ | rfl | omega | decide | (show (_ : Nat) < _; decide))
        · refine WB_force (gh_ok h27) rfl rfl (by decide) rfl fun _ hS => ?_
          repeat refine And.intro (by first | omega | exact trivial | rfl | exact inR_i64.mpr ⟨by omega, by omega⟩ | (simp [hs, hkl, hd] <;> omega) | exact hd | exact hd.symm | exact (hs _).symm | exact (hkl _ _).symm | exact inR_u16 (by omega) (by omega) | exact ⟨hq, by decide⟩ | decide | (refine And.intro ?_ ?_ <;> exact trivial) | exact ⟨trivial, trivial, trivial⟩) ?_
          refine hS _ _ _ ?_
          clear hS
          refine WB_run (gh_ok h27) (g := 0) (by kernel_rfl) [(4, false), (7, false), (8, false)] (by kernel_rfl) fun _ hK16 => ?_
          refine d_grow rfl rfl (by decide) rfl fun _ hS => ?_
          repeat first | refine And.intro (by first | omega | exact trivial | rfl | exact inR_i64.mpr ⟨by omega, by omega⟩ | (simp [hs, hkl, hd] <;> omega) | exact hd | exact hd.symm | exact (hs _).symm | exact (hkl _ _).symm | exact inR_u16 (by omega) (by omega) | exact ⟨hq, by decide⟩ | decide | (refine And.intro ?_ ?_ <;> exact trivial) | exact ⟨trivial, trivial, trivial⟩) ?_ | refine whole_yes (by first | omega | exact trivial | rfl | exact inR_i64.mpr ⟨by omega, by omega⟩ | (simp [hs, hkl, hd] <;> omega) | exact hd | exact hd.symm | exact (hs _).symm | exact (hkl _ _).symm | exact inR_u16 (by omega) (by omega) | exact ⟨hq, by decide⟩ | decide | (refine And.intro ?_ ?_ <;> exact trivial) | exact ⟨trivial, trivial, trivial⟩) ?_ | refine whole_sub ?_
          first | refine hS _ _ _ ?_ | (intro cap4 hcap4; refine hS _ _ _ ?_)
          clear hS
          refine d_grow0 rfl rfl rfl fun _ hS => ?_
          repeat refine And.intro (by first | omega | exact trivial | rfl | exact inR_i64.mpr ⟨by omega, by omega⟩ | (simp [hs] <;> omega) | exact hd | exact hd.symm | exact (hs _).symm | exact (hkl _ _).symm | exact inR_u16 (by omega) (by omega) | exact ⟨hq, by decide⟩ | decide | (refine And.intro ?_ ?_ <;> exact trivial) | exact ⟨trivial, trivial, trivial⟩) ?_
          first | refine hS _ _ _ ?_ | (refine splice_full (by first | omega | exact trivial | rfl | exact inR_i64.mpr ⟨by omega, by omega⟩ | (simp [hs] <;> omega) | exact hd | exact hd.symm | exact (hs _).symm | exact (hkl _ _).symm | exact inR_u16 (by omega) (by omega) | exact ⟨hq, by decide⟩ | decide | (refine And.intro ?_ ?_ <;> exact trivial) | exact ⟨trivial, trivial, trivial⟩) ?_; refine hS _ _ _ ?_)
          clear hS
          refine d_grow0 rfl rfl rfl fun _ hS => ?_
          repeat refine And.intro (by first | omega | exact trivial | rfl | exact inR_i64.mpr ⟨by omega, by omega⟩ | (simp [hkl] <;> omega) | exact hd | exact hd.symm | exact (hs _).symm | exact (hkl _ _).symm | exact inR_u16 (by omega) (by omega) | exact ⟨hq, by decide⟩ | decide | (refine And.intro ?_ ?_ <;> exact trivial) | exact ⟨trivial, trivial, trivial⟩) ?_
          first | refine hS _ _ _ ?_ | (refine splice_full (by first | omega | exact trivial | rfl | exact inR_i64.mpr ⟨by omega, by omega⟩ | (simp [hkl] <;> omega) | exact hd | exact hd.symm | exact (hs _).symm | exact (hkl _ _).symm | exact inR_u16 (by omega) (by omega) | exact ⟨hq, by decide⟩ | decide | (refine And.intro ?_ ?_ <;> exact trivial) | exact ⟨trivial, trivial, trivial⟩) ?_; refine hS _ _ _ ?_)
          clear hS
          refine d_nil ?_
          refine hK16 _ _ _ ?_
          refine WB_done (by kernel_rfl) ?_
          refine Done_some [3, 4] id () trivial ⟨?_, ?_, (by decide : List.Nodup ([] : List Nat)), ?_, ?_, ⟨Nat.zero_le _, fun i hi => absurd hi (Nat.not_lt_zero i)⟩⟩
          · repeat' (first | exact trivial | refine And.intro ?_ ?_ | rfl | omega | decide | (show (_ : Nat) < _; decide))
            all_goals first | (simp; done) | (simp [hs, hkl] <;> omega) | skip
          · repeat' (first | exact trivial | refine And.intro ?_ ?_ | rfl | omega | decide | (show (_ : Nat) < _; decide))
          · repeat' (first | exact trivial | refine And.intro ?_ ?_ | rfl | omega | decide | (show (_ : Nat) < _; decide))
          · repeat' (first | exact trivial | refine And.intro ?_ ?_ | rfl | omega | decide | (show (_ : Nat) < _; decide))
      · refine WB_force (gh_ok h27) rfl rfl (by decide) rfl fun _ hS => ?_
        repeat refine And.intro (by first | omega | exact trivial | rfl | exact inR_i64.mpr ⟨by omega, by omega⟩ | (simp [hs, hkl, hd] <;> omega) | exact hd | exact hd.symm | exact (hs _).symm | exact (hkl _ _).symm | exact inR_u16 (by omega) (by omega) | exact ⟨hq, by decide⟩ | decide | (refine And.intro ?_ ?_ <;> exact trivial) | exact ⟨trivial, trivial, trivial⟩) ?_
        refine hS _ _ _ ?_
        clear hS
        refine WB_run (gh_ok h27) (g := 0) (by kernel_rfl) [(1, false), (4, false), (7, false), (8, false)] (by kernel_rfl) fun _ hK17 => ?_
        refine d_grow rfl rfl (by decide) rfl fun _ hS => ?_
        repeat first | refine And.intro (by first | omega | exact trivial | rfl | exact inR_i64.mpr ⟨by omega, by omega⟩ | (simp [hs, hkl, hd] <;> omega) | exact hd | exact hd.symm | exact (hs _).symm | exact (hkl _ _).symm | exact inR_u16 (by omega) (by omega) | exact ⟨hq, by decide⟩ | decide | (refine And.intro ?_ ?_ <;> exact trivial) | exact ⟨trivial, trivial, trivial⟩) ?_ | refine whole_yes (by first | omega | exact trivial | rfl | exact inR_i64.mpr ⟨by omega, by omega⟩ | (simp [hs, hkl, hd] <;> omega) | exact hd | exact hd.symm | exact (hs _).symm | exact (hkl _ _).symm | exact inR_u16 (by omega) (by omega) | exact ⟨hq, by decide⟩ | decide | (refine And.intro ?_ ?_ <;> exact trivial) | exact ⟨trivial, trivial, trivial⟩) ?_ | refine whole_sub ?_
        first | refine hS _ _ _ ?_ | (intro cap1 hcap1; refine hS _ _ _ ?_)
        clear hS
        refine d_grow rfl rfl (by decide) rfl fun _ hS => ?_
        repeat first | refine And.intro (by first | omega | exact trivial | rfl | exact inR_i64.mpr ⟨by omega, by omega⟩ | (simp [hs, hkl, hd] <;> omega) | exact hd | exact hd.symm | exact (hs _).symm | exact (hkl _ _).symm | exact inR_u16 (by omega) (by omega) | exact ⟨hq, by decide⟩ | decide | (refine And.intro ?_ ?_ <;> exact trivial) | exact ⟨trivial, trivial, trivial⟩) ?_ | refine whole_yes (by first | omega | exact trivial | rfl | exact inR_i64.mpr ⟨by omega, by omega⟩ | (simp [hs, hkl, hd] <;> omega) | exact hd | exact hd.symm | exact (hs _).symm | exact (hkl _ _).symm | exact inR_u16 (by omega) (by omega) | exact ⟨hq, by decide⟩ | decide | (refine And.intro ?_ ?_ <;> exact trivial) | exact ⟨trivial, trivial, trivial⟩) ?_ | refine whole_sub ?_
        first | refine hS _ _ _ ?_ | (intro cap4 hcap4; refine hS _ _ _ ?_)
        clear hS
        refine d_grow0 rfl rfl rfl fun _ hS => ?_
        repeat refine And.intro (by first | omega | exact trivial | rfl | exact inR_i64.mpr ⟨by omega, by omega⟩ | (simp [hs] <;> omega) | exact hd | exact hd.symm | exact (hs _).symm | exact (hkl _ _).symm | exact inR_u16 (by omega) (by omega) | exact ⟨hq, by decide⟩ | decide | (refine And.intro ?_ ?_ <;> exact trivial) | exact ⟨trivial, trivial, trivial⟩) ?_
        first | refine hS _ _ _ ?_ | (refine splice_full (by first | omega | exact trivial | rfl | exact inR_i64.mpr ⟨by omega, by omega⟩ | (simp [hs] <;> omega) | exact hd | exact hd.symm | exact (hs _).symm | exact (hkl _ _).symm | exact inR_u16 (by omega) (by omega) | exact ⟨hq, by decide⟩ | decide | (refine And.intro ?_ ?_ <;> exact trivial) | exact ⟨trivial, trivial, trivial⟩) ?_; refine hS _ _ _ ?_)
        clear hS
        refine d_grow0 rfl rfl rfl fun _ hS => ?_
        repeat refine And.intro (by first | omega | exact trivial | rfl | exact inR_i64.mpr ⟨by omega, by omega⟩ | (simp [hkl] <;> omega) | exact hd | exact hd.symm | exact (hs _).symm | exact (hkl _ _).symm | exact inR_u16 (by omega) (by omega) | exact ⟨hq, by decide⟩ | decide | (refine And.intro ?_ ?_ <;> exact trivial) | exact ⟨trivial, trivial, trivial⟩) ?_
        first | refine hS _ _ _ ?_ | (refine splice_full (by first | omega | exact trivial | rfl | exact inR_i64.mpr ⟨by omega, by omega⟩ | (simp [hkl] <;> omega) | exact hd | exact hd.symm | exact (hs _).symm | exact (hkl _ _).symm | exact inR_u16 (by omega) (by omega) | exact ⟨hq, by decide⟩ | decide | (refine And.intro ?_ ?_ <;> exact trivial) | exact ⟨trivial, trivial, trivial⟩) ?_; refine hS _ _ _ ?_)
        clear hS
        refine d_nil ?_
        refine hK17 _ _ _ ?_
        refine WB_done (by kernel_rfl) ?_
        refine Done_some [3, 4] id () trivial ⟨?_, ?_, (by decide : List.Nodup ([] : List Nat)), ?_, ?_, ⟨Nat.zero_le _, fun i hi => absurd hi (Nat.not_lt_zero i)⟩⟩
        · repeat' (first | exact trivial | refine And.intro ?_ ?_ | rfl | omega | decide | (show (_ : Nat) < _; decide))
          all_goals first | (simp; done) | (simp [hs, hkl] <;> omega) | skip
        · repeat' (first | exact trivial | refine And.intro ?_ ?_ | rfl | omega | decide | (show (_ : Nat) < _; decide))
        · repeat' (first | exact trivial | refine And.intro ?_ ?_ | rfl | omega | decide | (show (_ : Nat) < _; decide))
        · repeat' (first | exact trivial | refine And.intro ?_ ?_ | rfl | omega | decide | (show (_ : Nat) < _; decide))
    · refine WB_force (gh_ok h27) rfl rfl (by decide) rfl fun _ hS => ?_
      repeat refine And.intro (by first | omega | exact trivial | rfl | exact inR_i64.mpr ⟨by omega, by omega⟩ | (simp [hs, hkl, hd] <;> omega) | exact hd | exact hd.symm | exact (hs _).symm | exact (hkl _ _).symm | exact inR_u16 (by omega) (by omega) | exact ⟨hq, by decide⟩ | decide | (refine And.intro ?_ ?_ <;> exact trivial) | exact ⟨trivial, trivial, trivial⟩) ?_
      refine hS _ _ _ ?_
      clear hS
      refine WB_all [1, 5] (by kernel_rfl) (by decide) (List.forall_mem_cons.2 ⟨?_, List.forall_mem_cons.2 ⟨?_, fun _ h => by cases h⟩⟩)
      · refine WB_force (gh_ok h27) rfl rfl (by decide) rfl fun _ hS => ?_
        repeat first | refine And.intro (by first | omega | exact trivial | rfl | exact inR_i64.mpr ⟨by omega, by omega⟩ | (simp [hs, hkl, hd] <;> omega) | exact hd | exact hd.symm | exact (hs _).symm | exact (hkl _ _).symm | exact inR_u16 (by omega) (by omega) | exact ⟨hq, by decide⟩ | decide | (refine And.intro ?_ ?_ <;> exact trivial) | exact ⟨trivial, trivial, trivial⟩) ?_ | refine whole_yes (by first | omega | exact trivial | rfl | exact inR_i64.mpr ⟨by omega, by omega⟩ | (simp [hs, hkl, hd] <;> omega) | exact hd | exact hd.symm | exact (hs _).symm | exact (hkl _ _).symm | exact inR_u16 (by omega) (by omega) | exact ⟨hq, by decide⟩ | decide | (refine And.intro ?_ ?_ <;> exact trivial) | exact ⟨trivial, trivial, trivial⟩) ?_ | refine whole_sub ?_
        first | refine hS _ _ _ ?_ | (intro cap1 hcap1; refine hS _ _ _ ?_)
        clear hS
        refine WB_all [4, 5] (by kernel_rfl) (by decide) (List.forall_mem_cons.2 ⟨?_, List.forall_mem_cons.2 ⟨?_, fun _ h => by cases h⟩⟩)
        · refine WB_force (gh_ok h27) rfl rfl (by decide) rfl fun _ hS => ?_
          repeat first | refine And.intro (by first | omega | exact trivial | rfl | exact inR_i64.mpr ⟨by omega, by omega⟩ | (simp [hs, hkl, hd] <;> omega) | exact hd | exact hd.symm | exact (hs _).symm | exact (hkl _ _).symm | exact inR_u16 (by omega) (by omega) | exact ⟨hq, by decide⟩ | decide | (refine And.intro ?_ ?_ <;> exact trivial) | exact ⟨trivial, trivial, trivial⟩) ?_ | refine whole_yes (by first | omega | exact trivial | rfl | exact inR_i64.mpr ⟨by omega, by omega⟩ | (simp [hs, hkl, hd] <;> omega) | exact hd | exact hd.symm | exact (hs _).symm | exact (hkl _ _).symm | exact inR_u16 (by omega) (by omega) | exact ⟨hq, by decide⟩ | decide | (refine And.intro ?_ ?_ <;> exact trivial) | exact ⟨trivial, trivial, trivial⟩) ?_ | refine whole_sub ?_
          first | refine hS _ _ _ ?_ | (intro cap4 hcap4; refine hS _ _ _ ?_)
          clear hS
          refine WB_run (gh_ok h27) (g := 0) (by kernel_rfl) [(5, false), (7, false), (8, false)] (by kernel_rfl) fun _ hK18 => ?_
          refine d_grow rfl rfl (by decide) rfl fun _ hS => ?_
          repeat refine And.intro (by first | omega | exact trivial | rfl | exact inR_i64.mpr ⟨by omega, by omega⟩ | (simp [hs, hkl, hd] <;> omega) | exact hd | exact hd.symm | exact (hs _).symm | exact (hkl _ _).symm | exact inR_u16 (by omega) (by omega) | exact ⟨hq, by decide⟩ | decide | (refine And.intro ?_ ?_ <;> exact trivial) | exact ⟨trivial, trivial, trivial⟩) ?_
          refine hS _ _ _ ?_
          clear hS
          refine d_grow0 rfl rfl rfl fun _ hS => ?_
          repeat refine And.intro (by first | omega | exact trivial | rfl | exact inR_i64.mpr ⟨by omega, by omega⟩ | (simp [hs] <;> omega) | exact hd | exact hd.symm | exact (hs _).symm | exact (hkl _ _).symm | exact inR_u16 (by omega) (by omega) | exact ⟨hq, by decide⟩ | decide | (refine And.intro ?_ ?_ <;> exact trivial) | exact ⟨trivial, trivial, trivial⟩) ?_
          first | refine hS _ _ _ ?_ | (refine splice_full (by first | omega | exact trivial | rfl | exact inR_i64.mpr ⟨by omega, by omega⟩ | (simp [hs] <;> omega) | exact hd | exact hd.symm | exact (hs _).symm | exact (hkl _ _).symm | exact inR_u16 (by omega) (by omega) | exact ⟨hq, by decide⟩ | decide | (refine And.intro ?_ ?_ <;> exact trivial) | exact ⟨trivial, trivial, trivial⟩) ?_; refine hS _ _ _ ?_)
          clear hS
          refine d_grow0 rfl rfl rfl fun _ hS => ?_
          repeat refine And.intro (by first | omega | exact trivial | rfl | exact inR_i64.mpr ⟨by omega, by omega⟩ | (simp [hkl] <;> omega) | exact hd | exact hd.symm | exact (hs _).symm | exact (hkl _ _).symm | exact inR_u16 (by omega) (by omega) | exact ⟨hq, by decide⟩ | decide | (refine And.intro ?_ ?_ <;> exact trivial) | exact ⟨trivial, trivial, trivial⟩) ?_
          first | refine hS _ _ _ ?_ | (refine splice_full (by first | omega | exact trivial | rfl | exact inR_i64.mpr ⟨by omega, by omega⟩ | (simp [hkl] <;> omega) | exact hd | exact hd.symm | exact (hs _).symm | exact (hkl _ _).symm | exact inR_u16 (by omega) (by omega) | exact ⟨hq, by decide⟩ | decide | (refine And.intro ?_ ?_ <;> exact trivial) | exact ⟨trivial, trivial, trivial⟩) ?_; refine hS _ _ _ ?_)
          clear hS
          refine d_nil ?_
          refine hK18 _ _ _ ?_
          refine WB_done (by kernel_rfl) ?_
          refine Done_some [3, 4] id () trivial ⟨?_, ?_, (by decide : List.Nodup ([] : List Nat)), ?_, ?_, ⟨Nat.zero_le _, fun i hi => absurd hi (Nat.not_lt_zero i)⟩⟩
          · repeat' (first | exact trivial | refine And.intro ?_ ?_ | rfl | omega | decide | (show (_ : Nat) < _; decide))
            all_goals first | (simp; done) | (simp [hs, hkl] <;> omega) | skip
          · repeat' (first | exact trivial | refine And.intro ?_ ?_ | rfl | omega | decide | (show (_ : Nat) < _; decide))
          · repeat' (first | exact trivial | refine And.intro ?_ ?_ | rfl | omega | decide | (show (_ : Nat) < _; decide))
          · repeat' (first | exact trivial | refine And.intro ?_ ?_ | rfl | omega | decide | (show (_ : Nat) < _; decide))
        · refine WB_force (gh_ok h27) rfl rfl (by decide) rfl fun _ hS => ?_
          repeat refine And.intro (by first | omega | exact trivial | rfl | exact inR_i64.mpr ⟨by omega, by omega⟩ | (simp [hs, hkl, hd] <;> omega) | exact hd | exact hd.symm | exact (hs _).symm | exact (hkl _ _).symm | exact inR_u16 (by omega) (by omega) | exact ⟨hq, by decide⟩ | decide | (refine And.intro ?_ ?_ <;> exact trivial) | exact ⟨trivial, trivial, trivial⟩) ?_
          refine hS _ _ _ ?_
          clear hS
          refine WB_run (gh_ok h27) (g := 0) (by kernel_rfl) [(4, false), (7, false), (8, false)] (by kernel_rfl) fun _ hK19 => ?_
          refine d_grow rfl rfl (by decide) rfl fun _ hS => ?_
          repeat first | refine And.intro (by first | omega | exact trivial | rfl | exact inR_i64.mpr ⟨by omega, by omega⟩ | (simp [hs, hkl, hd] <;> omega) | exact hd | exact hd.symm | exact (hs _).symm | exact (hkl _ _).symm | exact inR_u16 (by omega) (by omega) | exact ⟨hq, by decide⟩ | decide | (refine And.intro ?_ ?_ <;> exact trivial) | exact ⟨trivial, trivial, trivial⟩) ?_ | refine whole_yes (by first | omega | exact trivial | rfl | exact inR_i64.mpr ⟨by omega, by omega⟩ | (simp [hs, hkl, hd] <;> omega) | exact hd | exact hd.symm | exact (hs _).symm | exact (hkl _ _).symm | exact inR_u16 (by omega) (by omega) | exact ⟨hq, by decide⟩ | decide | (refine And.intro ?_ ?_ <;> exact trivial) | exact ⟨trivial, trivial, trivial⟩) ?_ | refine whole_sub ?_
          first | refine hS _ _ _ ?_ | (intro cap4 hcap4; refine hS _ _ _ ?_)
          clear hS
          refine d_grow0 rfl rfl rfl fun _ hS => ?_
          repeat refine And.intro (by first | omega | exact trivial | rfl | exact inR_i64.mpr ⟨by omega, by omega⟩ | (simp [hs] <;> omega) | exact hd | exact hd.symm | exact (hs _).symm | exact (hkl _ _).symm | exact inR_u16 (by omega) (by omega) | exact ⟨hq, by decide⟩ | decide | (refine And.intro ?_ ?_ <;> exact trivial) | exact ⟨trivial, trivial, trivial⟩) ?_
          first | refine hS _ _ _ ?_ | (refine splice_full (by first | omega | exact trivial | rfl | exact inR_i64.mpr ⟨by omega, by omega⟩ | (simp [hs] <;> omega) | exact hd | exact hd.symm | exact (hs _).symm | exact (hkl _ _).symm | exact inR_u16 (by omega) (by omega) | exact ⟨hq, by decide⟩ | decide | (refine And.intro ?_ ?_ <;> exact trivial) | exact ⟨trivial, trivial, trivial⟩) ?_; refine hS _ _ _ ?_)
          clear hS
          refine d_grow0 rfl rfl rfl fun _ hS => ?_
          repeat refine And.intro (by first | omega | exact trivial | rfl | exact inR_i64.mpr ⟨by omega, by omega⟩ | (simp [hkl] <;> omega) | exact hd | exact hd.symm | exact (hs _).symm | exact (hkl _ _).symm | exact inR_u16 (by omega) (by omega) | exact ⟨hq, by decide⟩ | decide | (refine And.intro ?_ ?_ <;> exact trivial) | exact ⟨trivial, trivial, trivial⟩) ?_
          first | refine hS _ _ _ ?_ | (refine splice_full (by first | omega | exact trivial | rfl | exact inR_i64.mpr ⟨by omega, by omega⟩ | (simp [hkl] <;> omega) | exact hd | exact hd.symm | exact (hs _).symm | exact (hkl _ _).symm | exact inR_u16 (by omega) (by omega) | exact ⟨hq, by decide⟩ | decide | (refine And.intro ?_ ?_ <;> exact trivial) | exact ⟨trivial, trivial, trivial⟩) ?_; refine hS _ _ _ ?_)
          clear hS
          refine d_nil ?_
          refine hK19 _ _ _ ?_
          refine WB_done (by kernel_rfl) ?_
          refine Done_some [3, 4] id () trivial ⟨?_, ?_, (by decide : List.Nodup ([] : List Nat)), ?_, ?_, ⟨Nat.zero_le _, fun i hi => absurd hi (Nat.not_lt_zero i)⟩⟩
          · repeat' (first | exact trivial | refine And.intro ?_ ?_ | rfl | omega | decide | (show (_ : Nat) < _; decide))
            all_goals first | (simp; done) | (simp [hs, hkl] <;> omega) | skip
          · repeat' (first | exact trivial | refine And.intro ?_ ?_ | rfl | omega | decide | (show (_ : Nat) < _; decide))
          · repeat' (first | exact trivial | refine And.intro ?_ ?_ | rfl | omega | decide | (show (_ : Nat) < _; decide))
          · repeat' (first | exact trivial | refine And.intro ?_ ?_ | rfl | omega | decide | (show (_ : Nat) < _; decide))
      · refine WB_force (gh_ok h27) rfl rfl (by decide) rfl fun _ hS => ?_
        repeat refine And.intro (by first | omega | exact trivial | rfl | exact inR_i64.mpr ⟨by omega, by omega⟩ | (simp [hs, hkl, hd] <;> omega) | exact hd | exact hd.symm | exact (hs _).symm | exact (hkl _ _).symm | exact inR_u16 (by omega) (by omega) | exact ⟨hq, by decide⟩ | decide | (refine And.intro ?_ ?_ <;> exact trivial) | exact ⟨trivial, trivial, trivial⟩) ?_
        refine hS _ _ _ ?_
        clear hS
        refine WB_run (gh_ok h27) (g := 0) (by kernel_rfl) [(1, false), (4, false), (7, false), (8, false)] (by kernel_rfl) fun _ hK20 => ?_
        refine d_grow rfl rfl (by decide) rfl fun _ hS => ?_
        repeat first | refine And.intro (by first | omega | exact trivial | rfl | exact inR_i64.mpr ⟨by omega, by omega⟩ | (simp [hs, hkl, hd] <;> omega) | exact hd | exact hd.symm | exact (hs _).symm | exact (hkl _ _).symm | exact inR_u16 (by omega) (by omega) | exact ⟨hq, by decide⟩ | decide | (refine And.intro ?_ ?_ <;> exact trivial) | exact ⟨trivial, trivial, trivial⟩) ?_ | refine whole_yes (by first | omega | exact trivial | rfl | exact inR_i64.mpr ⟨by omega, by omega⟩ | (simp [hs, hkl, hd] <;> omega) | exact hd | exact hd.symm | exact (hs _).symm | exact (hkl _ _).symm | exact inR_u16 (by omega) (by omega) | exact ⟨hq, by decide⟩ | decide | (refine And.intro ?_ ?_ <;> exact trivial) | exact ⟨trivial, trivial, trivial⟩) ?_ | refine whole_sub ?_
        first | refine hS _ _ _ ?_ | (intro cap1 hcap1; refine hS _ _ _ ?_)
        clear hS
        refine d_grow rfl rfl (by decide) rfl fun _ hS => ?_
        repeat first | refine And.intro (by first | omega | exact trivial | rfl | exact inR_i64.mpr ⟨by omega, by omega⟩ | (simp [hs, hkl, hd] <;> omega) | exact hd | exact hd.symm | exact (hs _).symm | exact (hkl _ _).symm | exact inR_u16 (by omega) (by omega) | exact ⟨hq, by decide⟩ | decide | (refine And.intro ?_ ?_ <;> exact trivial) | exact ⟨trivial, trivial, trivial⟩) ?_ | refine whole_yes (by first | omega | exact trivial | rfl | exact inR_i64.mpr ⟨by omega, by omega⟩ | (simp [hs, hkl, hd] <;> omega) | exact hd | exact hd.symm | exact (hs _).symm | exact (hkl _ _).symm | exact inR_u16 (by omega) (by omega) | exact ⟨hq, by decide⟩ | decide | (refine And.intro ?_ ?_ <;> exact trivial) | exact ⟨trivial, trivial, trivial⟩) ?_ | refine whole_sub ?_
        first | refine hS _ _ _ ?_ | (intro cap4 hcap4; refine hS _ _ _ ?_)
        clear hS
        refine d_grow0 rfl rfl rfl fun _ hS => ?_
        repeat refine And.intro (by first | omega | exact trivial | rfl | exact inR_i64.mpr ⟨by omega, by omega⟩ | (simp [hs] <;> omega) | exact hd | exact hd.symm | exact (hs _).symm | exact (hkl _ _).symm | exact inR_u16 (by omega) (by omega) | exact ⟨hq, by decide⟩ | decide | (refine And.intro ?_ ?_ <;> exact trivial) | exact ⟨trivial, trivial, trivial⟩) ?_
        first | refine hS _ _ _ ?_ | (refine splice_full (by first | omega | exact trivial | rfl | exact inR_i64.mpr ⟨by omega, by omega⟩ | (simp [hs] <;> omega) | exact hd | exact hd.symm | exact (hs _).symm | exact (hkl _ _).symm | exact inR_u16 (by omega) (by omega) | exact ⟨hq, by decide⟩ | decide | (refine And.intro ?_ ?_ <;> exact trivial) | exact ⟨trivial, trivial, trivial⟩) ?_; refine hS _ _ _ ?_)
        clear hS
        refine d_grow0 rfl rfl rfl fun _ hS => ?_
        repeat refine And.intro (by first | omega | exact trivial | rfl | exact inR_i64.mpr ⟨by omega, by omega⟩ | (simp [hkl] <;> omega) | exact hd | exact hd.symm | exact (hs _).symm | exact (hkl _ _).symm | exact inR_u16 (by omega) (by omega) | exact ⟨hq, by decide⟩ | decide | (refine And.intro ?_ ?_ <;> exact trivial) | exact ⟨trivial, trivial, trivial⟩) ?_
        first | refine hS _ _ _ ?_ | (refine splice_full (by first | omega | exact trivial | rfl | exact inR_i64.mpr ⟨by omega, by omega⟩ | (simp [hkl] <;> omega) | exact hd | exact hd.symm | exact (hs _).symm | exact (hkl _ _).symm | exact inR_u16 (by omega) (by omega) | exact ⟨hq, by decide⟩ | decide | (refine And.intro ?_ ?_ <;> exact trivial) | exact ⟨trivial, trivial, trivial⟩) ?_; refine hS _ _ _ ?_)
        clear hS
        refine d_nil ?_
        refine hK20 _ _ _ ?_
        refine WB_done (by kernel_rfl) ?_
        refine Done_some [3, 4] id () trivial ⟨?_, ?_, (by decide : List.Nodup ([] : List Nat)), ?_, ?_, ⟨Nat.zero_le _, fun i hi => absurd hi (Nat.not_lt_zero i)⟩⟩
        · repeat' (first | exact trivial | refine And.intro ?_ ?_ | rfl | omega | decide | (show (_ : Nat) < _; decide))
          all_goals first | (simp; done) | (simp [hs, hkl] <;> omega) | skip
        · repeat' (first | exact trivial | refine And.intro ?_ ?_ | rfl | omega | decide | (show (_ : Nat) < _; decide))
        · repeat' (first | exact trivial | refine And.intro ?_ ?_ | rfl | omega | decide | (show (_ : Nat) < _; decide))
        · repeat' (first | exact trivial | refine And.intro ?_ ?_ | rfl | omega | decide | (show (_ : Nat) < _; decide))
  · intro _ _
    refine seq_k fun _ hK21 => ?_
    refine region_k (gh_ok h27) fun _ hK22 => ?_
    refine s_step rfl (by decide) rfl fun _ hS => ?_
    repeat refine And.intro (by first | omega | exact trivial | rfl | exact inR_i64.mpr ⟨by omega, by omega⟩ | (simp [hd] <;> omega) | exact hd | exact hd.symm | exact (hs _).symm | exact (hkl _ _).symm | exact inR_u16 (by omega) (by omega) | exact ⟨hq, by decide⟩ | decide | (refine And.intro ?_ ?_ <;> exact trivial) | exact ⟨trivial, trivial, trivial⟩) ?_
    first | refine hS _ _ _ ?_ | (refine ite_yes (by first | omega | exact trivial | rfl | exact inR_i64.mpr ⟨by omega, by omega⟩ | (simp [hd] <;> omega) | exact hd | exact hd.symm | exact (hs _).symm | exact (hkl _ _).symm | exact inR_u16 (by omega) (by omega) | exact ⟨hq, by decide⟩ | decide | (refine And.intro ?_ ?_ <;> exact trivial) | exact ⟨trivial, trivial, trivial⟩) ?_; refine hS _ _ _ ?_)
    clear hS
    refine s_step rfl (by decide) rfl fun _ hS => ?_
    repeat refine And.intro (by first | omega | exact trivial | rfl | exact inR_i64.mpr ⟨by omega, by omega⟩ | (simp [hs, hkl, hd] <;> omega) | exact hd | exact hd.symm | exact (hs _).symm | exact (hkl _ _).symm | exact inR_u16 (by omega) (by omega) | exact ⟨hq, by decide⟩ | decide | (refine And.intro ?_ ?_ <;> exact trivial) | exact ⟨trivial, trivial, trivial⟩) ?_
    refine hS _ _ _ ?_
    clear hS
    refine s_step0 rfl rfl fun _ hS => ?_
    repeat refine And.intro (by first | omega | exact trivial | rfl | exact inR_i64.mpr ⟨by omega, by omega⟩ | (simp [hd] <;> omega) | exact hd | exact hd.symm | exact (hs _).symm | exact (hkl _ _).symm | exact inR_u16 (by omega) (by omega) | exact ⟨hq, by decide⟩ | decide | (refine And.intro ?_ ?_ <;> exact trivial) | exact ⟨trivial, trivial, trivial⟩) ?_
    first | refine hS _ _ _ ?_ | (refine splice_full (by first | omega | exact trivial | rfl | exact inR_i64.mpr ⟨by omega, by omega⟩ | (simp [hd] <;> omega) | exact hd | exact hd.symm | exact (hs _).symm | exact (hkl _ _).symm | exact inR_u16 (by omega) (by omega) | exact ⟨hq, by decide⟩ | decide | (refine And.intro ?_ ?_ <;> exact trivial) | exact ⟨trivial, trivial, trivial⟩) ?_; refine hS _ _ _ ?_)
    clear hS
    refine s_nil ?_
    refine hK22 _ _ _ ?_
    refine hK21 _ _ _ ?_
    refine seq_k fun _ hK23 => ?_
    refine region_k (gh_ok h27) fun _ hK24 => ?_
    refine s_step rfl (by decide) rfl fun _ hS => ?_
    refine hS _ _ _ ?_
    clear hS
    refine s_step rfl (by decide) rfl fun _ hS => ?_
    repeat first | refine And.intro (by first | omega | exact trivial | rfl | exact inR_i64.mpr ⟨by omega, by omega⟩ | (simp [hs, hkl, hd] <;> omega) | exact hd | exact hd.symm | exact (hs _).symm | exact (hkl _ _).symm | exact inR_u16 (by omega) (by omega) | exact ⟨hq, by decide⟩ | decide | (refine And.intro ?_ ?_ <;> exact trivial) | exact ⟨trivial, trivial, trivial⟩) ?_ | refine whole_yes (by first | omega | exact trivial | rfl | exact inR_i64.mpr ⟨by omega, by omega⟩ | (simp [hs, hkl, hd] <;> omega) | exact hd | exact hd.symm | exact (hs _).symm | exact (hkl _ _).symm | exact inR_u16 (by omega) (by omega) | exact ⟨hq, by decide⟩ | decide | (refine And.intro ?_ ?_ <;> exact trivial) | exact ⟨trivial, trivial, trivial⟩) ?_ | refine whole_sub ?_
    refine hS _ _ _ ?_
    clear hS
    refine s_step rfl (by decide) rfl fun _ hS => ?_
    repeat refine And.intro (by first | omega | exact trivial | rfl | exact inR_i64.mpr ⟨by omega, by omega⟩ | (simp [hs, hkl, hd] <;> omega) | exact hd | exact hd.symm | exact (hs _).symm | exact (hkl _ _).symm | exact inR_u16 (by omega) (by omega) | exact ⟨hq, by decide⟩ | decide | (refine And.intro ?_ ?_ <;> exact trivial) | exact ⟨trivial, trivial, trivial⟩) ?_
    refine hS _ _ _ ?_
    clear hS
    refine s_step rfl (by decide) rfl fun _ hS => ?_
    refine hS _ _ _ ?_
    clear hS
    refine s_step rfl (by decide) rfl fun _ hS => ?_
    repeat first | refine And.intro (by first | omega | exact trivial | rfl | exact inR_i64.mpr ⟨by omega, by omega⟩ | (simp [hs, hkl, hd] <;> omega) | exact hd | exact hd.symm | exact (hs _).symm | exact (hkl _ _).symm | exact inR_u16 (by omega) (by omega) | exact ⟨hq, by decide⟩ | decide | (refine And.intro ?_ ?_ <;> exact trivial) | exact ⟨trivial, trivial, trivial⟩) ?_ | refine whole_yes (by first | omega | exact trivial | rfl | exact inR_i64.mpr ⟨by omega, by omega⟩ | (simp [hs, hkl, hd] <;> omega) | exact hd | exact hd.symm | exact (hs _).symm | exact (hkl _ _).symm | exact inR_u16 (by omega) (by omega) | exact ⟨hq, by decide⟩ | decide | (refine And.intro ?_ ?_ <;> exact trivial) | exact ⟨trivial, trivial, trivial⟩) ?_ | refine whole_sub ?_
    refine hS _ _ _ ?_
    clear hS
    refine s_step rfl (by decide) rfl fun _ hS => ?_
    repeat refine And.intro (by first | omega | exact trivial | rfl | exact inR_i64.mpr ⟨by omega, by omega⟩ | (simp [hs, hkl, hd] <;> omega) | exact hd | exact hd.symm | exact (hs _).symm | exact (hkl _ _).symm | exact inR_u16 (by omega) (by omega) | exact ⟨hq, by decide⟩ | decide | (refine And.intro ?_ ?_ <;> exact trivial) | exact ⟨trivial, trivial, trivial⟩) ?_
    refine hS _ _ _ ?_
    clear hS
    refine s_step rfl (by decide) rfl fun _ hS => ?_
    repeat refine And.intro (by first | omega | exact trivial | rfl | exact inR_i64.mpr ⟨by omega, by omega⟩ | (simp [hd] <;> omega) | exact hd | exact hd.symm | exact (hs _).symm | exact (hkl _ _).symm | exact inR_u16 (by omega) (by omega) | exact ⟨hq, by decide⟩ | decide | (refine And.intro ?_ ?_ <;> exact trivial) | exact ⟨trivial, trivial, trivial⟩) ?_
    refine hS _ _ _ ?_
    clear hS
    refine s_step rfl (by decide) rfl fun _ hS => ?_
    repeat refine And.intro (by first | omega | exact trivial | rfl | exact inR_i64.mpr ⟨by omega, by omega⟩ | (simp [hd] <;> omega) | exact hd | exact hd.symm | exact (hs _).symm | exact (hkl _ _).symm | exact inR_u16 (by omega) (by omega) | exact ⟨hq, by decide⟩ | decide | (refine And.intro ?_ ?_ <;> exact trivial) | exact ⟨trivial, trivial, trivial⟩) ?_
    first | refine hS _ _ _ ?_ | (refine ite_yes (by first | omega | exact trivial | rfl | exact inR_i64.mpr ⟨by omega, by omega⟩ | (simp [hs, hkl, hd] <;> omega) | exact hd | exact hd.symm | exact (hs _).symm | exact (hkl _ _).symm | exact inR_u16 (by omega) (by omega) | exact ⟨hq, by decide⟩ | decide | (refine And.intro ?_ ?_ <;> exact trivial) | exact ⟨trivial, trivial, trivial⟩) ?_; refine hS _ _ _ ?_)
    clear hS
    refine s_step rfl (by decide) rfl fun _ hS => ?_
    refine hS _ _ _ ?_
    clear hS
    refine s_step rfl (by decide) rfl fun _ hS => ?_
    repeat refine And.intro (by first | omega | exact trivial | rfl | exact inR_i64.mpr ⟨by omega, by omega⟩ | (simp <;> omega) | exact hd | exact hd.symm | exact (hs _).symm | exact (hkl _ _).symm | exact inR_u16 (by omega) (by omega) | exact ⟨hq, by decide⟩ | decide | (refine And.intro ?_ ?_ <;> exact trivial) | exact ⟨trivial, trivial, trivial⟩) ?_
    refine hS _ _ _ ?_
    clear hS
    refine s_step rfl (by decide) rfl fun _ hS => ?_
    repeat refine And.intro (by first | omega | exact trivial | rfl | exact inR_i64.mpr ⟨by omega, by omega⟩ | (simp <;> omega) | exact hd | exact hd.symm | exact (hs _).symm | exact (hkl _ _).symm | exact inR_u16 (by omega) (by omega) | exact ⟨hq, by decide⟩ | decide | (refine And.intro ?_ ?_ <;> exact trivial) | exact ⟨trivial, trivial, trivial⟩) ?_
    refine hS _ _ _ ?_
    clear hS
    refine s_step rfl (by decide) rfl fun _ hS => ?_
    repeat refine And.intro (by first | omega | exact trivial | rfl | exact inR_i64.mpr ⟨by omega, by omega⟩ | (simp <;> omega) | exact hd | exact hd.symm | exact (hs _).symm | exact (hkl _ _).symm | exact inR_u16 (by omega) (by omega) | exact ⟨hq, by decide⟩ | decide | (refine And.intro ?_ ?_ <;> exact trivial) | exact ⟨trivial, trivial, trivial⟩) ?_
    refine hS _ _ _ ?_
    clear hS
    refine s_step rfl (by decide) rfl fun _ hS => ?_
    repeat first | refine And.intro (by first | omega | exact trivial | rfl | exact inR_i64.mpr ⟨by omega, by omega⟩ | (simp [hs, hkl, hd] <;> omega) | exact hd | exact hd.symm | exact (hs _).symm | exact (hkl _ _).symm | exact inR_u16 (by omega) (by omega) | exact ⟨hq, by decide⟩ | decide | (refine And.intro ?_ ?_ <;> exact trivial) | exact ⟨trivial, trivial, trivial⟩) ?_ | refine whole_yes (by first | omega | exact trivial | rfl | exact inR_i64.mpr ⟨by omega, by omega⟩ | (simp [hs, hkl, hd] <;> omega) | exact hd | exact hd.symm | exact (hs _).symm | exact (hkl _ _).symm | exact inR_u16 (by omega) (by omega) | exact ⟨hq, by decide⟩ | decide | (refine And.intro ?_ ?_ <;> exact trivial) | exact ⟨trivial, trivial, trivial⟩) ?_ | refine whole_sub ?_
    refine hS _ _ _ ?_
    clear hS
    refine s_step rfl (by decide) rfl fun _ hS => ?_
    repeat refine And.intro (by first | omega | exact trivial | rfl | exact inR_i64.mpr ⟨by omega, by omega⟩ | (simp [hs, hkl, hd] <;> omega) | exact hd | exact hd.symm | exact (hs _).symm | exact (hkl _ _).symm | exact inR_u16 (by omega) (by omega) | exact ⟨hq, by decide⟩ | decide | (refine And.intro ?_ ?_ <;> exact trivial) | exact ⟨trivial, trivial, trivial⟩) ?_
    refine hS _ _ _ ?_
    clear hS
    refine s_step rfl (by decide) rfl fun _ hS => ?_
    repeat refine And.intro (by first | omega | exact trivial | rfl | exact inR_i64.mpr ⟨by omega, by omega⟩ | (simp [hd] <;> omega) | exact hd | exact hd.symm | exact (hs _).symm | exact (hkl _ _).symm | exact inR_u16 (by omega) (by omega) | exact ⟨hq, by decide⟩ | decide | (refine And.intro ?_ ?_ <;> exact trivial) | exact ⟨trivial, trivial, trivial⟩) ?_
    refine hS _ _ _ ?_
    clear hS
    refine s_step0 rfl rfl fun _ hS => ?_
    repeat refine And.intro (by first | omega | exact trivial | rfl | exact inR_i64.mpr ⟨by omega, by omega⟩ | (simp [hd] <;> omega) | exact hd | exact hd.symm | exact (hs _).symm | exact (hkl _ _).symm | exact inR_u16 (by omega) (by omega) | exact ⟨hq, by decide⟩ | decide | (refine And.intro ?_ ?_ <;> exact trivial) | exact ⟨trivial, trivial, trivial⟩) ?_
    first | refine hS _ _ _ ?_ | (refine splice_full (by first | omega | exact trivial | rfl | exact inR_i64.mpr ⟨by omega, by omega⟩ | (simp [hs, hkl, hd] <;> omega) | exact hd | exact hd.symm | exact (hs _).symm | exact (hkl _ _).symm | exact inR_u16 (by omega) (by omega) | exact ⟨hq, by decide⟩ | decide | (refine And.intro ?_ ?_ <;> exact trivial) | exact ⟨trivial, trivial, trivial⟩) ?_; refine hS _ _ _ ?_)
    clear hS
    refine s_nil ?_
    refine hK24 _ _ _ ?_
    obtain ⟨d2, hd2e⟩ : ∃ d2, d2 = d.set (k % 32).toNat (chg k (d.getD (k % 32).toNat 0)) := ⟨_, rfl⟩
    have hd2 : d2.length = 32 := by rw [hd2e]; simp [hd]
    refine hK23 _ _ _ ?_
    refine seq_k fun _ hK25 => ?_
    refine region_k (gh_ok h27) fun _ hK26 => ?_
    refine s_step rfl (by decide) rfl fun _ hS => ?_
    repeat refine And.intro (by first | omega | exact trivial | rfl | exact inR_i64.mpr ⟨by omega, by omega⟩ | (simp [hs, hkl, hd] <;> omega) | exact hd | exact hd.symm | exact (hs _).symm | exact (hkl _ _).symm | exact inR_u16 (by omega) (by omega) | exact ⟨hq, by decide⟩ | decide | (refine And.intro ?_ ?_ <;> exact trivial) | exact ⟨trivial, trivial, trivial⟩) ?_
    refine hS _ _ _ ?_
    clear hS
    refine s_step rfl (by decide) rfl fun _ hS => ?_
    refine hS _ _ _ ?_
    clear hS
    refine s_step rfl (by decide) rfl fun _ hS => ?_
    repeat first | refine And.intro (by first | omega | exact trivial | rfl | exact inR_i64.mpr ⟨by omega, by omega⟩ | (simp <;> omega) | exact hd | exact hd.symm | exact (hs _).symm | exact (hkl _ _).symm | exact inR_u16 (by omega) (by omega) | exact ⟨hq, by decide⟩ | decide | (refine And.intro ?_ ?_ <;> exact trivial) | exact ⟨trivial, trivial, trivial⟩) ?_ | refine whole_yes (by first | omega | exact trivial | rfl | exact inR_i64.mpr ⟨by omega, by omega⟩ | (simp [hs, hkl, hd] <;> omega) | exact hd | exact hd.symm | exact (hs _).symm | exact (hkl _ _).symm | exact inR_u16 (by omega) (by omega) | exact ⟨hq, by decide⟩ | decide | (refine And.intro ?_ ?_ <;> exact trivial) | exact ⟨trivial, trivial, trivial⟩) ?_ | refine whole_sub ?_
    intro cap2 hcap2; refine hS _ _ _ ?_
    clear hS
    refine s_step rfl (by decide) rfl fun _ hS => ?_
    refine hS _ _ _ ?_
    clear hS
    refine s_nil ?_
    refine hK26 _ _ _ ?_
    refine hK25 _ _ _ ?_
    refine seq_k fun _ hK27 => ?_
    refine region_k (gh_ok h27) fun _ hK28 => ?_
    refine s_step rfl (by decide) rfl fun _ hS => ?_
    refine hS _ _ _ ?_
    clear hS
    refine s_step rfl (by decide) rfl fun _ hS => ?_
    repeat refine And.intro (by first | omega | exact trivial | rfl | exact inR_i64.mpr ⟨by omega, by omega⟩ | (simp [hs, hkl, hd] <;> omega) | exact hd | exact hd.symm | exact (hs _).symm | exact (hkl _ _).symm | exact inR_u16 (by omega) (by omega) | exact ⟨hq, by decide⟩ | decide | (refine And.intro ?_ ?_ <;> exact trivial) | exact ⟨trivial, trivial, trivial⟩) ?_
    refine hS _ _ _ ?_
    clear hS
    refine s_step rfl (by decide) rfl fun _ hS => ?_
    repeat first | refine And.intro (by first | omega | exact trivial | rfl | exact inR_i64.mpr ⟨by omega, by omega⟩ | (simp <;> omega) | exact hd | exact hd.symm | exact (hs _).symm | exact (hkl _ _).symm | exact inR_u16 (by omega) (by omega) | exact ⟨hq, by decide⟩ | decide | (refine And.intro ?_ ?_ <;> exact trivial) | exact ⟨trivial, trivial, trivial⟩) ?_ | refine whole_yes (by first | omega | exact trivial | rfl | exact inR_i64.mpr ⟨by omega, by omega⟩ | (simp [hs, hkl, hd] <;> omega) | exact hd | exact hd.symm | exact (hs _).symm | exact (hkl _ _).symm | exact inR_u16 (by omega) (by omega) | exact ⟨hq, by decide⟩ | decide | (refine And.intro ?_ ?_ <;> exact trivial) | exact ⟨trivial, trivial, trivial⟩) ?_ | refine whole_sub ?_
    intro cap2 hcap2; refine hS _ _ _ ?_
    clear hS
    refine s_step rfl (by decide) rfl fun _ hS => ?_
    refine hS _ _ _ ?_
    clear hS
    refine s_nil ?_
    refine hK28 _ _ _ ?_
    refine hK27 _ _ _ ?_
    refine seq_k fun _ hK29 => ?_
    refine WP_cut (α := Unit) (fun _ => [(2, .c (.int .u16 k)), (4, .c (.dp (.u8s d) 0)), (7, .c (.bool true)), (8, .c (.ds l.length (.u8s l))), (9, .c (.dp (.u8s (Sha.sum l)) 0)), (10, .c (.dp (.u8s (keyed d l)) 0)), (73, .c (.bool false))]) (fun _ => []) 10 (fun _ => True) ?_ ?_
    · skip
      refine WP_le (is := [5, 9]) (ρ := id) (E' := [(2, .c (.int .u16 k)), (4, .c (.dp (.u8s d) 0)), (7, .c (.bool true)), (8, .c (.ds l.length (.u8s l))), (9, .c (.dp (.u8s (Sha.sum l)) 0)), (10, .c (.dp (.u8s (keyed d l)) 0)), (11, .c (.dp (.u8s d2) 0)), (12, .c (.ds (l ++ [0]).length (.u8s (l ++ [0]))))]) (H' := []) (n' := 10) ⟨?_, ?_, (by decide : List.Nodup ([] : List Nat)), ?_, ?_, ⟨Nat.zero_le _, fun i hi => absurd hi (Nat.not_lt_zero i)⟩⟩ ?_
      · repeat' (first | (rw [hd2e]; simp [chg]; done) | exact trivial | refine And.intro ?_ ?_ | rfl | omega | decide | (show (_ : Nat) < _; decide))
        all_goals first | exact hd2 | (simp [hd]; done) | (simp [Cont.sub, Cont.take, Cont.drop, hs, hkl, hd, hd2] <;> omega) | skip
      · repeat' (first | exact trivial | refine And.intro ?_ ?_ | rfl | omega | decide | (show (_ : Nat) < _; decide))
        all_goals first | exact hd2 | (simp [hd]; done) | (simp [Cont.sub, Cont.take, Cont.drop, hs, hkl, hd, hd2] <;> omega) | skip
      · repeat' (first | exact trivial | refine And.intro ?_ ?_ | rfl | omega | decide | (show (_ : Nat) < _; decide))
      · repeat' (first | exact trivial | refine And.intro ?_ ?_ | rfl | omega | decide | (show (_ : Nat) < _; decide))
      refine sched_k (gh_ok h27) [(0, true), (1, true), (3, true), (2, false), (4, true), (5, true), (6, true), (7, true), (9, true), (10, true), (8, false), (11, false), (12, true), (13, true), (14, true), (15, true), (17, true), (16, false), (18, true), (19, true), (20, true), (22, true), (21, false), (23, false), (24, true), (25, true), (26, true)] rfl (by kernel_rfl) (by kernel_rfl) fun _ hK30 => ?_
      refine d_read rfl rfl (by decide) rfl fun _ hS => ?_
      repeat refine And.intro (by first | omega | exact trivial | rfl | exact inR_i64.mpr ⟨by omega, by omega⟩ | (simp [hd2] <;> omega) | exact hd | exact hd.symm | exact (hs _).symm | exact (hkl _ _).symm | exact hd2 | exact hd2.symm | exact inR_u16 (by omega) (by omega) | exact ⟨hq, by decide⟩ | decide | (refine And.intro ?_ ?_ <;> exact trivial) | exact ⟨trivial, trivial, trivial⟩) ?_
      first | refine hS _ ?_ | (refine ite_yes (by first | omega | exact trivial | rfl | exact inR_i64.mpr ⟨by omega, by omega⟩ | (simp [hd2] <;> omega) | exact hd | exact hd.symm | exact (hs _).symm | exact (hkl _ _).symm | exact hd2 | exact hd2.symm | exact inR_u16 (by omega) (by omega) | exact ⟨hq, by decide⟩ | decide | (refine And.intro ?_ ?_ <;> exact trivial) | exact ⟨trivial, trivial, trivial⟩) ?_; refine hS _ ?_)
      clear hS
      refine d_read rfl rfl (by decide) rfl fun _ hS => ?_
      refine hS _ ?_
      clear hS
      refine d_read rfl rfl (by decide) rfl fun _ hS => ?_
      repeat refine And.intro (by first | omega | exact trivial | rfl | exact inR_i64.mpr ⟨by omega, by omega⟩ | (simp [hkl] <;> omega) | exact hd | exact hd.symm | exact (hs _).symm | exact (hkl _ _).symm | exact hd2 | exact hd2.symm | exact inR_u16 (by omega) (by omega) | exact ⟨hq, by decide⟩ | decide | (refine And.intro ?_ ?_ <;> exact trivial) | exact ⟨trivial, trivial, trivial⟩) ?_
      first | refine hS _ ?_ | (refine ite_yes (by first | omega | exact trivial | rfl | exact inR_i64.mpr ⟨by omega, by omega⟩ | (simp [hkl] <;> omega) | exact hd | exact hd.symm | exact (hs _).symm | exact (hkl _ _).symm | exact hd2 | exact hd2.symm | exact inR_u16 (by omega) (by omega) | exact ⟨hq, by decide⟩ | decide | (refine And.intro ?_ ?_ <;> exact trivial) | exact ⟨trivial, trivial, trivial⟩) ?_; refine hS _ ?_)
      clear hS
      refine d_grow rfl rfl (by decide) rfl fun _ hS => ?_
      repeat first | refine And.intro (by first | omega | exact trivial | rfl | exact inR_i64.mpr ⟨by omega, by omega⟩ | (simp [hs, hkl, hd, hd2] <;> omega) | exact hd | exact hd.symm | exact (hs _).symm | exact (hkl _ _).symm | exact hd2 | exact hd2.symm | exact inR_u16 (by omega) (by omega) | exact ⟨hq, by decide⟩ | decide | (refine And.intro ?_ ?_ <;> exact trivial) | exact ⟨trivial, trivial, trivial⟩) ?_ | refine whole_yes (by first | omega | exact trivial | rfl | exact inR_i64.mpr ⟨by omega, by omega⟩ | (simp [hs, hkl, hd, hd2] <;> omega) | exact hd | exact hd.symm | exact (hs _).symm | exact (hkl _ _).symm | exact hd2 | exact hd2.symm | exact inR_u16 (by omega) (by omega) | exact ⟨hq, by decide⟩ | decide | (refine And.intro ?_ ?_ <;> exact trivial) | exact ⟨trivial, trivial, trivial⟩) ?_ | refine whole_sub ?_
      first | refine hS _ _ _ ?_ | (intro cap2 hcap2; refine hS _ _ _ ?_)
      clear hS
      refine d_read rfl rfl (by decide) rfl fun _ hS => ?_
      repeat refine And.intro (by first | omega | exact trivial | rfl | exact inR_i64.mpr ⟨by omega, by omega⟩ | (simp [hkl] <;> omega) | exact hd | exact hd.symm | exact (hs _).symm | exact (hkl _ _).symm | exact hd2 | exact hd2.symm | exact inR_u16 (by omega) (by omega) | exact ⟨hq, by decide⟩ | decide | (refine And.intro ?_ ?_ <;> exact trivial) | exact ⟨trivial, trivial, trivial⟩) ?_
      refine hS _ ?_
      clear hS
      refine d_read rfl rfl (by decide) rfl fun _ hS => ?_
      refine d_split hS (fun hb5 => ?_) (fun hb5 => ?_)
      · clear hS
        simp only [decide_eq_true_eq] at hb5
        refine d_readg (b := true) rfl rfl (by decide) rfl rfl (fun _ _ hS => ?_) (fun e => absurd e (by decide))
        repeat refine And.intro (by first | omega | exact trivial | rfl | exact inR_i64.mpr ⟨by omega, by omega⟩ | (simp [hd2] <;> omega) | exact hd | exact hd.symm | exact (hs _).symm | exact (hkl _ _).symm | exact hd2 | exact hd2.symm | exact inR_u16 (by omega) (by omega) | exact ⟨hq, by decide⟩ | decide | (refine And.intro ?_ ?_ <;> exact trivial) | exact ⟨trivial, trivial, trivial⟩) ?_
        first | refine hS _ ?_ | (refine ite_yes (by first | omega | exact trivial | rfl | exact inR_i64.mpr ⟨by omega, by omega⟩ | (simp [hd2] <;> omega) | exact hd | exact hd.symm | exact (hs _).symm | exact (hkl _ _).symm | exact hd2 | exact hd2.symm | exact inR_u16 (by omega) (by omega) | exact ⟨hq, by decide⟩ | decide | (refine And.intro ?_ ?_ <;> exact trivial) | exact ⟨trivial, trivial, trivial⟩) ?_; refine hS _ ?_)
        clear hS
        refine d_readg (b := true) rfl rfl (by decide) rfl rfl (fun _ _ hS => ?_) (fun e => absurd e (by decide))
        refine hS _ ?_
        clear hS
        refine d_readg (b := true) rfl rfl (by decide) rfl rfl (fun _ _ hS => ?_) (fun e => absurd e (by decide))
        repeat refine And.intro (by first | omega | exact trivial | rfl | exact inR_i64.mpr ⟨by omega, by omega⟩ | (simp [hd] <;> omega) | exact hd | exact hd.symm | exact (hs _).symm | exact (hkl _ _).symm | exact hd2 | exact hd2.symm | exact inR_u16 (by omega) (by omega) | exact ⟨hq, by decide⟩ | decide | (refine And.intro ?_ ?_ <;> exact trivial) | exact ⟨trivial, trivial, trivial⟩) ?_
        first | refine hS _ ?_ | (refine ite_yes (by first | omega | exact trivial | rfl | exact inR_i64.mpr ⟨by omega, by omega⟩ | (simp [hd] <;> omega) | exact hd | exact hd.symm | exact (hs _).symm | exact (hkl _ _).symm | exact hd2 | exact hd2.symm | exact inR_u16 (by omega) (by omega) | exact ⟨hq, by decide⟩ | decide | (refine And.intro ?_ ?_ <;> exact trivial) | exact ⟨trivial, trivial, trivial⟩) ?_; refine hS _ ?_)
        clear hS
        refine d_readg (b := true) rfl rfl (by decide) rfl rfl (fun _ _ hS => ?_) (fun e => absurd e (by decide))
        refine hS _ ?_
        clear hS
        refine d_growg (b := true) rfl rfl (by decide) rfl rfl (fun _ _ hS => ?_) (fun e => absurd e (by decide))
        repeat first | refine And.intro (by first | omega | exact trivial | rfl | exact inR_i64.mpr ⟨by omega, by omega⟩ | (simp [hs, hkl, hd, hd2] <;> omega) | exact hd | exact hd.symm | exact (hs _).symm | exact (hkl _ _).symm | exact hd2 | exact hd2.symm | exact inR_u16 (by omega) (by omega) | exact ⟨hq, by decide⟩ | decide | (refine And.intro ?_ ?_ <;> exact trivial) | exact ⟨trivial, trivial, trivial⟩) ?_ | refine whole_yes (by first | omega | exact trivial | rfl | exact inR_i64.mpr ⟨by omega, by omega⟩ | (simp [hs, hkl, hd, hd2] <;> omega) | exact hd | exact hd.symm | exact (hs _).symm | exact (hkl _ _).symm | exact hd2 | exact hd2.symm | exact inR_u16 (by omega) (by omega) | exact ⟨hq, by decide⟩ | decide | (refine And.intro ?_ ?_ <;> exact trivial) | exact ⟨trivial, trivial, trivial⟩) ?_ | refine whole_sub ?_
        first | refine hS _ _ _ ?_ | (intro cap8 hcap8; refine hS _ _ _ ?_)
        clear hS
        refine d_growg (b := true) rfl rfl (by decide) rfl rfl (fun _ _ hS => ?_) (fun e => absurd e (by decide))
        repeat first | refine And.intro (by first | omega | exact trivial | rfl | exact inR_i64.mpr ⟨by omega, by omega⟩ | (simp [hs, hkl, hd, hd2] <;> omega) | exact hd | exact hd.symm | exact (hs _).symm | exact (hkl _ _).symm | exact hd2 | exact hd2.symm | exact inR_u16 (by omega) (by omega) | exact ⟨hq, by decide⟩ | decide | (refine And.intro ?_ ?_ <;> exact trivial) | exact ⟨trivial, trivial, trivial⟩) ?_ | refine whole_yes (by first | omega | exact trivial | rfl | exact inR_i64.mpr ⟨by omega, by omega⟩ | (simp [hs, hkl, hd, hd2] <;> omega) | exact hd | exact hd.symm | exact (hs _).symm | exact (hkl _ _).symm | exact hd2 | exact hd2.symm | exact inR_u16 (by omega) (by omega) | exact ⟨hq, by decide⟩ | decide | (refine And.intro ?_ ?_ <;> exact trivial) | exact ⟨trivial, trivial, trivial⟩) ?_ | refine whole_sub ?_
        first | refine hS _ _ _ ?_ | (intro cap11 hcap11; refine hS _ _ _ ?_)
        clear hS
        refine d_readg (b := true) rfl rfl (by decide) rfl rfl (fun _ _ hS => ?_) (fun e => absurd e (by decide))
        repeat refine And.intro (by first | omega | exact trivial | rfl | exact inR_i64.mpr ⟨by omega, by omega⟩ | (simp [hkl] <;> omega) | exact hd | exact hd.symm | exact (hs _).symm | exact (hkl _ _).symm | exact hd2 | exact hd2.symm | exact inR_u16 (by omega) (by omega) | exact ⟨hq, by decide⟩ | decide | (refine And.intro ?_ ?_ <;> exact trivial) | exact ⟨trivial, trivial, trivial⟩) ?_
        refine hS _ ?_
        clear hS
        refine d_read rfl rfl (by decide) rfl fun _ hS => ?_
        refine hS _ ?_
        clear hS
        refine d_read rfl rfl (by decide) rfl fun _ hS => ?_
        refine d_split hS (fun hb14 => ?_) (fun hb14 => ?_)
        · exfalso; first | (simp at hb14; done) | (simp [hb5] at hb14; done)
        clear hS
        refine d_readg (b := false) rfl rfl (by decide) rfl rfl (fun _ _ hS => ?_) (fun e => absurd e (by decide))
        refine hS _ ?_
        clear hS
        refine d_readg (b := false) rfl rfl (by decide) rfl rfl (fun _ _ hS => ?_) (fun e => absurd e (by decide))
        repeat refine And.intro (by first | omega | exact trivial | rfl | exact inR_i64.mpr ⟨by omega, by omega⟩ | (simp [hs] <;> omega) | exact hd | exact hd.symm | exact (hs _).symm | exact (hkl _ _).symm | exact hd2 | exact hd2.symm | exact inR_u16 (by omega) (by omega) | exact ⟨hq, by decide⟩ | decide | (refine And.intro ?_ ?_ <;> exact trivial) | exact ⟨trivial, trivial, trivial⟩) ?_
        first | refine hS _ ?_ | (refine ite_yes (by first | omega | exact trivial | rfl | exact inR_i64.mpr ⟨by omega, by omega⟩ | (simp [hs] <;> omega) | exact hd | exact hd.symm | exact (hs _).symm | exact (hkl _ _).symm | exact hd2 | exact hd2.symm | exact inR_u16 (by omega) (by omega) | exact ⟨hq, by decide⟩ | decide | (refine And.intro ?_ ?_ <;> exact trivial) | exact ⟨trivial, trivial, trivial⟩) ?_; refine hS _ ?_)
        clear hS
        refine d_growg (b := false) rfl rfl (by decide) rfl rfl (fun _ _ hS => ?_) (fun e => absurd e (by decide))
        repeat first | refine And.intro (by first | omega | exact trivial | rfl | exact inR_i64.mpr ⟨by omega, by omega⟩ | (simp <;> omega) | exact hd | exact hd.symm | exact (hs _).symm | exact (hkl _ _).symm | exact hd2 | exact hd2.symm | exact inR_u16 (by omega) (by omega) | exact ⟨hq, by decide⟩ | decide | (refine And.intro ?_ ?_ <;> exact trivial) | exact ⟨trivial, trivial, trivial⟩) ?_ | refine whole_yes (by first | omega | exact trivial | rfl | exact inR_i64.mpr ⟨by omega, by omega⟩ | (simp [hs, hkl, hd, hd2] <;> omega) | exact hd | exact hd.symm | exact (hs _).symm | exact (hkl _ _).symm | exact hd2 | exact hd2.symm | exact inR_u16 (by omega) (by omega) | exact ⟨hq, by decide⟩ | decide | (refine And.intro ?_ ?_ <;> exact trivial) | exact ⟨trivial, trivial, trivial⟩) ?_ | refine whole_sub ?_
        first | refine hS _ _ _ ?_ | (intro cap16 hcap16; refine hS _ _ _ ?_)
        clear hS
        refine d_readg (b := false) rfl rfl (by decide) rfl rfl (fun _ _ hS => ?_) (fun e => absurd e (by decide))
        repeat refine And.intro (by first | omega | exact trivial | rfl | exact inR_i64.mpr ⟨by omega, by omega⟩ | (simp [hs] <;> omega) | exact hd | exact hd.symm | exact (hs _).symm | exact (hkl _ _).symm | exact hd2 | exact hd2.symm | exact inR_u16 (by omega) (by omega) | exact ⟨hq, by decide⟩ | decide | (refine And.intro ?_ ?_ <;> exact trivial) | exact ⟨trivial, trivial, trivial⟩) ?_
        refine hS _ ?_
        clear hS
        refine d_readg (b := false) rfl rfl (by decide) rfl rfl (fun _ _ hS => ?_) (fun e => absurd e (by decide))
        refine d_split hS (fun hb19 => ?_) (fun hb19 => ?_)
        · clear hS
          simp only [decide_eq_true_eq] at hb19
          refine d_readg (b := true) rfl rfl (by decide) rfl rfl (fun _ _ hS => ?_) (fun e => absurd e (by decide))
          refine hS _ ?_
          clear hS
          refine d_readg (b := true) rfl rfl (by decide) rfl rfl (fun _ _ hS => ?_) (fun e => absurd e (by decide))
          refine hS _ ?_
          clear hS
          refine d_growg (b := true) rfl rfl (by decide) rfl rfl (fun _ _ hS => ?_) (fun e => absurd e (by decide))
          repeat first | refine And.intro (by first | omega | exact trivial | rfl | exact inR_i64.mpr ⟨by omega, by omega⟩ | (simp <;> omega) | exact hd | exact hd.symm | exact (hs _).symm | exact (hkl _ _).symm | exact hd2 | exact hd2.symm | exact inR_u16 (by omega) (by omega) | exact ⟨hq, by decide⟩ | decide | (refine And.intro ?_ ?_ <;> exact trivial) | exact ⟨trivial, trivial, trivial⟩) ?_ | refine whole_yes (by first | omega | exact trivial | rfl | exact inR_i64.mpr ⟨by omega, by omega⟩ | (simp [hs, hkl, hd, hd2] <;> omega) | exact hd | exact hd.symm | exact (hs _).symm | exact (hkl _ _).symm | exact hd2 | exact hd2.symm | exact inR_u16 (by omega) (by omega) | exact ⟨hq, by decide⟩ | decide | (refine And.intro ?_ ?_ <;> exact trivial) | exact ⟨trivial, trivial, trivial⟩) ?_ | refine whole_sub ?_
          first | refine hS _ _ _ ?_ | (intro cap21 hcap21; refine hS _ _ _ ?_)
          clear hS
          refine d_growg (b := true) rfl rfl (by decide) rfl rfl (fun _ _ hS => ?_) (fun e => absurd e (by decide))
          repeat first | refine And.intro (by first | omega | exact trivial | rfl | exact inR_i64.mpr ⟨by omega, by omega⟩ | (simp [hs, hkl, hd, hd2] <;> omega) | exact hd | exact hd.symm | exact (hs _).symm | exact (hkl _ _).symm | exact hd2 | exact hd2.symm | exact inR_u16 (by omega) (by omega) | exact ⟨hq, by decide⟩ | decide | (refine And.intro ?_ ?_ <;> exact trivial) | exact ⟨trivial, trivial, trivial⟩) ?_ | refine whole_yes (by first | omega | exact trivial | rfl | exact inR_i64.mpr ⟨by omega, by omega⟩ | (simp [hs, hkl, hd, hd2] <;> omega) | exact hd | exact hd.symm | exact (hs _).symm | exact (hkl _ _).symm | exact hd2 | exact hd2.symm | exact inR_u16 (by omega) (by omega) | exact ⟨hq, by decide⟩ | decide | (refine And.intro ?_ ?_ <;> exact trivial) | exact ⟨trivial, trivial, trivial⟩) ?_ | refine whole_sub ?_
          first | refine hS _ _ _ ?_ | (intro cap23 hcap23; refine hS _ _ _ ?_)
          clear hS
          refine d_readg (b := true) rfl rfl (by decide) rfl rfl (fun _ _ hS => ?_) (fun e => absurd e (by decide))
          repeat refine And.intro (by first | omega | exact trivial | rfl | exact inR_i64.mpr ⟨by omega, by omega⟩ | (simp [hs] <;> omega) | exact hd | exact hd.symm | exact (hs _).symm | exact (hkl _ _).symm | exact hd2 | exact hd2.symm | exact inR_u16 (by omega) (by omega) | exact ⟨hq, by decide⟩ | decide | (refine And.intro ?_ ?_ <;> exact trivial) | exact ⟨trivial, trivial, trivial⟩) ?_
          refine hS _ ?_
          clear hS
          refine d_readg (b := false) rfl rfl (by decide) rfl rfl (fun _ _ hS => ?_) (fun e => absurd e (by decide))
          refine hS _ ?_
          clear hS
          refine d_read rfl rfl (by decide) rfl fun _ hS => ?_
          refine hS _ ?_
          clear hS
          refine d_nil ?_
          refine hK30 _ _ _ ?_
          refine Done_some [] id () trivial ⟨?_, ?_, (by decide : List.Nodup ([] : List Nat)), ?_, ?_, ⟨Nat.zero_le _, fun i hi => absurd hi (Nat.not_lt_zero i)⟩⟩
          · repeat' (first | exact trivial | refine And.intro ?_ ?_ | rfl | omega | decide | (show (_ : Nat) < _; decide))
            all_goals first | (show (_ : Bool) = _; simp; done) | (show (_ : Bool) = _; simp [hb19]; done) | (show (_ : Bool) = _; simp [hb4]; done) | skip
          · repeat' (first | exact trivial | refine And.intro ?_ ?_ | rfl | omega | decide | (show (_ : Nat) < _; decide))
            all_goals first | (show (_ : Bool) = _; simp; done) | (show (_ : Bool) = _; simp [hb19]; done) | (show (_ : Bool) = _; simp [hb4]; done) | skip
          · repeat' (first | exact trivial | refine And.intro ?_ ?_ | rfl | omega | decide | (show (_ : Nat) < _; decide))
          · repeat' (first | exact trivial | refine And.intro ?_ ?_ | rfl | omega | decide | (show (_ : Nat) < _; decide))
        · clear hS
          simp only [decide_eq_false_iff_not] at hb19
          refine d_readg (b := false) rfl rfl (by decide) rfl rfl (fun e => absurd e (by decide)) (fun _ => ?_)
          refine d_readg (b := false) rfl rfl (by decide) rfl rfl (fun e => absurd e (by decide)) (fun _ => ?_)
          refine d_growg (b := false) rfl rfl (by decide) rfl rfl (fun e => absurd e (by decide)) (fun _ => ?_)
          refine d_growg (b := false) rfl rfl (by decide) rfl rfl (fun e => absurd e (by decide)) (fun _ => ?_)
          refine d_readg (b := false) rfl rfl (by decide) rfl rfl (fun e => absurd e (by decide)) (fun _ => ?_)
          refine d_readg (b := false) rfl rfl (by decide) rfl rfl (fun _ _ hS => ?_) (fun e => absurd e (by decide))
          refine hS _ ?_
          clear hS
          refine d_read rfl rfl (by decide) rfl fun _ hS => ?_
          refine hS _ ?_
          clear hS
          refine d_nil ?_
          refine hK30 _ _ _ ?_
          refine Done_some [] id () trivial ⟨?_, ?_, (by decide : List.Nodup ([] : List Nat)), ?_, ?_, ⟨Nat.zero_le _, fun i hi => absurd hi (Nat.not_lt_zero i)⟩⟩
          · repeat' (first | exact trivial | refine And.intro ?_ ?_ | rfl | omega | decide | (show (_ : Nat) < _; decide))
            all_goals first | (show (_ : Bool) = _; simp; done) | (show (_ : Bool) = _; simp [hb19]; done) | (show (_ : Bool) = _; simp [hb4]; done) | skip
          · repeat' (first | exact trivial | refine And.intro ?_ ?_ | rfl | omega | decide | (show (_ : Nat) < _; decide))
            all_goals first | (show (_ : Bool) = _; simp; done) | (show (_ : Bool) = _; simp [hb19]; done) | (show (_ : Bool) = _; simp [hb4]; done) | skip
          · repeat' (first | exact trivial | refine And.intro ?_ ?_ | rfl | omega | decide | (show (_ : Nat) < _; decide))
          · repeat' (first | exact trivial | refine And.intro ?_ ?_ | rfl | omega | decide | (show (_ : Nat) < _; decide))
      · clear hS
        simp only [decide_eq_false_iff_not] at hb5
        refine d_readg (b := false) rfl rfl (by decide) rfl rfl (fun e => absurd e (by decide)) (fun _ => ?_)
        refine d_readg (b := false) rfl rfl (by decide) rfl rfl (fun e => absurd e (by decide)) (fun _ => ?_)
        refine d_readg (b := false) rfl rfl (by decide) rfl rfl (fun e => absurd e (by decide)) (fun _ => ?_)
        refine d_readg (b := false) rfl rfl (by decide) rfl rfl (fun e => absurd e (by decide)) (fun _ => ?_)
        refine d_growg (b := false) rfl rfl (by decide) rfl rfl (fun e => absurd e (by decide)) (fun _ => ?_)
        refine d_growg (b := false) rfl rfl (by decide) rfl rfl (fun e => absurd e (by decide)) (fun _ => ?_)
        refine d_readg (b := false) rfl rfl (by decide) rfl rfl (fun e => absurd e (by decide)) (fun _ => ?_)
        refine d_read rfl rfl (by decide) rfl fun _ hS => ?_
        refine hS _ ?_
        clear hS
        refine d_read rfl rfl (by decide) rfl fun _ hS => ?_
        refine d_split hS (fun hb14 => ?_) (fun hb14 => ?_)
        · exfalso; first | (simp at hb14; done) | (simp [hb5] at hb14; done)
        clear hS
        refine d_readg (b := false) rfl rfl (by decide) rfl rfl (fun _ _ hS => ?_) (fun e => absurd e (by decide))
        refine hS _ ?_
        clear hS
        refine d_readg (b := false) rfl rfl (by decide) rfl rfl (fun _ _ hS => ?_) (fun e => absurd e (by decide))
        repeat refine And.intro (by first | omega | exact trivial | rfl | exact inR_i64.mpr ⟨by omega, by omega⟩ | (simp [hs] <;> omega) | exact hd | exact hd.symm | exact (hs _).symm | exact (hkl _ _).symm | exact hd2 | exact hd2.symm | exact inR_u16 (by omega) (by omega) | exact ⟨hq, by decide⟩ | decide | (refine And.intro ?_ ?_ <;> exact trivial) | exact ⟨trivial, trivial, trivial⟩) ?_
        first | refine hS _ ?_ | (refine ite_yes (by first | omega | exact trivial | rfl | exact inR_i64.mpr ⟨by omega, by omega⟩ | (simp [hs] <;> omega) | exact hd | exact hd.symm | exact (hs _).symm | exact (hkl _ _).symm | exact hd2 | exact hd2.symm | exact inR_u16 (by omega) (by omega) | exact ⟨hq, by decide⟩ | decide | (refine And.intro ?_ ?_ <;> exact trivial) | exact ⟨trivial, trivial, trivial⟩) ?_; refine hS _ ?_)
        clear hS
        refine d_growg (b := false) rfl rfl (by decide) rfl rfl (fun _ _ hS => ?_) (fun e => absurd e (by decide))
        repeat first | refine And.intro (by first | omega | exact trivial | rfl | exact inR_i64.mpr ⟨by omega, by omega⟩ | (simp <;> omega) | exact hd | exact hd.symm | exact (hs _).symm | exact (hkl _ _).symm | exact hd2 | exact hd2.symm | exact inR_u16 (by omega) (by omega) | exact ⟨hq, by decide⟩ | decide | (refine And.intro ?_ ?_ <;> exact trivial) | exact ⟨trivial, trivial, trivial⟩) ?_ | refine whole_yes (by first | omega | exact trivial | rfl | exact inR_i64.mpr ⟨by omega, by omega⟩ | (simp [hs, hkl, hd, hd2] <;> omega) | exact hd | exact hd.symm | exact (hs _).symm | exact (hkl _ _).symm | exact hd2 | exact hd2.symm | exact inR_u16 (by omega) (by omega) | exact ⟨hq, by decide⟩ | decide | (refine And.intro ?_ ?_ <;> exact trivial) | exact ⟨trivial, trivial, trivial⟩) ?_ | refine whole_sub ?_
        first | refine hS _ _ _ ?_ | (intro cap16 hcap16; refine hS _ _ _ ?_)
        clear hS
        refine d_readg (b := false) rfl rfl (by decide) rfl rfl (fun _ _ hS => ?_) (fun e => absurd e (by decide))
        repeat refine And.intro (by first | omega | exact trivial | rfl | exact inR_i64.mpr ⟨by omega, by omega⟩ | (simp [hs] <;> omega) | exact hd | exact hd.symm | exact (hs _).symm | exact (hkl _ _).symm | exact hd2 | exact hd2.symm | exact inR_u16 (by omega) (by omega) | exact ⟨hq, by decide⟩ | decide | (refine And.intro ?_ ?_ <;> exact trivial) | exact ⟨trivial, trivial, trivial⟩) ?_
        refine hS _ ?_
        clear hS
        refine d_readg (b := false) rfl rfl (by decide) rfl rfl (fun _ _ hS => ?_) (fun e => absurd e (by decide))
        refine d_split hS (fun hb19 => ?_) (fun hb19 => ?_)
        · clear hS
          simp only [decide_eq_true_eq] at hb19
          refine d_readg (b := true) rfl rfl (by decide) rfl rfl (fun _ _ hS => ?_) (fun e => absurd e (by decide))
          refine hS _ ?_
          clear hS
          refine d_readg (b := true) rfl rfl (by decide) rfl rfl (fun _ _ hS => ?_) (fun e => absurd e (by decide))
          refine hS _ ?_
          clear hS
          refine d_growg (b := true) rfl rfl (by decide) rfl rfl (fun _ _ hS => ?_) (fun e => absurd e (by decide))
          repeat first | refine And.intro (by first | omega | exact trivial | rfl | exact inR_i64.mpr ⟨by omega, by omega⟩ | (simp <;> omega) | exact hd | exact hd.symm | exact (hs _).symm | exact (hkl _ _).symm | exact hd2 | exact hd2.symm | exact inR_u16 (by omega) (by omega) | exact ⟨hq, by decide⟩ | decide | (refine And.intro ?_ ?_ <;> exact trivial) | exact ⟨trivial, trivial, trivial⟩) ?_ | refine whole_yes (by first | omega | exact trivial | rfl | exact inR_i64.mpr ⟨by omega, by omega⟩ | (simp [hs, hkl, hd, hd2] <;> omega) | exact hd | exact hd.symm | exact (hs _).symm | exact (hkl _ _).symm | exact hd2 | exact hd2.symm | exact inR_u16 (by omega) (by omega) | exact ⟨hq, by decide⟩ | decide | (refine And.intro ?_ ?_ <;> exact trivial) | exact ⟨trivial, trivial, trivial⟩) ?_ | refine whole_sub ?_
          first | refine hS _ _ _ ?_ | (intro cap21 hcap21; refine hS _ _ _ ?_)
          clear hS
          refine d_growg (b := true) rfl rfl (by decide) rfl rfl (fun _ _ hS => ?_) (fun e => absurd e (by decide))
          repeat first | refine And.intro (by first | omega | exact trivial | rfl | exact inR_i64.mpr ⟨by omega, by omega⟩ | (simp [hs, hkl, hd, hd2] <;> omega) | exact hd | exact hd.symm | exact (hs _).symm | exact (hkl _ _).symm | exact hd2 | exact hd2.symm | exact inR_u16 (by omega) (by omega) | exact ⟨hq, by decide⟩ | decide | (refine And.intro ?_ ?_ <;> exact trivial) | exact ⟨trivial, trivial, trivial⟩) ?_ | refine whole_yes (by first | omega | exact trivial | rfl | exact inR_i64.mpr ⟨by omega, by omega⟩ | (simp [hs, hkl, hd, hd2] <;> omega) | exact hd | exact hd.symm | exact (hs _).symm | exact (hkl _ _).symm | exact hd2 | exact hd2.symm | exact inR_u16 (by omega) (by omega) | exact ⟨hq, by decide⟩ | decide | (refine And.intro ?_ ?_ <;> exact trivial) | exact ⟨trivial, trivial, trivial⟩) ?_ | refine whole_sub ?_
          first | refine hS _ _ _ ?_ | (intro cap23 hcap23; refine hS _ _ _ ?_)
          clear hS
          refine d_readg (b := true) rfl rfl (by decide) rfl rfl (fun _ _ hS => ?_) (fun e => absurd e (by decide))
          repeat refine And.intro (by first | omega | exact trivial | rfl | exact inR_i64.mpr ⟨by omega, by omega⟩ | (simp [hs] <;> omega) | exact hd | exact hd.symm | exact (hs _).symm | exact (hkl _ _).symm | exact hd2 | exact hd2.symm | exact inR_u16 (by omega) (by omega) | exact ⟨hq, by decide⟩ | decide | (refine And.intro ?_ ?_ <;> exact trivial) | exact ⟨trivial, trivial, trivial⟩) ?_
          refine hS _ ?_
          clear hS
          refine d_readg (b := false) rfl rfl (by decide) rfl rfl (fun _ _ hS => ?_) (fun e => absurd e (by decide))
          refine hS _ ?_
          clear hS
          refine d_read rfl rfl (by decide) rfl fun _ hS => ?_
          refine hS _ ?_
          clear hS
          refine d_nil ?_
          refine hK30 _ _ _ ?_
          refine Done_some [] id () trivial ⟨?_, ?_, (by decide : List.Nodup ([] : List Nat)), ?_, ?_, ⟨Nat.zero_le _, fun i hi => absurd hi (Nat.not_lt_zero i)⟩⟩
          · repeat' (first | exact trivial | refine And.intro ?_ ?_ | rfl | omega | decide | (show (_ : Nat) < _; decide))
            all_goals first | (show (_ : Bool) = _; simp; done) | (show (_ : Bool) = _; simp [hb19]; done) | (show (_ : Bool) = _; simp [hb4]; done) | skip
          · repeat' (first | exact trivial | refine And.intro ?_ ?_ | rfl | omega | decide | (show (_ : Nat) < _; decide))
            all_goals first | (show (_ : Bool) = _; simp; done) | (show (_ : Bool) = _; simp [hb19]; done) | (show (_ : Bool) = _; simp [hb4]; done) | skip
          · repeat' (first | exact trivial | refine And.intro ?_ ?_ | rfl | omega | decide | (show (_ : Nat) < _; decide))
          · repeat' (first | exact trivial | refine And.intro ?_ ?_ | rfl | omega | decide | (show (_ : Nat) < _; decide))
        · clear hS
          simp only [decide_eq_false_iff_not] at hb19
          refine d_readg (b := false) rfl rfl (by decide) rfl rfl (fun e => absurd e (by decide)) (fun _ => ?_)
          refine d_readg (b := false) rfl rfl (by decide) rfl rfl (fun e => absurd e (by decide)) (fun _ => ?_)
          refine d_growg (b := false) rfl rfl (by decide) rfl rfl (fun e => absurd e (by decide)) (fun _ => ?_)
          refine d_growg (b := false) rfl rfl (by decide) rfl rfl (fun e => absurd e (by decide)) (fun _ => ?_)
          refine d_readg (b := false) rfl rfl (by decide) rfl rfl (fun e => absurd e (by decide)) (fun _ => ?_)
          refine d_readg (b := false) rfl rfl (by decide) rfl rfl (fun _ _ hS => ?_) (fun e => absurd e (by decide))
          refine hS _ ?_
          clear hS
          refine d_read rfl rfl (by decide) rfl fun _ hS => ?_
          refine hS _ ?_
          clear hS
          refine d_nil ?_
          refine hK30 _ _ _ ?_
          refine Done_some [] id () trivial ⟨?_, ?_, (by decide : List.Nodup ([] : List Nat)), ?_, ?_, ⟨Nat.zero_le _, fun i hi => absurd hi (Nat.not_lt_zero i)⟩⟩
          · repeat' (first | exact trivial | refine And.intro ?_ ?_ | rfl | omega | decide | (show (_ : Nat) < _; decide))
            all_goals first | (show (_ : Bool) = _; simp; done) | (show (_ : Bool) = _; simp [hb19]; done) | (show (_ : Bool) = _; simp [hb4]; done) | skip
          · repeat' (first | exact trivial | refine And.intro ?_ ?_ | rfl | omega | decide | (show (_ : Nat) < _; decide))
            all_goals first | (show (_ : Bool) = _; simp; done) | (show (_ : Bool) = _; simp [hb19]; done) | (show (_ : Bool) = _; simp [hb4]; done) | skip
          · repeat' (first | exact trivial | refine And.intro ?_ ?_ | rfl | omega | decide | (show (_ : Nat) < _; decide))
          · repeat' (first | exact trivial | refine And.intro ?_ ?_ | rfl | omega | decide | (show (_ : Nat) < _; decide))
    · intro _ _
      refine WP_cond (b := _) rfl (fun h_t73 => ?_) (fun _ => ?_)
      · exfalso; cases h_t73
      refine WP_skip ?_
      refine hK29 _ _ _ ?_
      refine seq_k fun _ hK31 => ?_
      refine seq_k fun _ hK32 => ?_
      refine region_k (gh_ok h27) fun _ hK33 => ?_
      refine s_step rfl (by decide) rfl fun _ hS => ?_
      refine hS _ _ _ ?_
      clear hS
      refine s_step rfl (by decide) rfl fun _ hS => ?_
      repeat refine And.intro (by first | omega | exact trivial | rfl | exact inR_i64.mpr ⟨by omega, by omega⟩ | (simp [hs, hkl, hd] <;> omega) | exact hd | exact hd.symm | exact (hs _).symm | exact (hkl _ _).symm | exact inR_u16 (by omega) (by omega) | exact ⟨hq, by decide⟩ | decide | (refine And.intro ?_ ?_ <;> exact trivial) | exact ⟨trivial, trivial, trivial⟩) ?_
      refine hS _ _ _ ?_
      clear hS
      refine s_step rfl (by decide) rfl fun _ hS => ?_
      repeat refine And.intro (by first | omega | exact trivial | rfl | exact inR_i64.mpr ⟨by omega, by omega⟩ | (simp [hs, hkl, hd] <;> omega) | exact hd | exact hd.symm | exact (hs _).symm | exact (hkl _ _).symm | exact inR_u16 (by omega) (by omega) | exact ⟨hq, by decide⟩ | decide | (refine And.intro ?_ ?_ <;> exact trivial) | exact ⟨trivial, trivial, trivial⟩) ?_
      refine hS _ _ _ ?_
      clear hS
      refine s_nil ?_
      refine hK33 _ _ _ ?_
      refine hK32 _ _ _ ?_
      refine WP_cond (b := _) rfl (fun h_t76 => ?_) (fun h_t76 => ?_)
      · try simp only [decide_eq_true_eq] at h_t76
        refine seq_k fun _ hK34 => ?_
        refine region_k (gh_ok h27) fun _ hK35 => ?_
        refine s_step rfl (by decide) rfl fun _ hS => ?_
        refine hS _ _ _ ?_
        clear hS
        refine s_step rfl (by decide) rfl fun _ hS => ?_
        refine hS _ _ _ ?_
        clear hS
        refine s_nil ?_
        refine hK35 _ _ _ ?_
        refine hK34 _ _ _ ?_
        refine WP_ret (Done_flat (gh_ok h27) (fun _ _ h => h) (by first | rfl | assumption) [.tmp 6] rfl ?_)
        repeat refine And.intro (by first | omega | exact trivial | rfl | (simp <;> omega)) ?_
        try refine ite_yes (by first | omega | exact trivial | rfl | (simp <;> omega)) ?_
        show _ = _
        rfl
      · try simp only [decide_eq_false_iff_not] at h_t76
        refine WP_skip ?_
        refine hK31 _ _ _ ?_
        refine seq_k fun _ hK36 => ?_
        refine region_k (gh_ok h27) fun _ hK37 => ?_
        refine s_step rfl (by decide) rfl fun _ hS => ?_
        repeat refine And.intro (by first | omega | exact trivial | rfl | exact inR_i64.mpr ⟨by omega, by omega⟩ | (simp [hs, hkl, hd] <;> omega) | exact hd | exact hd.symm | exact (hs _).symm | exact (hkl _ _).symm | exact inR_u16 (by omega) (by omega) | exact ⟨hq, by decide⟩ | decide | (refine And.intro ?_ ?_ <;> exact trivial) | exact ⟨trivial, trivial, trivial⟩) ?_
        refine hS _ _ _ ?_
        clear hS
        refine s_step rfl (by decide) rfl fun _ hS => ?_
        refine hS _ _ _ ?_
        clear hS
        refine s_step rfl (by decide) rfl fun _ hS => ?_
        repeat first | refine And.intro (by first | omega | exact trivial | rfl | exact inR_i64.mpr ⟨by omega, by omega⟩ | (simp <;> omega) | exact hd | exact hd.symm | exact (hs _).symm | exact (hkl _ _).symm | exact inR_u16 (by omega) (by omega) | exact ⟨hq, by decide⟩ | decide | (refine And.intro ?_ ?_ <;> exact trivial) | exact ⟨trivial, trivial, trivial⟩) ?_ | refine whole_yes (by first | omega | exact trivial | rfl | exact inR_i64.mpr ⟨by omega, by omega⟩ | (simp [hs, hkl, hd] <;> omega) | exact hd | exact hd.symm | exact (hs _).symm | exact (hkl _ _).symm | exact inR_u16 (by omega) (by omega) | exact ⟨hq, by decide⟩ | decide | (refine And.intro ?_ ?_ <;> exact trivial) | exact ⟨trivial, trivial, trivial⟩) ?_ | refine whole_sub ?_
        intro cap2 hcap2; refine hS _ _ _ ?_
        clear hS
        refine s_step rfl (by decide) rfl fun _ hS => ?_
        refine hS _ _ _ ?_
        clear hS
        refine s_nil ?_
        refine hK37 _ _ _ ?_
        refine hK36 _ _ _ ?_
        refine seq_k fun _ hK38 => ?_
        have hpos : 0 < l.length := by first | omega | (simp at h_t76; omega)
        have hm1 : 0 ≤ k % (l.length : Int) := Int.emod_nonneg _ (by omega)
        have hm2 : k % (l.length : Int) < l.length := Int.emod_lt_of_pos _ (by omega)
        refine tail_k (gh_ok h27) 21 (by kernel_rfl) fun _ hK39 => ?_
        simp only [List.take_succ_cons, List.take_zero, List.drop_succ_cons, List.drop_zero]
        refine q_step rfl (by decide) rfl fun _ hS => ?_
        refine hS _ ?_
        clear hS
        refine q_step rfl (by decide) rfl fun _ hS => ?_
        refine hS _ ?_
        clear hS
        refine q_step rfl (by decide) rfl fun _ hS => ?_
        repeat first | refine And.intro (by first | omega | exact trivial | rfl | exact inR_i64.mpr ⟨by omega, by omega⟩ | (simp [hs, hkl, hd] <;> omega) | exact hd | exact hd.symm | exact (hs _).symm | exact (hkl _ _).symm | exact inR_u16 (by omega) (by omega) | exact ⟨hq, by decide⟩ | decide | (refine And.intro ?_ ?_ <;> exact trivial) | exact ⟨trivial, trivial, trivial⟩) ?_ | refine whole_yes (by first | omega | exact trivial | rfl | exact inR_i64.mpr ⟨by omega, by omega⟩ | (simp [hs, hkl, hd] <;> omega) | exact hd | exact hd.symm | exact (hs _).symm | exact (hkl _ _).symm | exact inR_u16 (by omega) (by omega) | exact ⟨hq, by decide⟩ | decide | (refine And.intro ?_ ?_ <;> exact trivial) | exact ⟨trivial, trivial, trivial⟩) ?_ | refine whole_sub ?_
        refine hS _ ?_
        clear hS
        refine q_step rfl (by decide) rfl fun _ hS => ?_
        refine hS _ ?_
        clear hS
        refine q_step rfl (by decide) rfl fun _ hS => ?_
        repeat refine And.intro (by first | omega | exact trivial | rfl | exact inR_i64.mpr ⟨by omega, by omega⟩ | (simp [hs, hkl, hd] <;> omega) | exact hd | exact hd.symm | exact (hs _).symm | exact (hkl _ _).symm | exact inR_u16 (by omega) (by omega) | exact ⟨hq, by decide⟩ | decide | (refine And.intro ?_ ?_ <;> exact trivial) | exact ⟨trivial, trivial, trivial⟩) ?_
        refine hS _ ?_
        clear hS
        refine q_step rfl (by decide) rfl fun _ hS => ?_
        repeat refine And.intro (by first | omega | exact trivial | rfl | exact inR_i64.mpr ⟨by omega, by omega⟩ | (simp [hs, hkl, hd] <;> omega) | exact hd | exact hd.symm | exact (hs _).symm | exact (hkl _ _).symm | exact inR_u16 (by omega) (by omega) | exact ⟨hq, by decide⟩ | decide | (refine And.intro ?_ ?_ <;> exact trivial) | exact ⟨trivial, trivial, trivial⟩) ?_
        refine hS _ ?_
        clear hS
        refine q_step rfl (by decide) rfl fun _ hS => ?_
        refine hS _ ?_
        clear hS
        refine q_step rfl (by decide) rfl fun _ hS => ?_
        refine hS _ ?_
        clear hS
        refine q_step rfl (by decide) rfl fun _ hS => ?_
        repeat first | refine And.intro (by first | omega | exact trivial | rfl | exact inR_i64.mpr ⟨by omega, by omega⟩ | (simp [hs, hkl, hd] <;> omega) | exact hd | exact hd.symm | exact (hs _).symm | exact (hkl _ _).symm | exact inR_u16 (by omega) (by omega) | exact ⟨hq, by decide⟩ | decide | (refine And.intro ?_ ?_ <;> exact trivial) | exact ⟨trivial, trivial, trivial⟩) ?_ | refine whole_yes (by first | omega | exact trivial | rfl | exact inR_i64.mpr ⟨by omega, by omega⟩ | (simp [hs, hkl, hd] <;> omega) | exact hd | exact hd.symm | exact (hs _).symm | exact (hkl _ _).symm | exact inR_u16 (by omega) (by omega) | exact ⟨hq, by decide⟩ | decide | (refine And.intro ?_ ?_ <;> exact trivial) | exact ⟨trivial, trivial, trivial⟩) ?_ | refine whole_sub ?_
        refine hS _ ?_
        clear hS
        refine q_step rfl (by decide) rfl fun _ hS => ?_
        refine hS _ ?_
        clear hS
        refine q_step rfl (by decide) rfl fun _ hS => ?_
        repeat refine And.intro (by first | omega | exact trivial | rfl | exact inR_i64.mpr ⟨by omega, by omega⟩ | (simp [hs, hkl, hd] <;> omega) | exact hd | exact hd.symm | exact (hs _).symm | exact (hkl _ _).symm | exact inR_u16 (by omega) (by omega) | exact ⟨hq, by decide⟩ | decide | (refine And.intro ?_ ?_ <;> exact trivial) | exact ⟨trivial, trivial, trivial⟩) ?_
        refine hS _ ?_
        clear hS
        refine q_step rfl (by decide) rfl fun _ hS => ?_
        repeat refine And.intro (by first | omega | exact trivial | rfl | exact inR_i64.mpr ⟨by omega, by omega⟩ | (simp [hs, hkl, hd] <;> omega) | exact hd | exact hd.symm | exact (hs _).symm | exact (hkl _ _).symm | exact inR_u16 (by omega) (by omega) | exact ⟨hq, by decide⟩ | decide | (refine And.intro ?_ ?_ <;> exact trivial) | exact ⟨trivial, trivial, trivial⟩) ?_
        refine hS _ ?_
        clear hS
        refine q_step rfl (by decide) rfl fun _ hS => ?_
        repeat refine And.intro (by first | omega | exact trivial | rfl | exact inR_i64.mpr ⟨by omega, by omega⟩ | (simp <;> omega) | exact hd | exact hd.symm | exact (hs _).symm | exact (hkl _ _).symm | exact inR_u16 (by omega) (by omega) | exact ⟨hq, by decide⟩ | decide | (refine And.intro ?_ ?_ <;> exact trivial) | exact ⟨trivial, trivial, trivial⟩) ?_
        refine hS _ ?_
        clear hS
        refine q_step rfl (by decide) rfl fun _ hS => ?_
        repeat refine And.intro (by first | omega | exact trivial | rfl | exact inR_i64.mpr ⟨by omega, by omega⟩ | (simp <;> omega) | exact hd | exact hd.symm | exact (hs _).symm | exact (hkl _ _).symm | exact inR_u16 (by omega) (by omega) | exact ⟨hq, by decide⟩ | decide | (refine And.intro ?_ ?_ <;> exact trivial) | exact ⟨trivial, trivial, trivial⟩) ?_
        first | refine hS _ ?_ | (refine ite_yes (by first | omega | exact trivial | rfl | exact inR_i64.mpr ⟨by omega, by omega⟩ | (simp [hs, hkl, hd] <;> omega) | exact hd | exact hd.symm | exact (hs _).symm | exact (hkl _ _).symm | exact inR_u16 (by omega) (by omega) | exact ⟨hq, by decide⟩ | decide | (refine And.intro ?_ ?_ <;> exact trivial) | exact ⟨trivial, trivial, trivial⟩) ?_; refine hS _ ?_)
        clear hS
        refine q_step rfl (by decide) rfl fun _ hS => ?_
        refine hS _ ?_
        clear hS
        refine q_step rfl (by decide) rfl fun _ hS => ?_
        repeat refine And.intro (by first | omega | exact trivial | rfl | exact inR_i64.mpr ⟨by omega, by omega⟩ | (simp <;> omega) | exact hd | exact hd.symm | exact (hs _).symm | exact (hkl _ _).symm | exact inR_u16 (by omega) (by omega) | exact ⟨hq, by decide⟩ | decide | (refine And.intro ?_ ?_ <;> exact trivial) | exact ⟨trivial, trivial, trivial⟩) ?_
        refine hS _ ?_
        clear hS
        refine q_step rfl (by decide) rfl fun _ hS => ?_
        repeat refine And.intro (by first | omega | exact trivial | rfl | exact inR_i64.mpr ⟨by omega, by omega⟩ | (simp <;> omega) | exact hd | exact hd.symm | exact (hs _).symm | exact (hkl _ _).symm | exact inR_u16 (by omega) (by omega) | exact ⟨hq, by decide⟩ | decide | (refine And.intro ?_ ?_ <;> exact trivial) | exact ⟨trivial, trivial, trivial⟩) ?_
        refine hS _ ?_
        clear hS
        refine q_step rfl (by decide) rfl fun _ hS => ?_
        repeat refine And.intro (by first | omega | exact trivial | rfl | exact inR_i64.mpr ⟨by omega, by omega⟩ | (simp <;> omega) | exact hd | exact hd.symm | exact (hs _).symm | exact (hkl _ _).symm | exact inR_u16 (by omega) (by omega) | exact ⟨hq, by decide⟩ | decide | (refine And.intro ?_ ?_ <;> exact trivial) | exact ⟨trivial, trivial, trivial⟩) ?_
        refine hS _ ?_
        clear hS
        refine q_step rfl (by decide) rfl fun _ hS => ?_
        repeat first | refine And.intro (by first | omega | exact trivial | rfl | exact inR_i64.mpr ⟨by omega, by omega⟩ | (simp [hs, hkl, hd] <;> omega) | exact hd | exact hd.symm | exact (hs _).symm | exact (hkl _ _).symm | exact inR_u16 (by omega) (by omega) | exact ⟨hq, by decide⟩ | decide | (refine And.intro ?_ ?_ <;> exact trivial) | exact ⟨trivial, trivial, trivial⟩) ?_ | refine whole_yes (by first | omega | exact trivial | rfl | exact inR_i64.mpr ⟨by omega, by omega⟩ | (simp [hs, hkl, hd] <;> omega) | exact hd | exact hd.symm | exact (hs _).symm | exact (hkl _ _).symm | exact inR_u16 (by omega) (by omega) | exact ⟨hq, by decide⟩ | decide | (refine And.intro ?_ ?_ <;> exact trivial) | exact ⟨trivial, trivial, trivial⟩) ?_ | refine whole_sub ?_
        refine hS _ ?_
        clear hS
        refine q_step rfl (by decide) rfl fun _ hS => ?_
        repeat refine And.intro (by first | omega | exact trivial | rfl | exact inR_i64.mpr ⟨by omega, by omega⟩ | (simp [hs, hkl, hd] <;> omega) | exact hd | exact hd.symm | exact (hs _).symm | exact (hkl _ _).symm | exact inR_u16 (by omega) (by omega) | exact ⟨hq, by decide⟩ | decide | (refine And.intro ?_ ?_ <;> exact trivial) | exact ⟨trivial, trivial, trivial⟩) ?_
        refine hS _ ?_
        clear hS
        refine q_step rfl (by decide) rfl fun _ hS => ?_
        repeat refine And.intro (by first | omega | exact trivial | rfl | exact inR_i64.mpr ⟨by omega, by omega⟩ | (simp <;> omega) | exact hd | exact hd.symm | exact (hs _).symm | exact (hkl _ _).symm | exact inR_u16 (by omega) (by omega) | exact ⟨hq, by decide⟩ | decide | (refine And.intro ?_ ?_ <;> exact trivial) | exact ⟨trivial, trivial, trivial⟩) ?_
        refine hS _ ?_
        clear hS
        refine q_nil ?_
        refine s_step0 rfl rfl fun _ hS => ?_
        repeat refine And.intro (by first | omega | exact trivial | rfl | exact inR_i64.mpr ⟨by omega, by omega⟩ | (simp <;> omega) | exact hd | exact hd.symm | exact (hs _).symm | exact (hkl _ _).symm | exact inR_u16 (by omega) (by omega) | exact ⟨hq, by decide⟩ | decide | (refine And.intro ?_ ?_ <;> exact trivial) | exact ⟨trivial, trivial, trivial⟩) ?_
        first | refine hS _ _ _ ?_ | (refine splice_full (by first | omega | exact trivial | rfl | exact inR_i64.mpr ⟨by omega, by omega⟩ | (simp [hs, hkl, hd] <;> omega) | exact hd | exact hd.symm | exact (hs _).symm | exact (hkl _ _).symm | exact inR_u16 (by omega) (by omega) | exact ⟨hq, by decide⟩ | decide | (refine And.intro ?_ ?_ <;> exact trivial) | exact ⟨trivial, trivial, trivial⟩) ?_; refine hS _ _ _ ?_)
        clear hS
        refine s_nil ?_
        refine hK39 _ _ _ ?_
        obtain ⟨l2, hl2e⟩ : ∃ l2, l2 = l.set (k % (l.length : Int)).toNat (chg k (l.getD (k % (l.length : Int)).toNat 0)) := ⟨_, rfl⟩
        have hl2 : l2.length = l.length := by rw [hl2e]; simp
        refine hK38 _ _ _ ?_
        refine WP_cut (α := Unit) (fun _ => [(2, .c (.int .u16 k)), (4, .c (.dp (.u8s d) 0)), (7, .c (.bool true)), (8, .c (.ds l.length (.u8s l))), (9, .c (.dp (.u8s (Sha.sum l)) 0)), (10, .c (.dp (.u8s (keyed d l)) 0)), (13, .c (.ds l2.length (.u8s l2))), (14, .c (.bool true))]) (fun _ => []) 12 (fun _ => True) ?_ ?_
        · skip
          refine WP_le (is := [11]) (ρ := id) (E' := [(2, .c (.int .u16 k)), (4, .c (.dp (.u8s d) 0)), (7, .c (.bool true)), (8, .c (.ds l.length (.u8s l))), (9, .c (.dp (.u8s (Sha.sum l)) 0)), (10, .c (.dp (.u8s (keyed d l)) 0)), (13, .c (.ds l2.length (.u8s l2)))]) (H' := []) (n' := 12) ⟨?_, ?_, (by decide : List.Nodup ([] : List Nat)), ?_, ?_, ⟨Nat.zero_le _, fun i hi => absurd hi (Nat.not_lt_zero i)⟩⟩ ?_
          · repeat' (first | (rw [hl2e]; simp [chg]; done) | exact trivial | refine And.intro ?_ ?_ | rfl | omega | decide | (show (_ : Nat) < _; decide))
            all_goals first | exact hd2 | (simp [hd]; done) | (simp [Cont.sub, Cont.take, Cont.drop, hs, hkl, hd, hd2, hl2] <;> omega) | skip
          · repeat' (first | exact trivial | refine And.intro ?_ ?_ | rfl | omega | decide | (show (_ : Nat) < _; decide))
            all_goals first | exact hd2 | (simp [hd]; done) | (simp [Cont.sub, Cont.take, Cont.drop, hs, hkl, hd, hd2, hl2] <;> omega) | skip
          · repeat' (first | exact trivial | refine And.intro ?_ ?_ | rfl | omega | decide | (show (_ : Nat) < _; decide))
          · repeat' (first | exact trivial | refine And.intro ?_ ?_ | rfl | omega | decide | (show (_ : Nat) < _; decide))
          refine sched_k (gh_ok h27) [(0, true), (2, true), (1, false), (3, true), (4, true), (5, true), (7, true), (6, false), (8, false), (9, true), (10, true), (11, true)] rfl (by kernel_rfl) (by kernel_rfl) fun _ hK40 => ?_
          refine d_read rfl rfl (by decide) rfl fun _ hS => ?_
          refine hS _ ?_
          clear hS
          refine d_read rfl rfl (by decide) rfl fun _ hS => ?_
          repeat refine And.intro (by first | omega | exact trivial | rfl | exact inR_i64.mpr ⟨by omega, by omega⟩ | (simp [hs] <;> omega) | exact hd | exact hd.symm | exact (hs _).symm | exact (hkl _ _).symm | exact inR_u16 (by omega) (by omega) | exact ⟨hq, by decide⟩ | decide | (refine And.intro ?_ ?_ <;> exact trivial) | exact ⟨trivial, trivial, trivial⟩) ?_
          first | refine hS _ ?_ | (refine ite_yes (by first | omega | exact trivial | rfl | exact inR_i64.mpr ⟨by omega, by omega⟩ | (simp [hs] <;> omega) | exact hd | exact hd.symm | exact (hs _).symm | exact (hkl _ _).symm | exact inR_u16 (by omega) (by omega) | exact ⟨hq, by decide⟩ | decide | (refine And.intro ?_ ?_ <;> exact trivial) | exact ⟨trivial, trivial, trivial⟩) ?_; refine hS _ ?_)
          clear hS
          refine d_grow rfl rfl (by decide) rfl fun _ hS => ?_
          repeat first | refine And.intro (by first | omega | exact trivial | rfl | exact inR_i64.mpr ⟨by omega, by omega⟩ | (simp [hs, hkl, hd, hl2] <;> omega) | exact hd | exact hd.symm | exact (hs _).symm | exact (hkl _ _).symm | exact inR_u16 (by omega) (by omega) | exact ⟨hq, by decide⟩ | decide | (refine And.intro ?_ ?_ <;> exact trivial) | exact ⟨trivial, trivial, trivial⟩) ?_ | refine whole_yes (by first | omega | exact trivial | rfl | exact inR_i64.mpr ⟨by omega, by omega⟩ | (simp [hs, hkl, hd, hl2] <;> omega) | exact hd | exact hd.symm | exact (hs _).symm | exact (hkl _ _).symm | exact inR_u16 (by omega) (by omega) | exact ⟨hq, by decide⟩ | decide | (refine And.intro ?_ ?_ <;> exact trivial) | exact ⟨trivial, trivial, trivial⟩) ?_ | refine whole_sub ?_
          first | refine hS _ _ _ ?_ | (intro cap1 hcap1; refine hS _ _ _ ?_)
          clear hS
          refine d_read rfl rfl (by decide) rfl fun _ hS => ?_
          repeat refine And.intro (by first | omega | exact trivial | rfl | exact inR_i64.mpr ⟨by omega, by omega⟩ | (simp [hs] <;> omega) | exact hd | exact hd.symm | exact (hs _).symm | exact (hkl _ _).symm | exact inR_u16 (by omega) (by omega) | exact ⟨hq, by decide⟩ | decide | (refine And.intro ?_ ?_ <;> exact trivial) | exact ⟨trivial, trivial, trivial⟩) ?_
          refine hS _ ?_
          clear hS
          refine d_read rfl rfl (by decide) rfl fun _ hS => ?_
          refine d_split hS (fun hb4 => ?_) (fun hb4 => ?_)
          · clear hS
            simp only [decide_eq_false_iff_not, Bool.not_eq_eq_eq_not, Bool.not_true] at hb4
            refine d_readg (b := true) rfl rfl (by decide) rfl rfl (fun e => absurd e (by decide)) (fun _ => ?_)
            refine d_readg (b := true) rfl rfl (by decide) rfl rfl (fun e => absurd e (by decide)) (fun _ => ?_)
            refine d_growg (b := true) rfl rfl (by decide) rfl rfl (fun e => absurd e (by decide)) (fun _ => ?_)
            refine d_growg (b := true) rfl rfl (by decide) rfl rfl (fun e => absurd e (by decide)) (fun _ => ?_)
            refine d_readg (b := true) rfl rfl (by decide) rfl rfl (fun e => absurd e (by decide)) (fun _ => ?_)
            refine d_read rfl rfl (by decide) rfl fun _ hS => ?_
            refine hS _ ?_
            clear hS
            refine d_read rfl rfl (by decide) rfl fun _ hS => ?_
            refine hS _ ?_
            clear hS
            refine d_nil ?_
            refine hK40 _ _ _ ?_
            refine Done_some [] id () trivial ⟨?_, ?_, (by decide : List.Nodup ([] : List Nat)), ?_, ?_, ⟨Nat.zero_le _, fun i hi => absurd hi (Nat.not_lt_zero i)⟩⟩
            · repeat' (first | exact trivial | refine And.intro ?_ ?_ | rfl | omega | decide | (show (_ : Nat) < _; decide))
              all_goals first | (show (_ : Bool) = _; simp; done) | (show (_ : Bool) = _; simp [hb19]; done) | (show (_ : Bool) = _; simp [hb4]; done) | skip
            · repeat' (first | exact trivial | refine And.intro ?_ ?_ | rfl | omega | decide | (show (_ : Nat) < _; decide))
              all_goals first | (show (_ : Bool) = _; simp; done) | (show (_ : Bool) = _; simp [hb19]; done) | (show (_ : Bool) = _; simp [hb4]; done) | skip
            · repeat' (first | exact trivial | refine And.intro ?_ ?_ | rfl | omega | decide | (show (_ : Nat) < _; decide))
            · repeat' (first | exact trivial | refine And.intro ?_ ?_ | rfl | omega | decide | (show (_ : Nat) < _; decide))
          · clear hS
            simp only [decide_eq_true_eq, Bool.not_eq_eq_eq_not, Bool.not_false] at hb4
            refine d_readg (b := false) rfl rfl (by decide) rfl rfl (fun _ _ hS => ?_) (fun e => absurd e (by decide))
            refine hS _ ?_
            clear hS
            refine d_readg (b := false) rfl rfl (by decide) rfl rfl (fun _ _ hS => ?_) (fun e => absurd e (by decide))
            refine hS _ ?_
            clear hS
            refine d_growg (b := false) rfl rfl (by decide) rfl rfl (fun _ _ hS => ?_) (fun e => absurd e (by decide))
            repeat first | refine And.intro (by first | omega | exact trivial | rfl | exact inR_i64.mpr ⟨by omega, by omega⟩ | (simp [hs, hkl, hd, hl2] <;> omega) | exact hd | exact hd.symm | exact (hs _).symm | exact (hkl _ _).symm | exact inR_u16 (by omega) (by omega) | exact ⟨hq, by decide⟩ | decide | (refine And.intro ?_ ?_ <;> exact trivial) | exact ⟨trivial, trivial, trivial⟩) ?_ | refine whole_yes (by first | omega | exact trivial | rfl | exact inR_i64.mpr ⟨by omega, by omega⟩ | (simp [hs, hkl, hd, hl2] <;> omega) | exact hd | exact hd.symm | exact (hs _).symm | exact (hkl _ _).symm | exact inR_u16 (by omega) (by omega) | exact ⟨hq, by decide⟩ | decide | (refine And.intro ?_ ?_ <;> exact trivial) | exact ⟨trivial, trivial, trivial⟩) ?_ | refine whole_sub ?_
            first | refine hS _ _ _ ?_ | (intro cap6 hcap6; refine hS _ _ _ ?_)
            clear hS
            refine d_growg (b := false) rfl rfl (by decide) rfl rfl (fun _ _ hS => ?_) (fun e => absurd e (by decide))
            repeat first | refine And.intro (by first | omega | exact trivial | rfl | exact inR_i64.mpr ⟨by omega, by omega⟩ | (simp [hs, hkl, hd, hl2] <;> omega) | exact hd | exact hd.symm | exact (hs _).symm | exact (hkl _ _).symm | exact inR_u16 (by omega) (by omega) | exact ⟨hq, by decide⟩ | decide | (refine And.intro ?_ ?_ <;> exact trivial) | exact ⟨trivial, trivial, trivial⟩) ?_ | refine whole_yes (by first | omega | exact trivial | rfl | exact inR_i64.mpr ⟨by omega, by omega⟩ | (simp [hs, hkl, hd, hl2] <;> omega) | exact hd | exact hd.symm | exact (hs _).symm | exact (hkl _ _).symm | exact inR_u16 (by omega) (by omega) | exact ⟨hq, by decide⟩ | decide | (refine And.intro ?_ ?_ <;> exact trivial) | exact ⟨trivial, trivial, trivial⟩) ?_ | refine whole_sub ?_
            first | refine hS _ _ _ ?_ | (intro cap8 hcap8; refine hS _ _ _ ?_)
            clear hS
            refine d_readg (b := false) rfl rfl (by decide) rfl rfl (fun _ _ hS => ?_) (fun e => absurd e (by decide))
            repeat refine And.intro (by first | omega | exact trivial | rfl | exact inR_i64.mpr ⟨by omega, by omega⟩ | (simp [hs] <;> omega) | exact hd | exact hd.symm | exact (hs _).symm | exact (hkl _ _).symm | exact inR_u16 (by omega) (by omega) | exact ⟨hq, by decide⟩ | decide | (refine And.intro ?_ ?_ <;> exact trivial) | exact ⟨trivial, trivial, trivial⟩) ?_
            refine hS _ ?_
            clear hS
            refine d_read rfl rfl (by decide) rfl fun _ hS => ?_
            refine hS _ ?_
            clear hS
            refine d_read rfl rfl (by decide) rfl fun _ hS => ?_
            refine hS _ ?_
            clear hS
            refine d_nil ?_
            refine hK40 _ _ _ ?_
            refine Done_some [] id () trivial ⟨?_, ?_, (by decide : List.Nodup ([] : List Nat)), ?_, ?_, ⟨Nat.zero_le _, fun i hi => absurd hi (Nat.not_lt_zero i)⟩⟩
            · repeat' (first | exact trivial | refine And.intro ?_ ?_ | rfl | omega | decide | (show (_ : Nat) < _; decide))
              all_goals first | (show (_ : Bool) = _; simp; done) | (show (_ : Bool) = _; simp [hb19]; done) | (show (_ : Bool) = _; simp [hb4]; done) | skip
            · repeat' (first | exact trivial | refine And.intro ?_ ?_ | rfl | omega | decide | (show (_ : Nat) < _; decide))
              all_goals first | (show (_ : Bool) = _; simp; done) | (show (_ : Bool) = _; simp [hb19]; done) | (show (_ : Bool) = _; simp [hb4]; done) | skip
            · repeat' (first | exact trivial | refine And.intro ?_ ?_ | rfl | omega | decide | (show (_ : Nat) < _; decide))
            · repeat' (first | exact trivial | refine And.intro ?_ ?_ | rfl | omega | decide | (show (_ : Nat) < _; decide))
        · intro _ _
          refine seq_k fun _ hK41 => ?_
          refine sched_k (gh_ok h27) [(0, true), (1, true), (2, true), (3, true), (5, true), (4, false), (6, true), (7, true), (8, true), (9, true), (11, true), (12, true), (10, false), (13, false), (14, true), (15, true), (16, true), (17, true), (18, true), (19, true), (20, true)] rfl (by kernel_rfl) (by kernel_rfl) fun _ hK42 => ?_
          refine d_read rfl rfl (by decide) rfl fun _ hS => ?_
          refine hS _ ?_
          clear hS
          refine d_read rfl rfl (by decide) rfl fun _ hS => ?_
          refine d_split hS (fun hb1 => ?_) (fun hb1 => ?_)
          rotate_left 1
          · exfalso; cases hb1
          clear hS
          refine d_readg (b := true) rfl rfl (by decide) rfl rfl (fun _ _ hS => ?_) (fun e => absurd e (by decide))
          repeat refine And.intro (by first | omega | exact trivial | rfl | exact inR_i64.mpr ⟨by omega, by omega⟩ | (simp [hd] <;> omega) | exact hd | exact hd.symm | exact (hs _).symm | exact (hkl _ _).symm | exact inR_u16 (by omega) (by omega) | exact ⟨hq, by decide⟩ | decide | (refine And.intro ?_ ?_ <;> exact trivial) | exact ⟨trivial, trivial, trivial⟩) ?_
          first | refine hS _ ?_ | (refine ite_yes (by first | omega | exact trivial | rfl | exact inR_i64.mpr ⟨by omega, by omega⟩ | (simp [hd] <;> omega) | exact hd | exact hd.symm | exact (hs _).symm | exact (hkl _ _).symm | exact inR_u16 (by omega) (by omega) | exact ⟨hq, by decide⟩ | decide | (refine And.intro ?_ ?_ <;> exact trivial) | exact ⟨trivial, trivial, trivial⟩) ?_; refine hS _ ?_)
          clear hS
          refine d_readg (b := true) rfl rfl (by decide) rfl rfl (fun _ _ hS => ?_) (fun e => absurd e (by decide))
          refine hS _ ?_
          clear hS
          refine d_readg (b := true) rfl rfl (by decide) rfl rfl (fun _ _ hS => ?_) (fun e => absurd e (by decide))
          repeat refine And.intro (by first | omega | exact trivial | rfl | exact inR_i64.mpr ⟨by omega, by omega⟩ | (simp [hkl] <;> omega) | exact hd | exact hd.symm | exact (hs _).symm | exact (hkl _ _).symm | exact inR_u16 (by omega) (by omega) | exact ⟨hq, by decide⟩ | decide | (refine And.intro ?_ ?_ <;> exact trivial) | exact ⟨trivial, trivial, trivial⟩) ?_
          first | refine hS _ ?_ | (refine ite_yes (by first | omega | exact trivial | rfl | exact inR_i64.mpr ⟨by omega, by omega⟩ | (simp [hkl] <;> omega) | exact hd | exact hd.symm | exact (hs _).symm | exact (hkl _ _).symm | exact inR_u16 (by omega) (by omega) | exact ⟨hq, by decide⟩ | decide | (refine And.intro ?_ ?_ <;> exact trivial) | exact ⟨trivial, trivial, trivial⟩) ?_; refine hS _ ?_)
          clear hS
          refine d_growg (b := true) rfl rfl (by decide) rfl rfl (fun _ _ hS => ?_) (fun e => absurd e (by decide))
          repeat first | refine And.intro (by first | omega | exact trivial | rfl | exact inR_i64.mpr ⟨by omega, by omega⟩ | (simp [hs, hkl, hd, hl2] <;> omega) | exact hd | exact hd.symm | exact (hs _).symm | exact (hkl _ _).symm | exact inR_u16 (by omega) (by omega) | exact ⟨hq, by decide⟩ | decide | (refine And.intro ?_ ?_ <;> exact trivial) | exact ⟨trivial, trivial, trivial⟩) ?_ | refine whole_yes (by first | omega | exact trivial | rfl | exact inR_i64.mpr ⟨by omega, by omega⟩ | (simp [hs, hkl, hd, hl2] <;> omega) | exact hd | exact hd.symm | exact (hs _).symm | exact (hkl _ _).symm | exact inR_u16 (by omega) (by omega) | exact ⟨hq, by decide⟩ | decide | (refine And.intro ?_ ?_ <;> exact trivial) | exact ⟨trivial, trivial, trivial⟩) ?_ | refine whole_sub ?_
          first | refine hS _ _ _ ?_ | (intro cap4 hcap4; refine hS _ _ _ ?_)
          clear hS
          refine d_readg (b := true) rfl rfl (by decide) rfl rfl (fun _ _ hS => ?_) (fun e => absurd e (by decide))
          repeat refine And.intro (by first | omega | exact trivial | rfl | exact inR_i64.mpr ⟨by omega, by omega⟩ | (simp [hkl] <;> omega) | exact hd | exact hd.symm | exact (hs _).symm | exact (hkl _ _).symm | exact inR_u16 (by omega) (by omega) | exact ⟨hq, by decide⟩ | decide | (refine And.intro ?_ ?_ <;> exact trivial) | exact ⟨trivial, trivial, trivial⟩) ?_
          refine hS _ ?_
          clear hS
          refine d_readg (b := true) rfl rfl (by decide) rfl rfl (fun _ _ hS => ?_) (fun e => absurd e (by decide))
          refine d_split hS (fun hb7 => ?_) (fun hb7 => ?_)
          · clear hS
            simp only [decide_eq_false_iff_not, Bool.not_eq_eq_eq_not, Bool.not_true] at hb7
            refine d_readg (b := true) rfl rfl (by decide) rfl rfl (fun e => absurd e (by decide)) (fun _ => ?_)
            refine d_readg (b := true) rfl rfl (by decide) rfl rfl (fun e => absurd e (by decide)) (fun _ => ?_)
            refine d_readg (b := true) rfl rfl (by decide) rfl rfl (fun e => absurd e (by decide)) (fun _ => ?_)
            refine d_readg (b := true) rfl rfl (by decide) rfl rfl (fun e => absurd e (by decide)) (fun _ => ?_)
            refine d_growg (b := true) rfl rfl (by decide) rfl rfl (fun e => absurd e (by decide)) (fun _ => ?_)
            refine d_growg (b := true) rfl rfl (by decide) rfl rfl (fun e => absurd e (by decide)) (fun _ => ?_)
            refine d_readg (b := true) rfl rfl (by decide) rfl rfl (fun e => absurd e (by decide)) (fun _ => ?_)
            refine d_readg (b := true) rfl rfl (by decide) rfl rfl (fun _ _ hS => ?_) (fun e => absurd e (by decide))
            refine hS _ ?_
            clear hS
            refine d_read rfl rfl (by decide) rfl fun _ hS => ?_
            refine hS _ ?_
            clear hS
            refine d_read rfl rfl (by decide) rfl fun _ hS => ?_
            refine d_split hS (fun hb17 => ?_) (fun hb17 => ?_)
            rotate_left 1
            · exfalso; first | (simp at hb17; done) | (simp [hb7] at hb17; done)
            clear hS
            refine d_readg (b := true) rfl rfl (by decide) rfl rfl (fun _ _ hS => ?_) (fun e => absurd e (by decide))
            refine hS _ ?_
            clear hS
            refine d_read rfl rfl (by decide) rfl fun _ hS => ?_
            refine hS _ ?_
            clear hS
            refine d_read rfl rfl (by decide) rfl fun _ hS => ?_
            refine hS _ ?_
            clear hS
            refine d_nil ?_
            refine hK42 _ _ _ ?_
            refine hK41 _ _ _ ?_
            refine WP_ret (Done_flat (gh_ok h27) (fun _ _ h => h) (by first | rfl | assumption) [.tmp 6] rfl ?_)
            repeat refine And.intro (by first | omega | exact trivial | rfl | (simp <;> omega)) ?_
            try refine ite_yes (by first | omega | exact trivial | rfl | (simp <;> omega)) ?_
            show _ = _
            rfl
          · clear hS
            simp only [decide_eq_true_eq, Bool.not_eq_eq_eq_not, Bool.not_false] at hb7
            refine d_readg (b := false) rfl rfl (by decide) rfl rfl (fun _ _ hS => ?_) (fun e => absurd e (by decide))
            repeat refine And.intro (by first | omega | exact trivial | rfl | exact inR_i64.mpr ⟨by omega, by omega⟩ | (simp [hd] <;> omega) | exact hd | exact hd.symm | exact (hs _).symm | exact (hkl _ _).symm | exact inR_u16 (by omega) (by omega) | exact ⟨hq, by decide⟩ | decide | (refine And.intro ?_ ?_ <;> exact trivial) | exact ⟨trivial, trivial, trivial⟩) ?_
            first | refine hS _ ?_ | (refine ite_yes (by first | omega | exact trivial | rfl | exact inR_i64.mpr ⟨by omega, by omega⟩ | (simp [hd] <;> omega) | exact hd | exact hd.symm | exact (hs _).symm | exact (hkl _ _).symm | exact inR_u16 (by omega) (by omega) | exact ⟨hq, by decide⟩ | decide | (refine And.intro ?_ ?_ <;> exact trivial) | exact ⟨trivial, trivial, trivial⟩) ?_; refine hS _ ?_)
            clear hS
            refine d_readg (b := false) rfl rfl (by decide) rfl rfl (fun _ _ hS => ?_) (fun e => absurd e (by decide))
            refine hS _ ?_
            clear hS
            refine d_readg (b := false) rfl rfl (by decide) rfl rfl (fun _ _ hS => ?_) (fun e => absurd e (by decide))
            repeat refine And.intro (by first | omega | exact trivial | rfl | exact inR_i64.mpr ⟨by omega, by omega⟩ | (simp [hd] <;> omega) | exact hd | exact hd.symm | exact (hs _).symm | exact (hkl _ _).symm | exact inR_u16 (by omega) (by omega) | exact ⟨hq, by decide⟩ | decide | (refine And.intro ?_ ?_ <;> exact trivial) | exact ⟨trivial, trivial, trivial⟩) ?_
            first | refine hS _ ?_ | (refine ite_yes (by first | omega | exact trivial | rfl | exact inR_i64.mpr ⟨by omega, by omega⟩ | (simp [hd] <;> omega) | exact hd | exact hd.symm | exact (hs _).symm | exact (hkl _ _).symm | exact inR_u16 (by omega) (by omega) | exact ⟨hq, by decide⟩ | decide | (refine And.intro ?_ ?_ <;> exact trivial) | exact ⟨trivial, trivial, trivial⟩) ?_; refine hS _ ?_)
            clear hS
            refine d_readg (b := false) rfl rfl (by decide) rfl rfl (fun _ _ hS => ?_) (fun e => absurd e (by decide))
            refine hS _ ?_
            clear hS
            refine d_growg (b := false) rfl rfl (by decide) rfl rfl (fun _ _ hS => ?_) (fun e => absurd e (by decide))
            repeat first | refine And.intro (by first | omega | exact trivial | rfl | exact inR_i64.mpr ⟨by omega, by omega⟩ | (simp [hs, hkl, hd, hl2] <;> omega) | exact hd | exact hd.symm | exact (hs _).symm | exact (hkl _ _).symm | exact inR_u16 (by omega) (by omega) | exact ⟨hq, by decide⟩ | decide | (refine And.intro ?_ ?_ <;> exact trivial) | exact ⟨trivial, trivial, trivial⟩) ?_ | refine whole_yes (by first | omega | exact trivial | rfl | exact inR_i64.mpr ⟨by omega, by omega⟩ | (simp [hs, hkl, hd, hl2] <;> omega) | exact hd | exact hd.symm | exact (hs _).symm | exact (hkl _ _).symm | exact inR_u16 (by omega) (by omega) | exact ⟨hq, by decide⟩ | decide | (refine And.intro ?_ ?_ <;> exact trivial) | exact ⟨trivial, trivial, trivial⟩) ?_ | refine whole_sub ?_
            first | refine hS _ _ _ ?_ | (intro cap10 hcap10; refine hS _ _ _ ?_)
            clear hS
            refine d_growg (b := false) rfl rfl (by decide) rfl rfl (fun _ _ hS => ?_) (fun e => absurd e (by decide))
            repeat first | refine And.intro (by first | omega | exact trivial | rfl | exact inR_i64.mpr ⟨by omega, by omega⟩ | (simp [hs, hkl, hd, hl2] <;> omega) | exact hd | exact hd.symm | exact (hs _).symm | exact (hkl _ _).symm | exact inR_u16 (by omega) (by omega) | exact ⟨hq, by decide⟩ | decide | (refine And.intro ?_ ?_ <;> exact trivial) | exact ⟨trivial, trivial, trivial⟩) ?_ | refine whole_yes (by first | omega | exact trivial | rfl | exact inR_i64.mpr ⟨by omega, by omega⟩ | (simp [hs, hkl, hd, hl2] <;> omega) | exact hd | exact hd.symm | exact (hs _).symm | exact (hkl _ _).symm | exact inR_u16 (by omega) (by omega) | exact ⟨hq, by decide⟩ | decide | (refine And.intro ?_ ?_ <;> exact trivial) | exact ⟨trivial, trivial, trivial⟩) ?_ | refine whole_sub ?_
            first | refine hS _ _ _ ?_ | (intro cap13 hcap13; refine hS _ _ _ ?_)
            clear hS
            refine d_readg (b := false) rfl rfl (by decide) rfl rfl (fun _ _ hS => ?_) (fun e => absurd e (by decide))
            repeat refine And.intro (by first | omega | exact trivial | rfl | exact inR_i64.mpr ⟨by omega, by omega⟩ | (simp [hkl] <;> omega) | exact hd | exact hd.symm | exact (hs _).symm | exact (hkl _ _).symm | exact inR_u16 (by omega) (by omega) | exact ⟨hq, by decide⟩ | decide | (refine And.intro ?_ ?_ <;> exact trivial) | exact ⟨trivial, trivial, trivial⟩) ?_
            refine hS _ ?_
            clear hS
            refine d_readg (b := true) rfl rfl (by decide) rfl rfl (fun _ _ hS => ?_) (fun e => absurd e (by decide))
            refine hS _ ?_
            clear hS
            refine d_read rfl rfl (by decide) rfl fun _ hS => ?_
            refine hS _ ?_
            clear hS
            refine d_read rfl rfl (by decide) rfl fun _ hS => ?_
            refine d_split hS (fun hb17 => ?_) (fun hb17 => ?_)
            rotate_left 1
            · exfalso; first | (simp at hb17; done) | (simp [hb7] at hb17; done)
            clear hS
            refine d_readg (b := true) rfl rfl (by decide) rfl rfl (fun _ _ hS => ?_) (fun e => absurd e (by decide))
            refine hS _ ?_
            clear hS
            refine d_read rfl rfl (by decide) rfl fun _ hS => ?_
            refine hS _ ?_
            clear hS
            refine d_read rfl rfl (by decide) rfl fun _ hS => ?_
            refine hS _ ?_
            clear hS
            refine d_nil ?_
            refine hK42 _ _ _ ?_
            refine hK41 _ _ _ ?_
            refine WP_ret (Done_flat (gh_ok h27) (fun _ _ h => h) (by first | rfl | assumption) [.tmp 6] rfl ?_)
            repeat refine And.intro (by first | omega | exact trivial | rfl | (simp <;> omega)) ?_
            try refine ite_yes (by first | omega | exact trivial | rfl | (simp <;> omega)) ?_
            show _ = _
            rfl
end Go.Proofs.YtdanaehfdbdhdaaDoor
