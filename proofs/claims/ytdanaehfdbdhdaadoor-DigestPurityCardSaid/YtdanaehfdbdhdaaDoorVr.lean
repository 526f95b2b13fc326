/- The law that the program agrees with the reference. -/
import Derived.Test.YtdanaehfdbdhdaaDoorVo
namespace Go.Proofs.YtdanaehfdbdhdaaDoor
set_option linter.unusedVariables false
open Go.Ab Go.RowKit

theorem fewL_bound (ps : List (List UInt8)) : (fewL ps).length ≤ 1000 ∧ ∀ p ∈ fewL ps, p.length ≤ 1000 := by
  refine ⟨by simp [fewL]; omega, fun p hp => ?_⟩
  obtain ⟨q, _, rfl⟩ := List.mem_map.1 hp
  simp; omega
noncomputable def gc : Ctx := { P := Tryd.prog, ty := ty, glob := gl, fs := [(11, .flat sanityS), (12, .data shortS), (13, .ownD fewS), (14, .flat sumS), (15, .flat sumS), (16, .flat keyedS), (17, .flat keyedS), (18, .flat fieldsS), (19, .flat fieldsS), (20, .flat hexS), (21, .flat hexS)] }
theorem gc_ok (h27 : FlatOK Tryd.prog gl 27 hashS) : gc.OK := ⟨tyOK, ⟨⟨enters_mk Tryd.func11 (by kernel_rfl) rfl, sanity_ok h27⟩, ⟨enters_mk Tryd.func12 (by kernel_rfl) rfl, short_ok⟩, ⟨enters_mk Tryd.func13 (by kernel_rfl) rfl, few_ok⟩, ⟨enters_mk Tryd.func14 (by kernel_rfl) rfl, sum_ok h27⟩, ⟨enters_mk Tryd.func15 (by kernel_rfl) rfl, sumR_ok⟩, ⟨enters_mk Tryd.func16 (by kernel_rfl) rfl, keyed_ok h27⟩, ⟨enters_mk Tryd.func17 (by kernel_rfl) rfl, keyedR_ok⟩, ⟨enters_mk Tryd.func18 (by kernel_rfl) rfl, fields_ok h27⟩, ⟨enters_mk Tryd.func19 (by kernel_rfl) rfl, fieldsR_ok⟩, ⟨enters_mk Tryd.func20 (by kernel_rfl) rfl, hex_ok⟩, ⟨enters_mk Tryd.func21 (by kernel_rfl) rfl, hexR_ok⟩, trivial⟩, mixed⟩
@[simp] theorem gc_ty : gc.ty = ty := rfl


attribute [local irreducible] Sha.sum keyed hexTo encode fewL
def lawMatchS : QSpec := fun vs K => ∃ l d ps, vs = [.c (.ds l.length (.u8s l)), .agg (.u8s d), .c (.ds ps.length (.cells (lists ps)))] ∧ (d.length = 32 ∧ l.length ≤ 9223372036854775807 ∧ ps.length ≤ 9223372036854775807 ∧ ∀ p ∈ ps, p.length ≤ 9223372036854775807) ∧ K (.c (.bool true))
set_option maxHeartbeats 1000000 in
theorem lawMatch_ok (h27 : FlatOK Tryd.prog gl 27 hashS) : FlatOK Tryd.prog gl 3 lawMatchS := by
  refine flat_of (Γ := gc) (N := 46) Tryd.func3 rfl rfl fun vs K h => ?_
  obtain ⟨l, d, ps, rfl, ⟨hd, hl, hn, hp⟩, h⟩ := h
  refine ⟨_, h, rfl, by simp, fun w I => ?_⟩
  have hs := Sha.sum_length
  have hkl := keyed_length
  have hfb := fewL_bound ps
  refine seq_k fun _ hK1 => ?_
  refine region_k (gc_ok h27) fun _ hK2 => ?_
  refine s_step rfl (by decide) rfl fun _ hS => ?_
  repeat refine And.intro (by first | omega | exact trivial | rfl | exact inR_i64.mpr ⟨by omega, by omega⟩ | (simp [hs, hkl, hd] <;> omega) | exact hd.symm | (refine And.intro ?_ ?_ <;> exact trivial) | exact ⟨trivial, trivial, trivial⟩) ?_
  refine hS _ _ _ ?_
  clear hS
  refine s_step rfl (by decide) rfl fun _ hS => ?_
  refine hS _ _ _ ?_
  clear hS
  refine s_nil ?_
  refine hK2 _ _ _ ?_
  refine hK1 _ _ _ ?_
  refine seq_k fun _ hK3 => ?_
  refine region_k (gc_ok h27) fun _ hK4 => ?_
  refine s_step rfl (by decide) rfl fun _ hS => ?_
  repeat first | refine And.intro (by first | omega | exact trivial | rfl | exact inR_i64.mpr ⟨by omega, by omega⟩ | (simp [hs, hkl, hd] <;> omega) | exact isD_lists _ | exact hd | (refine And.intro ?_ ?_ <;> exact trivial) | exact ⟨trivial, trivial, trivial⟩) ?_ | refine whole_yes (by first | omega | exact trivial | rfl | exact inR_i64.mpr ⟨by omega, by omega⟩ | (simp [hs, hkl, hd] <;> omega) | exact isD_lists _ | exact hd | (refine And.intro ?_ ?_ <;> exact trivial) | exact ⟨trivial, trivial, trivial⟩) ?_ | refine whole_sub ?_
  first | refine hS _ _ _ ?_ | (intro cap0 hcap0; refine hS _ _ _ ?_)
  clear hS
  refine s_step rfl (by decide) rfl fun _ hS => ?_
  refine hS _ _ _ ?_
  clear hS
  refine s_nil ?_
  refine hK4 _ _ _ ?_
  refine hK3 _ _ _ ?_
  refine seq_k fun _ hK5 => ?_
  refine region_k (gc_ok h27) fun _ hK6 => ?_
  refine s_step rfl (by decide) rfl fun _ hS => ?_
  refine hS _ _ _ ?_
  clear hS
  refine s_step rfl (by decide) rfl fun _ hS => ?_
  repeat first | refine And.intro (by first | omega | exact trivial | rfl | exact inR_i64.mpr ⟨by omega, by omega⟩ | (simp [hs, hkl, hd] <;> omega) | exact isD_lists _ | exact hd | (refine And.intro ?_ ?_ <;> exact trivial) | exact ⟨trivial, trivial, trivial⟩) ?_ | refine whole_yes (by first | omega | exact trivial | rfl | exact inR_i64.mpr ⟨by omega, by omega⟩ | (simp [hs, hkl, hd] <;> omega) | exact isD_lists _ | exact hd | (refine And.intro ?_ ?_ <;> exact trivial) | exact ⟨trivial, trivial, trivial⟩) ?_ | refine whole_sub ?_
  first | refine hS _ _ _ ?_ | (intro cap1 hcap1; refine hS _ _ _ ?_)
  clear hS
  refine s_step rfl (by decide) rfl fun _ hS => ?_
  refine hS _ _ _ ?_
  clear hS
  refine s_step rfl (by decide) rfl fun _ hS => ?_
  repeat first | refine And.intro (by first | omega | exact trivial | rfl | exact inR_i64.mpr ⟨by omega, by omega⟩ | (simp [hs, hkl, hd] <;> omega) | exact isD_lists _ | exact hd | (refine And.intro ?_ ?_ <;> exact trivial) | exact ⟨trivial, trivial, trivial⟩) ?_ | refine whole_yes (by first | omega | exact trivial | rfl | exact inR_i64.mpr ⟨by omega, by omega⟩ | (simp [hs, hkl, hd] <;> omega) | exact isD_lists _ | exact hd | (refine And.intro ?_ ?_ <;> exact trivial) | exact ⟨trivial, trivial, trivial⟩) ?_ | refine whole_sub ?_
  refine Exists.intro ps ?_
  refine And.intro rfl ?_
  refine And.intro ⟨hn, hp⟩ ?_
  repeat refine And.intro (by first | omega | exact trivial | rfl | exact inR_i64.mpr ⟨by omega, by omega⟩ | (simp [hs, hkl, hd] <;> omega) | exact isD_lists _ | exact hd | (refine And.intro ?_ ?_ <;> exact trivial) | exact ⟨trivial, trivial, trivial⟩) ?_
  first | refine hS _ _ _ ?_ | (intro cap3 hcap3; refine hS _ _ _ ?_)
  clear hS
  refine s_step rfl (by decide) rfl fun _ hS => ?_
  refine hS _ _ _ ?_
  clear hS
  refine s_step rfl (by decide) rfl fun _ hS => ?_
  refine hS _ _ _ ?_
  clear hS
  refine s_nil ?_
  refine hK6 _ _ _ ?_
  refine hK5 _ _ _ ?_
  refine seq_k fun _ hK7 => ?_
  refine quiet_k (gc_ok h27) (by kernel_rfl) fun _ hK8 => ?_
  refine q_step rfl (by decide) rfl fun _ hS => ?_
  refine hS _ ?_
  clear hS
  refine q_step rfl (by decide) rfl fun _ hS => ?_
  repeat first | refine And.intro (by first | omega | exact trivial | rfl | exact inR_i64.mpr ⟨by omega, by omega⟩ | (simp <;> omega) | exact isD_lists _ | exact hd | (refine And.intro ?_ ?_ <;> exact trivial) | exact ⟨trivial, trivial, trivial⟩) ?_ | refine whole_yes (by first | omega | exact trivial | rfl | exact inR_i64.mpr ⟨by omega, by omega⟩ | (simp [hs, hkl, hd] <;> omega) | exact isD_lists _ | exact hd | (refine And.intro ?_ ?_ <;> exact trivial) | exact ⟨trivial, trivial, trivial⟩) ?_ | refine whole_sub ?_
  first | refine hS _ ?_ | (intro cap1 hcap1; refine hS _ ?_)
  clear hS
  refine q_step rfl (by decide) rfl fun _ hS => ?_
  refine hS _ ?_
  clear hS
  refine q_step rfl (by decide) rfl fun _ hS => ?_
  repeat first | refine And.intro (by first | omega | exact trivial | rfl | exact inR_i64.mpr ⟨by omega, by omega⟩ | (simp <;> omega) | exact isD_lists _ | exact hd | (refine And.intro ?_ ?_ <;> exact trivial) | exact ⟨trivial, trivial, trivial⟩) ?_ | refine whole_yes (by first | omega | exact trivial | rfl | exact inR_i64.mpr ⟨by omega, by omega⟩ | (simp [hs, hkl, hd] <;> omega) | exact isD_lists _ | exact hd | (refine And.intro ?_ ?_ <;> exact trivial) | exact ⟨trivial, trivial, trivial⟩) ?_ | refine whole_sub ?_
  first | refine hS _ ?_ | (intro cap3 hcap3; refine hS _ ?_)
  clear hS
  refine q_step rfl (by decide) rfl fun _ hS => ?_
  repeat refine And.intro (by first | omega | exact trivial | rfl | exact inR_i64.mpr ⟨by omega, by omega⟩ | (simp [hs] <;> omega) | exact isD_lists _ | exact hd | (refine And.intro ?_ ?_ <;> exact trivial) | exact ⟨trivial, trivial, trivial⟩) ?_
  refine hS _ ?_
  clear hS
  refine q_step rfl (by decide) rfl fun _ hS => ?_
  refine q_split hS (fun hb5 => ?_) (fun hb5 => ?_)
  rotate_left 1
  · exfalso; simp at hb5
  clear hS
  refine q_guard (b := true) rfl (by decide) rfl rfl (fun _ _ hS => ?_) (fun e => absurd e (by decide))
  repeat refine And.intro (by first | omega | exact trivial | rfl | exact inR_i64.mpr ⟨by omega, by omega⟩ | (simp [hd] <;> omega) | exact isD_lists _ | exact hd | (refine And.intro ?_ ?_ <;> exact trivial) | exact ⟨trivial, trivial, trivial⟩) ?_
  first | refine hS _ ?_ | (refine ite_yes (by first | omega | exact trivial | rfl | exact inR_i64.mpr ⟨by omega, by omega⟩ | (simp [hd] <;> omega) | exact isD_lists _ | exact hd | (refine And.intro ?_ ?_ <;> exact trivial) | exact ⟨trivial, trivial, trivial⟩) ?_; refine hS _ ?_)
  clear hS
  refine q_guard (b := true) rfl (by decide) rfl rfl (fun _ _ hS => ?_) (fun e => absurd e (by decide))
  refine hS _ ?_
  clear hS
  refine q_guard (b := true) rfl (by decide) rfl rfl (fun _ _ hS => ?_) (fun e => absurd e (by decide))
  repeat first | refine And.intro (by first | omega | exact trivial | rfl | exact inR_i64.mpr ⟨by omega, by omega⟩ | (simp [hd] <;> omega) | exact isD_lists _ | exact hd | (refine And.intro ?_ ?_ <;> exact trivial) | exact ⟨trivial, trivial, trivial⟩) ?_ | refine whole_yes (by first | omega | exact trivial | rfl | exact inR_i64.mpr ⟨by omega, by omega⟩ | (simp [hs, hkl, hd] <;> omega) | exact isD_lists _ | exact hd | (refine And.intro ?_ ?_ <;> exact trivial) | exact ⟨trivial, trivial, trivial⟩) ?_ | refine whole_sub ?_
  first | refine hS _ ?_ | (intro cap8 hcap8; refine hS _ ?_)
  clear hS
  refine q_guard (b := true) rfl (by decide) rfl rfl (fun _ _ hS => ?_) (fun e => absurd e (by decide))
  repeat refine And.intro (by first | omega | exact trivial | rfl | exact inR_i64.mpr ⟨by omega, by omega⟩ | (simp [hd] <;> omega) | exact isD_lists _ | exact hd | (refine And.intro ?_ ?_ <;> exact trivial) | exact ⟨trivial, trivial, trivial⟩) ?_
  first | refine hS _ ?_ | (refine ite_yes (by first | omega | exact trivial | rfl | exact inR_i64.mpr ⟨by omega, by omega⟩ | (simp [hd] <;> omega) | exact isD_lists _ | exact hd | (refine And.intro ?_ ?_ <;> exact trivial) | exact ⟨trivial, trivial, trivial⟩) ?_; refine hS _ ?_)
  clear hS
  refine q_guard (b := true) rfl (by decide) rfl rfl (fun _ _ hS => ?_) (fun e => absurd e (by decide))
  refine hS _ ?_
  clear hS
  refine q_guard (b := true) rfl (by decide) rfl rfl (fun _ _ hS => ?_) (fun e => absurd e (by decide))
  repeat first | refine And.intro (by first | omega | exact trivial | rfl | exact inR_i64.mpr ⟨by omega, by omega⟩ | (simp [hd] <;> omega) | exact isD_lists _ | exact hd | (refine And.intro ?_ ?_ <;> exact trivial) | exact ⟨trivial, trivial, trivial⟩) ?_ | refine whole_yes (by first | omega | exact trivial | rfl | exact inR_i64.mpr ⟨by omega, by omega⟩ | (simp [hs, hkl, hd] <;> omega) | exact isD_lists _ | exact hd | (refine And.intro ?_ ?_ <;> exact trivial) | exact ⟨trivial, trivial, trivial⟩) ?_ | refine whole_sub ?_
  first | refine hS _ ?_ | (intro cap11 hcap11; refine hS _ ?_)
  clear hS
  refine q_guard (b := true) rfl (by decide) rfl rfl (fun _ _ hS => ?_) (fun e => absurd e (by decide))
  repeat refine And.intro (by first | omega | exact trivial | rfl | exact inR_i64.mpr ⟨by omega, by omega⟩ | (simp [hkl] <;> omega) | exact isD_lists _ | exact hd | (refine And.intro ?_ ?_ <;> exact trivial) | exact ⟨trivial, trivial, trivial⟩) ?_
  refine hS _ ?_
  clear hS
  refine q_step rfl (by decide) rfl fun _ hS => ?_
  refine hS _ ?_
  clear hS
  refine q_step rfl (by decide) rfl fun _ hS => ?_
  refine q_split hS (fun hb14 => ?_) (fun hb14 => ?_)
  rotate_left 1
  · exfalso; simp at hb14
  clear hS
  refine q_guard (b := true) rfl (by decide) rfl rfl (fun _ _ hS => ?_) (fun e => absurd e (by decide))
  refine hS _ ?_
  clear hS
  refine q_guard (b := true) rfl (by decide) rfl rfl (fun _ _ hS => ?_) (fun e => absurd e (by decide))
  repeat first | refine And.intro (by first | omega | exact trivial | rfl | exact inR_i64.mpr ⟨by omega, by omega⟩ | (simp <;> omega) | exact isD_lists _ | exact hd | (refine And.intro ?_ ?_ <;> exact trivial) | exact ⟨trivial, trivial, trivial⟩) ?_ | refine whole_yes (by first | omega | exact trivial | rfl | exact inR_i64.mpr ⟨by omega, by omega⟩ | (simp <;> omega) | exact isD_lists _ | exact hd | (refine And.intro ?_ ?_ <;> exact trivial) | exact ⟨trivial, trivial, trivial⟩) ?_ | refine whole_sub ?_
  refine Exists.intro (fewL ps) ?_
  refine And.intro rfl ?_
  refine And.intro hfb ?_
  repeat refine And.intro (by first | omega | exact trivial | rfl | exact inR_i64.mpr ⟨by omega, by omega⟩ | (simp [hs, hkl, hd] <;> omega) | exact isD_lists _ | exact hd | (refine And.intro ?_ ?_ <;> exact trivial) | exact ⟨trivial, trivial, trivial⟩) ?_
  first | refine hS _ ?_ | (intro cap16 hcap16; refine hS _ ?_)
  clear hS
  refine q_guard (b := true) rfl (by decide) rfl rfl (fun _ _ hS => ?_) (fun e => absurd e (by decide))
  refine hS _ ?_
  clear hS
  refine q_guard (b := true) rfl (by decide) rfl rfl (fun _ _ hS => ?_) (fun e => absurd e (by decide))
  repeat first | refine And.intro (by first | omega | exact trivial | rfl | exact inR_i64.mpr ⟨by omega, by omega⟩ | (simp <;> omega) | exact isD_lists _ | exact hd | (refine And.intro ?_ ?_ <;> exact trivial) | exact ⟨trivial, trivial, trivial⟩) ?_ | refine whole_yes (by first | omega | exact trivial | rfl | exact inR_i64.mpr ⟨by omega, by omega⟩ | (simp <;> omega) | exact isD_lists _ | exact hd | (refine And.intro ?_ ?_ <;> exact trivial) | exact ⟨trivial, trivial, trivial⟩) ?_ | refine whole_sub ?_
  refine Exists.intro (fewL ps) ?_
  refine And.intro rfl ?_
  refine And.intro hfb ?_
  repeat refine And.intro (by first | omega | exact trivial | rfl | exact inR_i64.mpr ⟨by omega, by omega⟩ | (simp [hs, hkl, hd] <;> omega) | exact isD_lists _ | exact hd | (refine And.intro ?_ ?_ <;> exact trivial) | exact ⟨trivial, trivial, trivial⟩) ?_
  first | refine hS _ ?_ | (intro cap18 hcap18; refine hS _ ?_)
  clear hS
  refine q_guard (b := true) rfl (by decide) rfl rfl (fun _ _ hS => ?_) (fun e => absurd e (by decide))
  repeat refine And.intro (by first | omega | exact trivial | rfl | exact inR_i64.mpr ⟨by omega, by omega⟩ | (simp [hs] <;> omega) | exact isD_lists _ | exact hd | (refine And.intro ?_ ?_ <;> exact trivial) | exact ⟨trivial, trivial, trivial⟩) ?_
  refine hS _ ?_
  clear hS
  refine q_step rfl (by decide) rfl fun _ hS => ?_
  refine hS _ ?_
  clear hS
  refine q_step rfl (by decide) rfl fun _ hS => ?_
  refine q_split hS (fun hb21 => ?_) (fun hb21 => ?_)
  rotate_left 1
  · exfalso; simp at hb21
  clear hS
  refine q_guard (b := true) rfl (by decide) rfl rfl (fun _ _ hS => ?_) (fun e => absurd e (by decide))
  repeat refine And.intro (by first | omega | exact trivial | rfl | exact inR_i64.mpr ⟨by omega, by omega⟩ | (simp [hd] <;> omega) | exact isD_lists _ | exact hd | (refine And.intro ?_ ?_ <;> exact trivial) | exact ⟨trivial, trivial, trivial⟩) ?_
  first | refine hS _ ?_ | (refine ite_yes (by first | omega | exact trivial | rfl | exact inR_i64.mpr ⟨by omega, by omega⟩ | (simp [hd] <;> omega) | exact isD_lists _ | exact hd | (refine And.intro ?_ ?_ <;> exact trivial) | exact ⟨trivial, trivial, trivial⟩) ?_; refine hS _ ?_)
  clear hS
  refine q_guard (b := true) rfl (by decide) rfl rfl (fun _ _ hS => ?_) (fun e => absurd e (by decide))
  repeat first | refine And.intro (by first | omega | exact trivial | rfl | exact inR_i64.mpr ⟨by omega, by omega⟩ | (simp [hs, hkl, hd] <;> omega) | exact isD_lists _ | exact hd | (refine And.intro ?_ ?_ <;> exact trivial) | exact ⟨trivial, trivial, trivial⟩) ?_ | refine whole_yes (by first | omega | exact trivial | rfl | exact inR_i64.mpr ⟨by omega, by omega⟩ | (simp [hs, hkl, hd] <;> omega) | exact isD_lists _ | exact hd | (refine And.intro ?_ ?_ <;> exact trivial) | exact ⟨trivial, trivial, trivial⟩) ?_ | refine whole_sub ?_
  first | refine hS _ ?_ | (intro cap23 hcap23; refine hS _ ?_)
  clear hS
  refine q_guard (b := true) rfl (by decide) rfl rfl (fun _ _ hS => ?_) (fun e => absurd e (by decide))
  repeat refine And.intro (by first | omega | exact trivial | rfl | exact inR_i64.mpr ⟨by omega, by omega⟩ | (simp [hd] <;> omega) | exact isD_lists _ | exact hd | (refine And.intro ?_ ?_ <;> exact trivial) | exact ⟨trivial, trivial, trivial⟩) ?_
  first | refine hS _ ?_ | (refine ite_yes (by first | omega | exact trivial | rfl | exact inR_i64.mpr ⟨by omega, by omega⟩ | (simp [hd] <;> omega) | exact isD_lists _ | exact hd | (refine And.intro ?_ ?_ <;> exact trivial) | exact ⟨trivial, trivial, trivial⟩) ?_; refine hS _ ?_)
  clear hS
  refine q_guard (b := true) rfl (by decide) rfl rfl (fun _ _ hS => ?_) (fun e => absurd e (by decide))
  repeat first | refine And.intro (by first | omega | exact trivial | rfl | exact inR_i64.mpr ⟨by omega, by omega⟩ | (simp [hs, hkl, hd] <;> omega) | exact isD_lists _ | exact hd | (refine And.intro ?_ ?_ <;> exact trivial) | exact ⟨trivial, trivial, trivial⟩) ?_ | refine whole_yes (by first | omega | exact trivial | rfl | exact inR_i64.mpr ⟨by omega, by omega⟩ | (simp [hs, hkl, hd] <;> omega) | exact isD_lists _ | exact hd | (refine And.intro ?_ ?_ <;> exact trivial) | exact ⟨trivial, trivial, trivial⟩) ?_ | refine whole_sub ?_
  first | refine hS _ ?_ | (intro cap25 hcap25; refine hS _ ?_)
  clear hS
  refine q_guard (b := true) rfl (by decide) rfl rfl (fun _ _ hS => ?_) (fun e => absurd e (by decide))
  repeat refine And.intro (by first | omega | exact trivial | rfl | exact inR_i64.mpr ⟨by omega, by omega⟩ | (simp [hs, hkl, hd] <;> omega) | exact isD_lists _ | exact hd | (refine And.intro ?_ ?_ <;> exact trivial) | exact ⟨trivial, trivial, trivial⟩) ?_
  refine hS _ ?_
  clear hS
  refine q_step rfl (by decide) rfl fun _ hS => ?_
  refine hS _ ?_
  clear hS
  refine q_step rfl (by decide) rfl fun _ hS => ?_
  refine q_split hS (fun hb28 => ?_) (fun hb28 => ?_)
  rotate_left 1
  · exfalso; simp at hb28
  clear hS
  refine q_guard (b := true) rfl (by decide) rfl rfl (fun _ _ hS => ?_) (fun e => absurd e (by decide))
  refine hS _ ?_
  clear hS
  refine q_step rfl (by decide) rfl fun _ hS => ?_
  refine hS _ ?_
  clear hS
  refine q_step rfl (by decide) rfl fun _ hS => ?_
  refine hS _ ?_
  clear hS
  refine q_nil ?_
  refine hK8 _ ?_
  refine hK7 _ _ _ ?_
  refine WP_ret (Done_flat (gc_ok h27) (fun _ _ h => h) (by first | rfl | assumption) [.tmp 6] rfl ?_)
  repeat refine And.intro (by first | omega | exact trivial | rfl | (simp <;> omega)) ?_
  try refine ite_yes (by first | omega | exact trivial | rfl | (simp <;> omega)) ?_
  show _ = _
  rfl
end Go.Proofs.YtdanaehfdbdhdaaDoor
