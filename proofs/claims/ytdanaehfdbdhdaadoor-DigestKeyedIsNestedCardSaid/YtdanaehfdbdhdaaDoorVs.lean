/- The law of the keyed digest. -/
import Derived.Test.YtdanaehfdbdhdaaDoorVo
namespace Go.Proofs.YtdanaehfdbdhdaaDoor
set_option linter.unusedVariables false
open Go.Ab Go.RowKit

noncomputable def gd : Ctx := { P := Tryd.prog, ty := ty, glob := gl, fs := [(11, .flat sanityS), (12, .data shortS), (14, .flat sumS), (16, .flat keyedS), (22, .own maskedS), (23, .own bytesS)] }
theorem gd_ok (h27 : FlatOK Tryd.prog gl 27 hashS) : gd.OK := ⟨tyOK, ⟨⟨enters_mk Tryd.func11 (by kernel_rfl) rfl, sanity_ok h27⟩, ⟨enters_mk Tryd.func12 (by kernel_rfl) rfl, short_ok⟩, ⟨enters_mk Tryd.func14 (by kernel_rfl) rfl, sum_ok h27⟩, ⟨enters_mk Tryd.func16 (by kernel_rfl) rfl, keyed_ok h27⟩, ⟨enters_mk Tryd.func22 (by kernel_rfl) rfl, maskedR_ok⟩, ⟨enters_mk Tryd.func23 (by kernel_rfl) rfl, bytesR_ok⟩, trivial⟩, mixed⟩
@[simp] theorem gd_ty : gd.ty = ty := rfl


attribute [local irreducible] Sha.sum masked
def lawNestedS : QSpec := fun vs K => ∃ d l, vs = [.agg (.u8s d), .c (.ds l.length (.u8s l))] ∧ (d.length = 32 ∧ l.length ≤ 9223372036854775807) ∧ K (.c (.bool true))
set_option maxHeartbeats 1000000 in
theorem lawNested_ok (h27 : FlatOK Tryd.prog gl 27 hashS) : FlatOK Tryd.prog gl 5 lawNestedS := by
  refine flat_of (Γ := gd) (N := 33) Tryd.func5 rfl rfl fun vs K h => ?_
  obtain ⟨d, l, rfl, ⟨hd, hl⟩, h⟩ := h
  refine ⟨_, h, rfl, by simp, fun w I => ?_⟩
  have hs := Sha.sum_length
  have hkl := keyed_length
  have hm := masked_length d
  refine seq_k fun _ hK1 => ?_
  refine region_k (gd_ok h27) fun _ hK2 => ?_
  refine s_step rfl (by decide) rfl fun _ hS => ?_
  repeat refine And.intro (by first | omega | exact trivial | rfl | exact inR_i64.mpr ⟨by omega, by omega⟩ | (simp [hs, hkl, hd, hm] <;> omega) | exact hd | exact hd.symm | exact (hs _).symm | (refine And.intro ?_ ?_ <;> exact trivial) | exact ⟨trivial, trivial, trivial⟩) ?_
  refine hS _ _ _ ?_
  clear hS
  refine s_step rfl (by decide) rfl fun _ hS => ?_
  refine hS _ _ _ ?_
  clear hS
  refine s_nil ?_
  refine hK2 _ _ _ ?_
  refine hK1 _ _ _ ?_
  refine seq_k fun _ hK3 => ?_
  refine region_k (gd_ok h27) fun _ hK4 => ?_
  refine s_step rfl (by decide) rfl fun _ hS => ?_
  repeat first | refine And.intro (by first | omega | exact trivial | rfl | exact inR_i64.mpr ⟨by omega, by omega⟩ | (simp [hs, hkl, hd, hm] <;> omega) | exact hd | exact hd.symm | exact (hs _).symm | (refine And.intro ?_ ?_ <;> exact trivial) | exact ⟨trivial, trivial, trivial⟩) ?_ | refine whole_yes (by first | omega | exact trivial | rfl | exact inR_i64.mpr ⟨by omega, by omega⟩ | (simp [hs, hkl, hd, hm] <;> omega) | exact hd | exact hd.symm | exact (hs _).symm | (refine And.intro ?_ ?_ <;> exact trivial) | exact ⟨trivial, trivial, trivial⟩) ?_ | refine whole_sub ?_
  first | refine hS _ _ _ ?_ | (intro cap0 hcap0; refine hS _ _ _ ?_)
  clear hS
  refine s_step rfl (by decide) rfl fun _ hS => ?_
  refine hS _ _ _ ?_
  clear hS
  refine s_nil ?_
  refine hK4 _ _ _ ?_
  refine hK3 _ _ _ ?_
  refine seq_k fun _ hK5 => ?_
  refine region_k (gd_ok h27) fun _ hK6 => ?_
  refine s_step rfl (by decide) rfl fun _ hS => ?_
  refine hS _ _ _ ?_
  clear hS
  refine s_step rfl (by decide) rfl fun _ hS => ?_
  repeat first | refine And.intro (by first | omega | exact trivial | rfl | exact inR_i64.mpr ⟨by omega, by omega⟩ | (simp [hs, hkl, hd, hm] <;> omega) | exact hd | exact hd.symm | exact (hs _).symm | (refine And.intro ?_ ?_ <;> exact trivial) | exact ⟨trivial, trivial, trivial⟩) ?_ | refine whole_yes (by first | omega | exact trivial | rfl | exact inR_i64.mpr ⟨by omega, by omega⟩ | (simp [hs, hkl, hd, hm] <;> omega) | exact hd | exact hd.symm | exact (hs _).symm | (refine And.intro ?_ ?_ <;> exact trivial) | exact ⟨trivial, trivial, trivial⟩) ?_ | refine whole_sub ?_
  first | refine hS _ _ _ ?_ | (intro cap1 hcap1; refine hS _ _ _ ?_)
  clear hS
  refine s_step rfl (by decide) rfl fun _ hS => ?_
  refine hS _ _ _ ?_
  clear hS
  refine s_nil ?_
  refine hK6 _ _ _ ?_
  refine hK5 _ _ _ ?_
  refine seq_k fun _ hK7 => ?_
  refine region_k (gd_ok h27) fun _ hK8 => ?_
  refine s_step rfl (by decide) rfl fun _ hS => ?_
  repeat refine And.intro (by first | omega | exact trivial | rfl | exact inR_i64.mpr ⟨by omega, by omega⟩ | (simp [hd] <;> omega) | exact hd | exact hd.symm | exact (hs _).symm | (refine And.intro ?_ ?_ <;> exact trivial) | exact ⟨trivial, trivial, trivial⟩) ?_
  first | refine hS _ _ _ ?_ | (refine ite_yes (by first | omega | exact trivial | rfl | exact inR_i64.mpr ⟨by omega, by omega⟩ | (simp [hd] <;> omega) | exact hd | exact hd.symm | exact (hs _).symm | (refine And.intro ?_ ?_ <;> exact trivial) | exact ⟨trivial, trivial, trivial⟩) ?_; refine hS _ _ _ ?_)
  clear hS
  refine s_step rfl (by decide) rfl fun _ hS => ?_
  repeat first | refine And.intro (by first | omega | exact trivial | rfl | exact inR_i64.mpr ⟨by omega, by omega⟩ | (simp [hs, hkl, hd, hm] <;> omega) | exact hd | exact hd.symm | exact (hs _).symm | (refine And.intro ?_ ?_ <;> exact trivial) | exact ⟨trivial, trivial, trivial⟩) ?_ | refine whole_yes (by first | omega | exact trivial | rfl | exact inR_i64.mpr ⟨by omega, by omega⟩ | (simp [hs, hkl, hd, hm] <;> omega) | exact hd | exact hd.symm | exact (hs _).symm | (refine And.intro ?_ ?_ <;> exact trivial) | exact ⟨trivial, trivial, trivial⟩) ?_ | refine whole_sub ?_
  first | refine hS _ _ _ ?_ | (intro cap1 hcap1; refine hS _ _ _ ?_)
  clear hS
  refine s_step rfl (by decide) rfl fun _ hS => ?_
  refine hS _ _ _ ?_
  clear hS
  refine s_nil ?_
  refine hK8 _ _ _ ?_
  refine hK7 _ _ _ ?_
  refine seq_k fun _ hK9 => ?_
  refine region_k (gd_ok h27) fun _ hK10 => ?_
  refine s_step rfl (by decide) rfl fun _ hS => ?_
  refine hS _ _ _ ?_
  clear hS
  refine s_step rfl (by decide) rfl fun _ hS => ?_
  refine hS _ _ _ ?_
  clear hS
  refine s_step rfl (by decide) rfl fun _ hS => ?_
  repeat first | refine And.intro (by first | omega | exact trivial | rfl | exact inR_i64.mpr ⟨by omega, by omega⟩ | (simp [hm] <;> omega) | exact hd | exact hd.symm | exact (hs _).symm | (refine And.intro ?_ ?_ <;> exact trivial) | exact ⟨trivial, trivial, trivial⟩) ?_ | refine whole_yes (by first | omega | exact trivial | rfl | exact inR_i64.mpr ⟨by omega, by omega⟩ | (simp [hs, hkl, hd, hm] <;> omega) | exact hd | exact hd.symm | exact (hs _).symm | (refine And.intro ?_ ?_ <;> exact trivial) | exact ⟨trivial, trivial, trivial⟩) ?_ | refine whole_sub ?_
  intro cap2 hcap2; refine hS _ _ _ ?_
  clear hS
  refine s_step rfl (by decide) rfl fun _ hS => ?_
  repeat first | refine And.intro (by first | omega | exact trivial | rfl | exact inR_i64.mpr ⟨by omega, by omega⟩ | (simp [hm] <;> omega) | exact hd | exact hd.symm | exact (hs _).symm | (refine And.intro ?_ ?_ <;> exact trivial) | exact ⟨trivial, trivial, trivial⟩) ?_ | refine whole_yes (by first | omega | exact trivial | rfl | exact inR_i64.mpr ⟨by omega, by omega⟩ | (simp [hm] <;> omega) | exact hd | exact hd.symm | exact (hs _).symm | (refine And.intro ?_ ?_ <;> exact trivial) | exact ⟨trivial, trivial, trivial⟩) ?_ | refine whole_sub ?_
  first | refine hS _ _ _ ?_ | (intro cap3 hcap3; refine hS _ _ _ ?_)
  clear hS
  refine s_step rfl (by decide) rfl fun _ hS => ?_
  repeat refine And.intro (by first | omega | exact trivial | rfl | exact inR_i64.mpr ⟨by omega, by omega⟩ | (simp [hs, hkl, hd, hm] <;> omega) | exact hd | exact hd.symm | exact (hs _).symm | (refine And.intro ?_ ?_ <;> exact trivial) | exact ⟨trivial, trivial, trivial⟩) ?_
  refine hS _ _ _ ?_
  clear hS
  refine s_step0 rfl rfl fun _ hS => ?_
  repeat refine And.intro (by first | omega | exact trivial | rfl | exact inR_i64.mpr ⟨by omega, by omega⟩ | (simp [hs] <;> omega) | exact hd | exact hd.symm | exact (hs _).symm | (refine And.intro ?_ ?_ <;> exact trivial) | exact ⟨trivial, trivial, trivial⟩) ?_
  first | refine hS _ _ _ ?_ | (refine splice_full (by first | omega | exact trivial | rfl | exact inR_i64.mpr ⟨by omega, by omega⟩ | (simp [hs] <;> omega) | exact hd | exact hd.symm | exact (hs _).symm | (refine And.intro ?_ ?_ <;> exact trivial) | exact ⟨trivial, trivial, trivial⟩) ?_; refine hS _ _ _ ?_)
  clear hS
  refine s_nil ?_
  refine hK10 _ _ _ ?_
  refine hK9 _ _ _ ?_
  refine seq_k fun _ hK11 => ?_
  refine region_k (gd_ok h27) fun _ hK12 => ?_
  refine s_step rfl (by decide) rfl fun _ hS => ?_
  repeat refine And.intro (by first | omega | exact trivial | rfl | exact inR_i64.mpr ⟨by omega, by omega⟩ | (simp [hd] <;> omega) | exact hd | exact hd.symm | exact (hs _).symm | (refine And.intro ?_ ?_ <;> exact trivial) | exact ⟨trivial, trivial, trivial⟩) ?_
  first | refine hS _ _ _ ?_ | (refine ite_yes (by first | omega | exact trivial | rfl | exact inR_i64.mpr ⟨by omega, by omega⟩ | (simp [hd] <;> omega) | exact hd | exact hd.symm | exact (hs _).symm | (refine And.intro ?_ ?_ <;> exact trivial) | exact ⟨trivial, trivial, trivial⟩) ?_; refine hS _ _ _ ?_)
  clear hS
  refine s_step rfl (by decide) rfl fun _ hS => ?_
  repeat first | refine And.intro (by first | omega | exact trivial | rfl | exact inR_i64.mpr ⟨by omega, by omega⟩ | (simp [hs, hkl, hd, hm] <;> omega) | exact hd | exact hd.symm | exact (hs _).symm | (refine And.intro ?_ ?_ <;> exact trivial) | exact ⟨trivial, trivial, trivial⟩) ?_ | refine whole_yes (by first | omega | exact trivial | rfl | exact inR_i64.mpr ⟨by omega, by omega⟩ | (simp [hs, hkl, hd, hm] <;> omega) | exact hd | exact hd.symm | exact (hs _).symm | (refine And.intro ?_ ?_ <;> exact trivial) | exact ⟨trivial, trivial, trivial⟩) ?_ | refine whole_sub ?_
  first | refine hS _ _ _ ?_ | (intro cap1 hcap1; refine hS _ _ _ ?_)
  clear hS
  refine s_step rfl (by decide) rfl fun _ hS => ?_
  refine hS _ _ _ ?_
  clear hS
  refine s_nil ?_
  refine hK12 _ _ _ ?_
  refine hK11 _ _ _ ?_
  refine seq_k fun _ hK13 => ?_
  refine sched_k (gd_ok h27) [(0, true), (1, true), (3, true), (4, true), (2, false), (5, false), (6, false), (7, false), (8, true), (9, true), (10, true), (11, true), (12, true)] rfl (by kernel_rfl) (by kernel_rfl) fun _ hK14 => ?_
  refine d_read rfl rfl (by decide) rfl fun _ hS => ?_
  repeat refine And.intro (by first | omega | exact trivial | rfl | exact inR_i64.mpr ⟨by omega, by omega⟩ | (simp [hd] <;> omega) | exact hd | exact hd.symm | exact (hs _).symm | (refine And.intro ?_ ?_ <;> exact trivial) | exact ⟨trivial, trivial, trivial⟩) ?_
  first | refine hS _ ?_ | (refine ite_yes (by first | omega | exact trivial | rfl | exact inR_i64.mpr ⟨by omega, by omega⟩ | (simp [hd] <;> omega) | exact hd | exact hd.symm | exact (hs _).symm | (refine And.intro ?_ ?_ <;> exact trivial) | exact ⟨trivial, trivial, trivial⟩) ?_; refine hS _ ?_)
  clear hS
  refine d_read rfl rfl (by decide) rfl fun _ hS => ?_
  refine hS _ ?_
  clear hS
  refine d_read rfl rfl (by decide) rfl fun _ hS => ?_
  refine hS _ ?_
  clear hS
  refine d_read rfl rfl (by decide) rfl fun _ hS => ?_
  repeat refine And.intro (by first | omega | exact trivial | rfl | exact inR_i64.mpr ⟨by omega, by omega⟩ | (simp [hs] <;> omega) | exact hd | exact hd.symm | exact (hs _).symm | (refine And.intro ?_ ?_ <;> exact trivial) | exact ⟨trivial, trivial, trivial⟩) ?_
  first | refine hS _ ?_ | (refine ite_yes (by first | omega | exact trivial | rfl | exact inR_i64.mpr ⟨by omega, by omega⟩ | (simp [hs] <;> omega) | exact hd | exact hd.symm | exact (hs _).symm | (refine And.intro ?_ ?_ <;> exact trivial) | exact ⟨trivial, trivial, trivial⟩) ?_; refine hS _ ?_)
  clear hS
  refine d_grow rfl rfl (by decide) rfl fun _ hS => ?_
  repeat first | refine And.intro (by first | omega | exact trivial | rfl | exact inR_i64.mpr ⟨by omega, by omega⟩ | (simp [hd] <;> omega) | exact hd | exact hd.symm | exact (hs _).symm | (refine And.intro ?_ ?_ <;> exact trivial) | exact ⟨trivial, trivial, trivial⟩) ?_ | refine whole_yes (by first | omega | exact trivial | rfl | exact inR_i64.mpr ⟨by omega, by omega⟩ | (simp [hs, hkl, hd, hm] <;> omega) | exact hd | exact hd.symm | exact (hs _).symm | (refine And.intro ?_ ?_ <;> exact trivial) | exact ⟨trivial, trivial, trivial⟩) ?_ | refine whole_sub ?_
  first | refine hS _ _ _ ?_ | (intro cap2 hcap2; refine hS _ _ _ ?_)
  clear hS
  refine d_grow rfl rfl (by decide) rfl fun _ hS => ?_
  repeat first | refine And.intro (by first | omega | exact trivial | rfl | exact inR_i64.mpr ⟨by omega, by omega⟩ | (simp [hs] <;> omega) | exact hd | exact hd.symm | exact (hs _).symm | (refine And.intro ?_ ?_ <;> exact trivial) | exact ⟨trivial, trivial, trivial⟩) ?_ | refine whole_yes (by first | omega | exact trivial | rfl | exact inR_i64.mpr ⟨by omega, by omega⟩ | (simp [hs, hkl, hd, hm] <;> omega) | exact hd | exact hd.symm | exact (hs _).symm | (refine And.intro ?_ ?_ <;> exact trivial) | exact ⟨trivial, trivial, trivial⟩) ?_ | refine whole_sub ?_
  first | refine hS _ _ _ ?_ | (intro cap5 hcap5; refine hS _ _ _ ?_)
  clear hS
  refine d_grow rfl rfl (by decide) rfl fun _ hS => ?_
  repeat first | refine And.intro (by first | omega | exact trivial | rfl | exact inR_i64.mpr ⟨by omega, by omega⟩ | (simp [hs, hm] <;> omega) | exact hd | exact hd.symm | exact (hs _).symm | (refine And.intro ?_ ?_ <;> exact trivial) | exact ⟨trivial, trivial, trivial⟩) ?_ | refine whole_yes (by first | omega | exact trivial | rfl | exact inR_i64.mpr ⟨by omega, by omega⟩ | (simp [hs] <;> omega) | exact hd | exact hd.symm | exact (hs _).symm | (refine And.intro ?_ ?_ <;> exact trivial) | exact ⟨trivial, trivial, trivial⟩) ?_ | refine whole_sub ?_
  intro cap6 hcap6; refine hS _ _ _ ?_
  clear hS
  refine d_grow rfl rfl (by decide) rfl fun _ hS => ?_
  repeat first | refine And.intro (by first | omega | exact trivial | rfl | exact inR_i64.mpr ⟨by omega, by omega⟩ | (simp [hs, hm] <;> omega) | exact hd | exact hd.symm | exact (hs _).symm | (refine And.intro ?_ ?_ <;> exact trivial) | exact ⟨trivial, trivial, trivial⟩) ?_ | refine whole_yes (by first | omega | exact trivial | rfl | exact inR_i64.mpr ⟨by omega, by omega⟩ | (simp [hs, hm] <;> omega) | exact hd | exact hd.symm | exact (hs _).symm | (refine And.intro ?_ ?_ <;> exact trivial) | exact ⟨trivial, trivial, trivial⟩) ?_ | refine whole_sub ?_
  first | refine hS _ _ _ ?_ | (intro cap7 hcap7; refine hS _ _ _ ?_)
  clear hS
  refine d_read rfl rfl (by decide) rfl fun _ hS => ?_
  repeat refine And.intro (by first | omega | exact trivial | rfl | exact inR_i64.mpr ⟨by omega, by omega⟩ | (simp [hs, hkl] <;> omega) | exact hd | exact hd.symm | exact (hs _).symm | (refine And.intro ?_ ?_ <;> exact trivial) | exact ⟨trivial, trivial, trivial⟩) ?_
  refine hS _ ?_
  clear hS
  refine d_read rfl rfl (by decide) rfl fun _ hS => ?_
  refine d_split hS (fun hb9 => ?_) (fun hb9 => ?_)
  rotate_left 1
  · exfalso; exact of_decide_eq_false hb9 rfl
  clear hS
  refine d_readg (b := true) rfl rfl (by decide) rfl rfl (fun _ _ hS => ?_) (fun e => absurd e (by decide))
  refine hS _ ?_
  clear hS
  refine d_read rfl rfl (by decide) rfl fun _ hS => ?_
  refine hS _ ?_
  clear hS
  refine d_read rfl rfl (by decide) rfl fun _ hS => ?_
  refine hS _ ?_
  clear hS
  refine d_nil ?_
  refine hK14 _ _ _ ?_
  refine hK13 _ _ _ ?_
  refine WP_ret (Done_flat (gd_ok h27) (fun _ _ h => h) (by first | rfl | assumption) [.tmp 4] rfl ?_)
  repeat refine And.intro (by first | omega | exact trivial | rfl | (simp <;> omega)) ?_
  try refine ite_yes (by first | omega | exact trivial | rfl | (simp <;> omega)) ?_
  show _ = _
  rfl
end Go.Proofs.YtdanaehfdbdhdaaDoor
