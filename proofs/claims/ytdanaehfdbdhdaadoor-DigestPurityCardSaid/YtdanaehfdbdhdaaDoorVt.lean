/- The law that the digest of a list tells lists apart. -/
import Derived.Test.YtdanaehfdbdhdaaDoorVr
namespace Go.Proofs.YtdanaehfdbdhdaaDoor
set_option linter.unusedVariables false
open Go.Ab Go.RowKit

theorem fewL_enc (ps : List (List UInt8)) : (encode (fewL ps)).length ≤ 1048576 := encode_bound _ (fewL_bound ps).1 (fewL_bound ps).2
noncomputable def ge : Ctx := { P := Tryd.prog, ty := ty, glob := gl, fs := [(11, .flat sanityS), (13, .ownD fewS), (14, .flat sumS), (18, .flat fieldsS), (19, .flat fieldsS), (24, .own encS), (25, .flat sameListsS)] }
theorem ge_ok (h27 : FlatOK Tryd.prog gl 27 hashS) : ge.OK := ⟨tyOK, ⟨⟨enters_mk Tryd.func11 (by kernel_rfl) rfl, sanity_ok h27⟩, ⟨enters_mk Tryd.func13 (by kernel_rfl) rfl, few_ok⟩, ⟨enters_mk Tryd.func14 (by kernel_rfl) rfl, sum_ok h27⟩, ⟨enters_mk Tryd.func18 (by kernel_rfl) rfl, fields_ok h27⟩, ⟨enters_mk Tryd.func19 (by kernel_rfl) rfl, fieldsR_ok⟩, ⟨enters_mk Tryd.func24 (by kernel_rfl) rfl, encR_ok⟩, ⟨enters_mk Tryd.func25 (by kernel_rfl) rfl, sameLists_ok⟩, trivial⟩, mixed⟩
@[simp] theorem ge_ty : ge.ty = ty := rfl


attribute [local irreducible] Sha.sum encode fewL
def lawInjectiveS : QSpec := fun vs K => ∃ ps qs, vs = [.c (.ds ps.length (.cells (lists ps))), .c (.ds qs.length (.cells (lists qs)))] ∧ (ps.length ≤ 9223372036854775807 ∧ (∀ p ∈ ps, p.length ≤ 9223372036854775807) ∧ qs.length ≤ 9223372036854775807 ∧ ∀ p ∈ qs, p.length ≤ 9223372036854775807) ∧ K (.c (.bool true))
set_option maxHeartbeats 2000000 in
theorem lawInjective_ok (h27 : FlatOK Tryd.prog gl 27 hashS) : FlatOK Tryd.prog gl 6 lawInjectiveS := by
  refine flat_of (Γ := ge) (N := 40) Tryd.func6 rfl rfl fun vs K h => ?_
  obtain ⟨ps, qs, rfl, ⟨hn, hp, hn2, hq⟩, h⟩ := h
  refine ⟨_, h, rfl, by simp, fun w I => ?_⟩
  have hs := Sha.sum_length
  have hfb := fewL_bound ps
  have hfb2 := fewL_bound qs
  have heb := fewL_enc ps
  refine seq_k fun _ hK1 => ?_
  refine region_k (ge_ok h27) fun _ hK2 => ?_
  refine s_step rfl (by decide) rfl fun _ hS => ?_
  refine hS _ _ _ ?_
  clear hS
  refine s_nil ?_
  refine hK2 _ _ _ ?_
  refine hK1 _ _ _ ?_
  refine seq_k fun _ hK3 => ?_
  refine region_k (ge_ok h27) fun _ hK4 => ?_
  refine s_step rfl (by decide) rfl fun _ hS => ?_
  repeat first | refine And.intro (by first | omega | exact trivial | rfl | exact inR_i64.mpr ⟨by omega, by omega⟩ | (simp [hs] <;> omega) | exact isD_lists _ | exact heb | (refine And.intro ?_ ?_ <;> exact trivial) | exact ⟨trivial, trivial, trivial⟩) ?_ | refine whole_yes (by first | omega | exact trivial | rfl | exact inR_i64.mpr ⟨by omega, by omega⟩ | (simp [hs] <;> omega) | exact isD_lists _ | exact heb | (refine And.intro ?_ ?_ <;> exact trivial) | exact ⟨trivial, trivial, trivial⟩) ?_ | refine whole_sub ?_
  first | refine hS _ _ _ ?_ | (intro cap0 hcap0; refine hS _ _ _ ?_)
  clear hS
  refine s_step rfl (by decide) rfl fun _ hS => ?_
  refine hS _ _ _ ?_
  clear hS
  refine s_nil ?_
  refine hK4 _ _ _ ?_
  refine hK3 _ _ _ ?_
  refine seq_k fun _ hK5 => ?_
  refine region_k (ge_ok h27) fun _ hK6 => ?_
  refine s_step rfl (by decide) rfl fun _ hS => ?_
  refine hS _ _ _ ?_
  clear hS
  refine s_step rfl (by decide) rfl fun _ hS => ?_
  repeat first | refine And.intro (by first | omega | exact trivial | rfl | exact inR_i64.mpr ⟨by omega, by omega⟩ | (simp [hs] <;> omega) | exact isD_lists _ | exact heb | (refine And.intro ?_ ?_ <;> exact trivial) | exact ⟨trivial, trivial, trivial⟩) ?_ | refine whole_yes (by first | omega | exact trivial | rfl | exact inR_i64.mpr ⟨by omega, by omega⟩ | (simp [hs] <;> omega) | exact isD_lists _ | exact heb | (refine And.intro ?_ ?_ <;> exact trivial) | exact ⟨trivial, trivial, trivial⟩) ?_ | refine whole_sub ?_
  refine Exists.intro ps ?_
  refine And.intro rfl ?_
  refine And.intro ⟨hn, hp⟩ ?_
  repeat refine And.intro (by first | omega | exact trivial | rfl | exact inR_i64.mpr ⟨by omega, by omega⟩ | (simp [hs] <;> omega) | exact isD_lists _ | exact heb | (refine And.intro ?_ ?_ <;> exact trivial) | exact ⟨trivial, trivial, trivial⟩) ?_
  first | refine hS _ _ _ ?_ | (intro cap1 hcap1; refine hS _ _ _ ?_)
  clear hS
  refine s_step rfl (by decide) rfl fun _ hS => ?_
  refine hS _ _ _ ?_
  clear hS
  refine s_step rfl (by decide) rfl fun _ hS => ?_
  repeat first | refine And.intro (by first | omega | exact trivial | rfl | exact inR_i64.mpr ⟨by omega, by omega⟩ | (simp [hs] <;> omega) | exact isD_lists _ | exact heb | (refine And.intro ?_ ?_ <;> exact trivial) | exact ⟨trivial, trivial, trivial⟩) ?_ | refine whole_yes (by first | omega | exact trivial | rfl | exact inR_i64.mpr ⟨by omega, by omega⟩ | (simp [hs] <;> omega) | exact isD_lists _ | exact heb | (refine And.intro ?_ ?_ <;> exact trivial) | exact ⟨trivial, trivial, trivial⟩) ?_ | refine whole_sub ?_
  refine Exists.intro qs ?_
  refine And.intro rfl ?_
  refine And.intro ⟨hn2, hq⟩ ?_
  repeat refine And.intro (by first | omega | exact trivial | rfl | exact inR_i64.mpr ⟨by omega, by omega⟩ | (simp [hs] <;> omega) | exact isD_lists _ | exact heb | (refine And.intro ?_ ?_ <;> exact trivial) | exact ⟨trivial, trivial, trivial⟩) ?_
  first | refine hS _ _ _ ?_ | (intro cap3 hcap3; refine hS _ _ _ ?_)
  clear hS
  refine s_step rfl (by decide) rfl fun _ hS => ?_
  refine hS _ _ _ ?_
  clear hS
  refine s_step rfl (by decide) rfl fun _ hS => ?_
  refine hS _ _ _ ?_
  clear hS
  refine s_nil ?_
  refine hK6 _ _ _ ?_
  refine hK5 _ _ _ ?_
  refine seq_k fun _ hK7 => ?_
  refine sched_k (ge_ok h27) [(0, true), (2, true), (1, false), (3, false), (4, false), (5, true), (6, true), (7, true), (9, true), (12, true), (13, true), (8, false), (10, false), (11, true), (14, false), (15, true), (16, true), (18, true), (17, false), (19, false), (20, true), (21, true), (22, true), (23, true), (24, true), (25, true), (26, true), (27, true)] rfl (by kernel_rfl) (by kernel_rfl) fun _ hK8 => ?_
  refine d_read rfl rfl (by decide) rfl fun _ hS => ?_
  refine hS _ ?_
  clear hS
  refine d_read rfl rfl (by decide) rfl fun _ hS => ?_
  refine hS _ ?_
  clear hS
  refine d_grow rfl rfl (by decide) rfl fun _ hS => ?_
  repeat first | refine And.intro (by first | omega | exact trivial | rfl | exact inR_i64.mpr ⟨by omega, by omega⟩ | (simp <;> omega) | exact isD_lists _ | exact heb | (refine And.intro ?_ ?_ <;> exact trivial) | exact ⟨trivial, trivial, trivial⟩) ?_ | refine whole_yes (by first | omega | exact trivial | rfl | exact inR_i64.mpr ⟨by omega, by omega⟩ | (simp <;> omega) | exact isD_lists _ | exact heb | (refine And.intro ?_ ?_ <;> exact trivial) | exact ⟨trivial, trivial, trivial⟩) ?_ | refine whole_sub ?_
  refine Exists.intro (fewL ps) ?_
  refine And.intro rfl ?_
  refine And.intro hfb ?_
  repeat refine And.intro (by first | omega | exact trivial | rfl | exact inR_i64.mpr ⟨by omega, by omega⟩ | (simp [hs] <;> omega) | exact isD_lists _ | exact heb | (refine And.intro ?_ ?_ <;> exact trivial) | exact ⟨trivial, trivial, trivial⟩) ?_
  first | refine hS _ _ _ ?_ | (intro cap1 hcap1; refine hS _ _ _ ?_)
  clear hS
  refine d_grow rfl rfl (by decide) rfl fun _ hS => ?_
  repeat first | refine And.intro (by first | omega | exact trivial | rfl | exact inR_i64.mpr ⟨by omega, by omega⟩ | (simp <;> omega) | exact isD_lists _ | exact heb | (refine And.intro ?_ ?_ <;> exact trivial) | exact ⟨trivial, trivial, trivial⟩) ?_ | refine whole_yes (by first | omega | exact trivial | rfl | exact inR_i64.mpr ⟨by omega, by omega⟩ | (simp <;> omega) | exact isD_lists _ | exact heb | (refine And.intro ?_ ?_ <;> exact trivial) | exact ⟨trivial, trivial, trivial⟩) ?_ | refine whole_sub ?_
  refine Exists.intro (fewL ps) ?_
  refine And.intro rfl ?_
  refine And.intro hfb ?_
  repeat refine And.intro (by first | omega | exact trivial | rfl | exact inR_i64.mpr ⟨by omega, by omega⟩ | (simp [hs] <;> omega) | exact isD_lists _ | exact heb | (refine And.intro ?_ ?_ <;> exact trivial) | exact ⟨trivial, trivial, trivial⟩) ?_
  first | refine hS _ _ _ ?_ | (intro cap3 hcap3; refine hS _ _ _ ?_)
  clear hS
  refine d_grow rfl rfl (by decide) rfl fun _ hS => ?_
  repeat first | refine And.intro (by first | omega | exact trivial | rfl | exact inR_i64.mpr ⟨by omega, by omega⟩ | (simp <;> omega) | exact isD_lists _ | exact heb | (refine And.intro ?_ ?_ <;> exact trivial) | exact ⟨trivial, trivial, trivial⟩) ?_ | refine whole_yes (by first | omega | exact trivial | rfl | exact inR_i64.mpr ⟨by omega, by omega⟩ | (simp <;> omega) | exact isD_lists _ | exact heb | (refine And.intro ?_ ?_ <;> exact trivial) | exact ⟨trivial, trivial, trivial⟩) ?_ | refine whole_sub ?_
  first | refine hS _ _ _ ?_ | (intro cap4 hcap4; refine hS _ _ _ ?_)
  clear hS
  refine d_read rfl rfl (by decide) rfl fun _ hS => ?_
  repeat refine And.intro (by first | omega | exact trivial | rfl | exact inR_i64.mpr ⟨by omega, by omega⟩ | (simp [hs] <;> omega) | exact isD_lists _ | exact heb | (refine And.intro ?_ ?_ <;> exact trivial) | exact ⟨trivial, trivial, trivial⟩) ?_
  refine hS _ ?_
  clear hS
  refine d_read rfl rfl (by decide) rfl fun _ hS => ?_
  refine d_split hS (fun hb6 => ?_) (fun hb6 => ?_)
  rotate_left 1
  · exfalso; simp at hb6
  clear hS
  refine d_readg (b := true) rfl rfl (by decide) rfl rfl (fun _ _ hS => ?_) (fun e => absurd e (by decide))
  refine hS _ ?_
  clear hS
  refine d_readg (b := true) rfl rfl (by decide) rfl rfl (fun _ _ hS => ?_) (fun e => absurd e (by decide))
  refine hS _ ?_
  clear hS
  refine d_readg (b := true) rfl rfl (by decide) rfl rfl (fun _ _ hS => ?_) (fun e => absurd e (by decide))
  refine hS _ ?_
  clear hS
  refine d_readg (b := true) rfl rfl (by decide) rfl rfl (fun _ _ hS => ?_) (fun e => absurd e (by decide))
  refine hS _ ?_
  clear hS
  refine d_growg (b := true) rfl rfl (by decide) rfl rfl (fun _ _ hS => ?_) (fun e => absurd e (by decide))
  repeat first | refine And.intro (by first | omega | exact trivial | rfl | exact inR_i64.mpr ⟨by omega, by omega⟩ | (simp <;> omega) | exact isD_lists _ | exact heb | (refine And.intro ?_ ?_ <;> exact trivial) | exact ⟨trivial, trivial, trivial⟩) ?_ | refine whole_yes (by first | omega | exact trivial | rfl | exact inR_i64.mpr ⟨by omega, by omega⟩ | (simp <;> omega) | exact isD_lists _ | exact heb | (refine And.intro ?_ ?_ <;> exact trivial) | exact ⟨trivial, trivial, trivial⟩) ?_ | refine whole_sub ?_
  refine Exists.intro (fewL ps) ?_
  refine And.intro rfl ?_
  refine And.intro hfb ?_
  repeat refine And.intro (by first | omega | exact trivial | rfl | exact inR_i64.mpr ⟨by omega, by omega⟩ | (simp [hs] <;> omega) | exact isD_lists _ | exact heb | (refine And.intro ?_ ?_ <;> exact trivial) | exact ⟨trivial, trivial, trivial⟩) ?_
  first | refine hS _ _ _ ?_ | (intro cap8 hcap8; refine hS _ _ _ ?_)
  clear hS
  refine d_growg (b := true) rfl rfl (by decide) rfl rfl (fun _ _ hS => ?_) (fun e => absurd e (by decide))
  repeat first | refine And.intro (by first | omega | exact trivial | rfl | exact inR_i64.mpr ⟨by omega, by omega⟩ | (simp <;> omega) | exact isD_lists _ | exact heb | (refine And.intro ?_ ?_ <;> exact trivial) | exact ⟨trivial, trivial, trivial⟩) ?_ | refine whole_yes (by first | omega | exact trivial | rfl | exact inR_i64.mpr ⟨by omega, by omega⟩ | (simp <;> omega) | exact isD_lists _ | exact heb | (refine And.intro ?_ ?_ <;> exact trivial) | exact ⟨trivial, trivial, trivial⟩) ?_ | refine whole_sub ?_
  refine Exists.intro (fewL qs) ?_
  refine And.intro rfl ?_
  refine And.intro hfb2 ?_
  repeat refine And.intro (by first | omega | exact trivial | rfl | exact inR_i64.mpr ⟨by omega, by omega⟩ | (simp [hs] <;> omega) | exact isD_lists _ | exact heb | (refine And.intro ?_ ?_ <;> exact trivial) | exact ⟨trivial, trivial, trivial⟩) ?_
  first | refine hS _ _ _ ?_ | (intro cap10 hcap10; refine hS _ _ _ ?_)
  clear hS
  refine d_readg (b := true) rfl rfl (by decide) rfl rfl (fun _ _ hS => ?_) (fun e => absurd e (by decide))
  repeat refine And.intro (by first | omega | exact trivial | rfl | exact inR_i64.mpr ⟨by omega, by omega⟩ | (simp [hs] <;> omega) | exact isD_lists _ | exact heb | (refine And.intro ?_ ?_ <;> exact trivial) | exact ⟨trivial, trivial, trivial⟩) ?_
  refine hS _ ?_
  clear hS
  refine d_growg (b := true) rfl rfl (by decide) rfl rfl (fun _ _ hS => ?_) (fun e => absurd e (by decide))
  repeat first | refine And.intro (by first | omega | exact trivial | rfl | exact inR_i64.mpr ⟨by omega, by omega⟩ | (simp <;> omega) | exact isD_lists _ | exact heb | (refine And.intro ?_ ?_ <;> exact trivial) | exact ⟨trivial, trivial, trivial⟩) ?_ | refine whole_yes (by first | omega | exact trivial | rfl | exact inR_i64.mpr ⟨by omega, by omega⟩ | (simp <;> omega) | exact isD_lists _ | exact heb | (refine And.intro ?_ ?_ <;> exact trivial) | exact ⟨trivial, trivial, trivial⟩) ?_ | refine whole_sub ?_
  refine Exists.intro (fewL ps) ?_
  refine Exists.intro (fewL qs) ?_
  refine And.intro rfl ?_
  refine And.intro hfb.1 ?_
  repeat refine And.intro (by first | omega | exact trivial | rfl | exact inR_i64.mpr ⟨by omega, by omega⟩ | (simp [hs] <;> omega) | exact isD_lists _ | exact heb | (refine And.intro ?_ ?_ <;> exact trivial) | exact ⟨trivial, trivial, trivial⟩) ?_
  first | refine hS _ _ _ ?_ | (intro cap14 hcap14; refine hS _ _ _ ?_)
  clear hS
  refine d_readg (b := true) rfl rfl (by decide) rfl rfl (fun _ _ hS => ?_) (fun e => absurd e (by decide))
  refine d_split hS (fun hb15 => ?_) (fun hb15 => ?_)
  · clear hS
    simp only [decide_eq_true_eq] at hb15
    refine d_readg (b := true) rfl rfl (by decide) rfl rfl (fun e => absurd e (by decide)) (fun _ => ?_)
    refine d_readg (b := true) rfl rfl (by decide) rfl rfl (fun e => absurd e (by decide)) (fun _ => ?_)
    refine d_growg (b := true) rfl rfl (by decide) rfl rfl (fun e => absurd e (by decide)) (fun _ => ?_)
    refine d_growg (b := true) rfl rfl (by decide) rfl rfl (fun e => absurd e (by decide)) (fun _ => ?_)
    refine d_readg (b := true) rfl rfl (by decide) rfl rfl (fun e => absurd e (by decide)) (fun _ => ?_)
    refine d_readg (b := true) rfl rfl (by decide) rfl rfl (fun _ _ hS => ?_) (fun e => absurd e (by decide))
    refine hS _ ?_
    clear hS
    refine d_readg (b := true) rfl rfl (by decide) rfl rfl (fun _ _ hS => ?_) (fun e => absurd e (by decide))
    repeat refine And.intro (by first | omega | exact trivial | rfl | exact inR_i64.mpr ⟨by omega, by omega⟩ | (simp [hs] <;> omega) | exact isD_lists _ | exact heb | (refine And.intro ?_ ?_ <;> exact trivial) | exact ⟨trivial, trivial, trivial⟩) ?_
    refine hS _ ?_
    clear hS
    refine d_read rfl rfl (by decide) rfl fun _ hS => ?_
    refine hS _ ?_
    clear hS
    refine d_read rfl rfl (by decide) rfl fun _ hS => ?_
    refine d_split hS (fun hb24 => ?_) (fun hb24 => ?_)
    rotate_left 1
    · exfalso; first | (simp at hb24; done) | (rw [hb15] at hb24; simp at hb24)
    clear hS
    refine d_readg (b := true) rfl rfl (by decide) rfl rfl (fun _ _ hS => ?_) (fun e => absurd e (by decide))
    refine hS _ ?_
    clear hS
    refine d_read rfl rfl (by decide) rfl fun _ hS => ?_
    refine hS _ ?_
    clear hS
    refine d_read rfl rfl (by decide) rfl fun _ hS => ?_
    refine hS _ ?_
    clear hS
    refine d_nil ?_
    refine hK8 _ _ _ ?_
    refine hK7 _ _ _ ?_
    refine WP_ret (Done_flat (ge_ok h27) (fun _ _ h => h) (by first | rfl | assumption) [.tmp 4] rfl ?_)
    repeat refine And.intro (by first | omega | exact trivial | rfl | (simp <;> omega)) ?_
    try refine ite_yes (by first | omega | exact trivial | rfl | (simp <;> omega)) ?_
    show _ = _
    rfl
  · clear hS
    simp only [decide_eq_false_iff_not] at hb15
    refine d_readg (b := false) rfl rfl (by decide) rfl rfl (fun _ _ hS => ?_) (fun e => absurd e (by decide))
    refine hS _ ?_
    clear hS
    refine d_readg (b := false) rfl rfl (by decide) rfl rfl (fun _ _ hS => ?_) (fun e => absurd e (by decide))
    refine hS _ ?_
    clear hS
    refine d_growg (b := false) rfl rfl (by decide) rfl rfl (fun _ _ hS => ?_) (fun e => absurd e (by decide))
    repeat first | refine And.intro (by first | omega | exact trivial | rfl | exact inR_i64.mpr ⟨by omega, by omega⟩ | (simp <;> omega) | exact isD_lists _ | exact heb | (refine And.intro ?_ ?_ <;> exact trivial) | exact ⟨trivial, trivial, trivial⟩) ?_ | refine whole_yes (by first | omega | exact trivial | rfl | exact inR_i64.mpr ⟨by omega, by omega⟩ | (simp <;> omega) | exact isD_lists _ | exact heb | (refine And.intro ?_ ?_ <;> exact trivial) | exact ⟨trivial, trivial, trivial⟩) ?_ | refine whole_sub ?_
    refine Exists.intro (fewL ps) ?_
    refine And.intro rfl ?_
    refine And.intro hfb ?_
    repeat refine And.intro (by first | omega | exact trivial | rfl | exact inR_i64.mpr ⟨by omega, by omega⟩ | (simp [hs] <;> omega) | exact isD_lists _ | exact heb | (refine And.intro ?_ ?_ <;> exact trivial) | exact ⟨trivial, trivial, trivial⟩) ?_
    first | refine hS _ _ _ ?_ | (intro cap17 hcap17; refine hS _ _ _ ?_)
    clear hS
    refine d_growg (b := false) rfl rfl (by decide) rfl rfl (fun _ _ hS => ?_) (fun e => absurd e (by decide))
    repeat first | refine And.intro (by first | omega | exact trivial | rfl | exact inR_i64.mpr ⟨by omega, by omega⟩ | (simp <;> omega) | exact isD_lists _ | exact heb | (refine And.intro ?_ ?_ <;> exact trivial) | exact ⟨trivial, trivial, trivial⟩) ?_ | refine whole_yes (by first | omega | exact trivial | rfl | exact inR_i64.mpr ⟨by omega, by omega⟩ | (simp <;> omega) | exact isD_lists _ | exact heb | (refine And.intro ?_ ?_ <;> exact trivial) | exact ⟨trivial, trivial, trivial⟩) ?_ | refine whole_sub ?_
    refine Exists.intro (fewL qs) ?_
    refine And.intro rfl ?_
    refine And.intro hfb2 ?_
    repeat refine And.intro (by first | omega | exact trivial | rfl | exact inR_i64.mpr ⟨by omega, by omega⟩ | (simp [hs] <;> omega) | exact isD_lists _ | exact heb | (refine And.intro ?_ ?_ <;> exact trivial) | exact ⟨trivial, trivial, trivial⟩) ?_
    first | refine hS _ _ _ ?_ | (intro cap19 hcap19; refine hS _ _ _ ?_)
    clear hS
    refine d_readg (b := false) rfl rfl (by decide) rfl rfl (fun _ _ hS => ?_) (fun e => absurd e (by decide))
    repeat refine And.intro (by first | omega | exact trivial | rfl | exact inR_i64.mpr ⟨by omega, by omega⟩ | (simp [hs] <;> omega) | exact isD_lists _ | exact heb | (refine And.intro ?_ ?_ <;> exact trivial) | exact ⟨trivial, trivial, trivial⟩) ?_
    refine hS _ ?_
    clear hS
    refine d_readg (b := true) rfl rfl (by decide) rfl rfl (fun _ _ hS => ?_) (fun e => absurd e (by decide))
    refine hS _ ?_
    clear hS
    refine d_readg (b := true) rfl rfl (by decide) rfl rfl (fun _ _ hS => ?_) (fun e => absurd e (by decide))
    repeat refine And.intro (by first | omega | exact trivial | rfl | exact inR_i64.mpr ⟨by omega, by omega⟩ | (simp [hs] <;> omega) | exact isD_lists _ | exact heb | (refine And.intro ?_ ?_ <;> exact trivial) | exact ⟨trivial, trivial, trivial⟩) ?_
    refine hS _ ?_
    clear hS
    refine d_read rfl rfl (by decide) rfl fun _ hS => ?_
    refine hS _ ?_
    clear hS
    refine d_read rfl rfl (by decide) rfl fun _ hS => ?_
    refine d_split hS (fun hb24 => ?_) (fun hb24 => ?_)
    rotate_left 1
    · exfalso; first | (simp at hb24; done) | (rw [hb15] at hb24; simp at hb24)
    clear hS
    refine d_readg (b := true) rfl rfl (by decide) rfl rfl (fun _ _ hS => ?_) (fun e => absurd e (by decide))
    refine hS _ ?_
    clear hS
    refine d_read rfl rfl (by decide) rfl fun _ hS => ?_
    refine hS _ ?_
    clear hS
    refine d_read rfl rfl (by decide) rfl fun _ hS => ?_
    refine hS _ ?_
    clear hS
    refine d_nil ?_
    refine hK8 _ _ _ ?_
    refine hK7 _ _ _ ?_
    refine WP_ret (Done_flat (ge_ok h27) (fun _ _ h => h) (by first | rfl | assumption) [.tmp 4] rfl ?_)
    repeat refine And.intro (by first | omega | exact trivial | rfl | (simp <;> omega)) ?_
    try refine ite_yes (by first | omega | exact trivial | rfl | (simp <;> omega)) ?_
    show _ = _
    rfl
end Go.Proofs.YtdanaehfdbdhdaaDoor
