/- Fields of the reference; Sum of the program. -/
import Derived.Test.YtdanaehfdbdhdaaDoorVj
import Derived.Test.YtdanaehfdbdhdaaDoorVg
namespace Go.Proofs.YtdanaehfdbdhdaaDoor
set_option linter.unusedVariables false
open Go.Ab Go.RowKit

theorem encode_bound (ps : List (List UInt8)) (hn : ps.length ≤ 1000) (hp : ∀ p ∈ ps, p.length ≤ 1000) : (encode ps).length ≤ 1048576 := by
  have := encTo_bound ps hp ps.length (Nat.le_refl _)
  rw [encTo_full] at this
  omega
noncomputable def g6 : Ctx := { P := Tryd.prog, ty := ty, glob := gl, fs := [(15, .flat sumS), (24, .own encS)] }
theorem g6_ok : g6.OK := ⟨tyOK, ⟨⟨enters_mk Tryd.func15 (by kernel_rfl) rfl, sumR_ok⟩, ⟨enters_mk Tryd.func24 (by kernel_rfl) rfl, encR_ok⟩, trivial⟩, mixed⟩
@[simp] theorem g6_ty : g6.ty = ty := rfl


def fieldsS : QSpec := fun vs K => ∃ ps, vs = [.c (.ds ps.length (.cells (lists ps)))] ∧ (ps.length ≤ 1000 ∧ ∀ p ∈ ps, p.length ≤ 1000) ∧ K (.agg (.u8s (Sha.sum (encode ps))))
attribute [local irreducible] Sha.sum encode
set_option maxHeartbeats 400000 in
theorem fieldsR_ok : FlatOK Tryd.prog gl 19 fieldsS := by
  refine flat_of (Γ := g6) (N := 6) Tryd.func19 rfl rfl fun vs K h => ?_
  obtain ⟨ps, rfl, ⟨hn, hp⟩, h⟩ := h
  refine ⟨_, h, rfl, by simp, fun w I => ?_⟩
  have hb := encode_bound ps hn hp
  have hs := Sha.sum_length
  refine seq_k fun _ hK1 => ?_
  refine region_k g6_ok fun _ hK2 => ?_
  refine s_step rfl (by decide) rfl fun _ hS => ?_
  repeat refine And.intro (by first | omega | exact trivial | rfl | (simp <;> omega) | (refine And.intro ?_ ?_ <;> exact trivial) | exact ⟨trivial, trivial, trivial⟩) ?_
  refine hS _ _ _ ?_
  clear hS
  refine s_nil ?_
  refine hK2 _ _ _ ?_
  refine hK1 _ _ _ ?_
  refine seq_k fun _ hK3 => ?_
  refine region_k g6_ok fun _ hK4 => ?_
  refine s_step rfl (by decide) rfl fun _ hS => ?_
  refine hS _ _ _ ?_
  clear hS
  refine s_step rfl (by decide) rfl fun _ hS => ?_
  repeat first | refine And.intro (by first | omega | exact trivial | rfl | (simp [hs] <;> omega) | exact (hs _).symm | (refine And.intro ?_ ?_ <;> exact trivial) | exact ⟨trivial, trivial, trivial⟩) ?_ | refine whole_yes (by first | omega | exact trivial | rfl | (simp [hs] <;> omega) | exact (hs _).symm | (refine And.intro ?_ ?_ <;> exact trivial) | exact ⟨trivial, trivial, trivial⟩) ?_ | refine whole_sub ?_
  refine Exists.intro ps ?_
  refine And.intro rfl ?_
  refine And.intro ⟨hn, hp⟩ ?_
  repeat refine And.intro (by first | omega | exact trivial | rfl | (simp [hs] <;> omega) | exact (hs _).symm | (refine And.intro ?_ ?_ <;> exact trivial) | exact ⟨trivial, trivial, trivial⟩) ?_
  first | refine hS _ _ _ ?_ | (intro cap1 hcap1; refine hS _ _ _ ?_)
  clear hS
  refine s_step rfl (by decide) rfl fun _ hS => ?_
  repeat first | refine And.intro (by first | omega | exact trivial | rfl | (simp <;> omega) | exact (hs _).symm | (refine And.intro ?_ ?_ <;> exact trivial) | exact ⟨trivial, trivial, trivial⟩) ?_ | refine whole_yes (by first | omega | exact trivial | rfl | (simp <;> omega) | exact (hs _).symm | (refine And.intro ?_ ?_ <;> exact trivial) | exact ⟨trivial, trivial, trivial⟩) ?_ | refine whole_sub ?_
  first | refine hS _ _ _ ?_ | (intro cap2 hcap2; refine hS _ _ _ ?_)
  clear hS
  refine s_step0 rfl rfl fun _ hS => ?_
  repeat refine And.intro (by first | omega | exact trivial | rfl | (simp [hs] <;> omega) | exact (hs _).symm | (refine And.intro ?_ ?_ <;> exact trivial) | exact ⟨trivial, trivial, trivial⟩) ?_
  first | refine hS _ _ _ ?_ | (refine splice_full (by first | omega | exact trivial | rfl | (simp [hs] <;> omega) | exact (hs _).symm | (refine And.intro ?_ ?_ <;> exact trivial) | exact ⟨trivial, trivial, trivial⟩) ?_; refine hS _ _ _ ?_)
  clear hS
  refine s_nil ?_
  refine hK4 _ _ _ ?_
  refine hK3 _ _ _ ?_
  refine WP_ret (Done_flat g6_ok (fun _ _ h => h) (by first | rfl | assumption) [.cell 2 24] rfl ?_)
  repeat refine And.intro (by first | omega | exact trivial | rfl | (simp [hs] <;> omega)) ?_
  try refine ite_yes (by first | omega | exact trivial | rfl | (simp [hs] <;> omega)) ?_
  show _ = _
  rfl

/-- What the program's hash of a list of byte slices is. -/
def hashS : QSpec := fun vs K => ∃ ps, vs = [.c (.ds ps.length (.cells (lists ps)))] ∧ (ps.length ≤ 3000 ∧ ps.flatten.length ≤ 1048576) ∧ K (.agg (.u8s (Sha.sum ps.flatten)))
noncomputable def g7 : Ctx := { P := Tryd.prog, ty := ty, glob := gl, fs := [(27, .flat hashS)] }
theorem g7_ok (h27 : FlatOK Tryd.prog gl 27 hashS) : g7.OK := ⟨tyOK, ⟨⟨enters_mk Tryd.func27 (by kernel_rfl) rfl, h27⟩, trivial⟩, mixed⟩
@[simp] theorem g7_ty : g7.ty = ty := rfl


set_option maxHeartbeats 400000 in
theorem sum_ok (h27 : FlatOK Tryd.prog gl 27 hashS) : FlatOK Tryd.prog gl 14 sumS := by
  refine flat_of (Γ := g7) (N := 6) Tryd.func14 rfl rfl fun vs K h => ?_
  unfold sumS at h
  split at h
  · rename_i n l
    obtain ⟨⟨hn, hl⟩, h⟩ := h
    subst hn
    refine ⟨_, h, rfl, by simp, fun w I => ?_⟩
    have hs := Sha.sum_length
    have e1 : [l].flatten = l := by simp
    refine seq_k fun _ hK1 => ?_
    refine region_k (g7_ok h27) fun _ hK2 => ?_
    refine s_step rfl (by decide) rfl fun _ hS => ?_
    repeat refine And.intro (by first | omega | exact trivial | rfl | (simp <;> omega) | (refine And.intro ?_ ?_ <;> exact trivial) | exact ⟨trivial, trivial, trivial⟩) ?_
    refine hS _ _ _ ?_
    clear hS
    refine s_nil ?_
    refine hK2 _ _ _ ?_
    refine hK1 _ _ _ ?_
    refine seq_k fun _ hK3 => ?_
    refine region_k (g7_ok h27) fun _ hK4 => ?_
    refine s_step rfl (by decide) rfl fun _ hS => ?_
    refine hS _ _ _ ?_
    clear hS
    refine s_step rfl (by decide) rfl fun _ hS => ?_
    repeat refine And.intro (by first | omega | exact trivial | rfl | (simp [hs] <;> omega) | exact (hs _).symm | (refine And.intro ?_ ?_ <;> exact trivial) | exact ⟨trivial, trivial, trivial⟩) ?_
    refine hS _ _ _ ?_
    clear hS
    refine s_step rfl (by decide) rfl fun _ hS => ?_
    repeat first | refine And.intro (by first | omega | exact trivial | rfl | (simp <;> omega) | exact (hs _).symm | (refine And.intro ?_ ?_ <;> exact trivial) | exact ⟨trivial, trivial, trivial⟩) ?_ | refine whole_yes (by first | omega | exact trivial | rfl | (simp [hs] <;> omega) | exact (hs _).symm | (refine And.intro ?_ ?_ <;> exact trivial) | exact ⟨trivial, trivial, trivial⟩) ?_ | refine whole_sub ?_
    refine Exists.intro [l] ?_
    refine And.intro rfl ?_
    refine And.intro (by simp; omega) ?_
    rw [e1]
    repeat refine And.intro (by first | omega | exact trivial | rfl | (simp [hs] <;> omega) | exact (hs _).symm | (refine And.intro ?_ ?_ <;> exact trivial) | exact ⟨trivial, trivial, trivial⟩) ?_
    first | refine hS _ _ _ ?_ | (intro cap2 hcap2; refine hS _ _ _ ?_)
    clear hS
    refine s_step0 rfl rfl fun _ hS => ?_
    repeat refine And.intro (by first | omega | exact trivial | rfl | (simp [hs] <;> omega) | exact (hs _).symm | (refine And.intro ?_ ?_ <;> exact trivial) | exact ⟨trivial, trivial, trivial⟩) ?_
    first | refine hS _ _ _ ?_ | (refine splice_full (by first | omega | exact trivial | rfl | (simp [hs] <;> omega) | exact (hs _).symm | (refine And.intro ?_ ?_ <;> exact trivial) | exact ⟨trivial, trivial, trivial⟩) ?_; refine hS _ _ _ ?_)
    clear hS
    refine s_nil ?_
    refine hK4 _ _ _ ?_
    refine hK3 _ _ _ ?_
    refine WP_ret (Done_flat (g7_ok h27) (fun _ _ h => h) (by first | rfl | assumption) [.cell 2 24] rfl ?_)
    repeat refine And.intro (by first | omega | exact trivial | rfl | (simp [hs] <;> omega)) ?_
    try refine ite_yes (by first | omega | exact trivial | rfl | (simp [hs] <;> omega)) ?_
    show _ = _
    rfl
  · exact h.elim

end Go.Proofs.YtdanaehfdbdhdaaDoor
