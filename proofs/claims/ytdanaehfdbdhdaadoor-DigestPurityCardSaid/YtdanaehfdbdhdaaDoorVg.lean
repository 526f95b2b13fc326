/- The keyed digest of the reference. -/
import Derived.Test.YtdanaehfdbdhdaaDoorVe
import Derived.Test.YtdanaehfdbdhdaaDoorVf
namespace Go.Proofs.YtdanaehfdbdhdaaDoor
set_option linter.unusedVariables false
open Go.Ab Go.RowKit

def keyed (d l : List UInt8) : List UInt8 := Sha.sum (masked d 92 64 ++ Sha.sum (masked d 54 64 ++ l))
theorem keyed_length (d l : List UInt8) : (keyed d l).length = 32 := Sha.sum_length _
noncomputable def g5 : Ctx := { P := Tryd.prog, ty := ty, glob := gl, fs := [(15, .flat sumS), (22, .own maskedS), (23, .own bytesS)] }
theorem g5_ok : g5.OK := ⟨tyOK, ⟨⟨enters_mk Tryd.func15 (by kernel_rfl) rfl, sumR_ok⟩, ⟨enters_mk Tryd.func22 (by kernel_rfl) rfl, maskedR_ok⟩, ⟨enters_mk Tryd.func23 (by kernel_rfl) rfl, bytesR_ok⟩, trivial⟩, mixed⟩
@[simp] theorem g5_ty : g5.ty = ty := rfl

attribute [local irreducible] Sha.sum masked
def keyedS : QSpec := fun vs K => match vs with
  | [.agg (.u8s d), .c (.ds n (.u8s l))] => (d.length = 32 ∧ n = l.length ∧ n ≤ 1000000) ∧ K (.agg (.u8s (keyed d l)))
  | _ => False
set_option maxHeartbeats 400000 in
theorem keyedR_ok : FlatOK Tryd.prog gl 17 keyedS := by
  refine flat_of (Γ := g5) (N := 21) Tryd.func17 rfl rfl fun vs K h => ?_
  unfold keyedS at h
  split at h
  · rename_i d n l
    obtain ⟨⟨hd, hn, hl⟩, h⟩ := h
    subst hn
    refine ⟨_, h, rfl, by simp, fun w I => ?_⟩
    have hm := masked_length d
    have hs := fun b => Sha.sum_length b
    refine seq_k fun _ hK1 => ?_
    refine region_k g5_ok fun _ hK2 => ?_
    refine s_step rfl (by decide) rfl fun _ hS => ?_
    repeat refine And.intro (by first | omega | exact trivial | rfl | (simp [hd, hm, hs] <;> omega) | exact hd.symm | exact (hs _).symm) ?_
    refine hS _ _ _ ?_
    clear hS
    refine s_step rfl (by decide) rfl fun _ hS => ?_
    repeat refine And.intro (by first | omega | exact trivial | rfl | (simp [hd, hm, hs] <;> omega) | exact hd.symm | exact (hs _).symm) ?_
    refine hS _ _ _ ?_
    clear hS
    refine s_nil ?_
    refine hK2 _ _ _ ?_
    refine hK1 _ _ _ ?_
    refine seq_k fun _ hK3 => ?_
    refine region_k g5_ok fun _ hK4 => ?_
    refine s_step rfl (by decide) rfl fun _ hS => ?_
    repeat refine And.intro (by first | omega | exact trivial | rfl | (simp [hd] <;> omega) | exact hd.symm | exact (hs _).symm) ?_
    first | refine hS _ _ _ ?_ | (refine ite_yes (by first | omega | exact trivial | rfl | (simp [hd] <;> omega) | exact hd.symm | exact (hs _).symm) ?_; refine hS _ _ _ ?_)
    clear hS
    refine s_step rfl (by decide) rfl fun _ hS => ?_
    repeat first | refine And.intro (by first | omega | exact trivial | rfl | (simp [hd, hm, hs] <;> omega) | exact hd.symm | exact (hs _).symm) ?_ | refine whole_yes (by first | omega | exact trivial | rfl | (simp [hd, hm, hs] <;> omega) | exact hd.symm | exact (hs _).symm) ?_ | refine whole_sub ?_
    first | refine hS _ _ _ ?_ | (intro cap1 hcap1; refine hS _ _ _ ?_)
    clear hS
    refine s_step rfl (by decide) rfl fun _ hS => ?_
    refine hS _ _ _ ?_
    clear hS
    refine s_nil ?_
    refine hK4 _ _ _ ?_
    refine hK3 _ _ _ ?_
    refine seq_k fun _ hK5 => ?_
    refine region_k g5_ok fun _ hK6 => ?_
    refine s_step rfl (by decide) rfl fun _ hS => ?_
    refine hS _ _ _ ?_
    clear hS
    refine s_step rfl (by decide) rfl fun _ hS => ?_
    refine hS _ _ _ ?_
    clear hS
    refine s_step rfl (by decide) rfl fun _ hS => ?_
    repeat first | refine And.intro (by first | omega | exact trivial | rfl | (simp [hm] <;> omega) | exact hd.symm | exact (hs _).symm) ?_ | refine whole_yes (by first | omega | exact trivial | rfl | (simp [hd, hm, hs] <;> omega) | exact hd.symm | exact (hs _).symm) ?_ | refine whole_sub ?_
    intro cap2 hcap2; refine hS _ _ _ ?_
    clear hS
    refine s_step rfl (by decide) rfl fun _ hS => ?_
    repeat first | refine And.intro (by first | omega | exact trivial | rfl | (simp [hm] <;> omega) | exact hd.symm | exact (hs _).symm) ?_ | refine whole_yes (by first | omega | exact trivial | rfl | (simp [hm] <;> omega) | exact hd.symm | exact (hs _).symm) ?_ | refine whole_sub ?_
    first | refine hS _ _ _ ?_ | (intro cap3 hcap3; refine hS _ _ _ ?_)
    clear hS
    refine s_step rfl (by decide) rfl fun _ hS => ?_
    repeat refine And.intro (by first | omega | exact trivial | rfl | (simp [hd, hm, hs] <;> omega) | exact hd.symm | exact (hs _).symm) ?_
    refine hS _ _ _ ?_
    clear hS
    refine s_step0 rfl rfl fun _ hS => ?_
    repeat refine And.intro (by first | omega | exact trivial | rfl | (simp [hs] <;> omega) | exact hd.symm | exact (hs _).symm) ?_
    first | refine hS _ _ _ ?_ | (refine splice_full (by first | omega | exact trivial | rfl | (simp [hs] <;> omega) | exact hd.symm | exact (hs _).symm) ?_; refine hS _ _ _ ?_)
    clear hS
    refine s_nil ?_
    refine hK6 _ _ _ ?_
    refine hK5 _ _ _ ?_
    refine seq_k fun _ hK7 => ?_
    refine region_k g5_ok fun _ hK8 => ?_
    refine s_step rfl (by decide) rfl fun _ hS => ?_
    repeat refine And.intro (by first | omega | exact trivial | rfl | (simp [hd] <;> omega) | exact hd.symm | exact (hs _).symm) ?_
    first | refine hS _ _ _ ?_ | (refine ite_yes (by first | omega | exact trivial | rfl | (simp [hd] <;> omega) | exact hd.symm | exact (hs _).symm) ?_; refine hS _ _ _ ?_)
    clear hS
    refine s_step rfl (by decide) rfl fun _ hS => ?_
    repeat first | refine And.intro (by first | omega | exact trivial | rfl | (simp [hd, hm, hs] <;> omega) | exact hd.symm | exact (hs _).symm) ?_ | refine whole_yes (by first | omega | exact trivial | rfl | (simp [hd, hm, hs] <;> omega) | exact hd.symm | exact (hs _).symm) ?_ | refine whole_sub ?_
    first | refine hS _ _ _ ?_ | (intro cap1 hcap1; refine hS _ _ _ ?_)
    clear hS
    refine s_step rfl (by decide) rfl fun _ hS => ?_
    refine hS _ _ _ ?_
    clear hS
    refine s_nil ?_
    refine hK8 _ _ _ ?_
    refine hK7 _ _ _ ?_
    refine seq_k fun _ hK9 => ?_
    refine region_k g5_ok fun _ hK10 => ?_
    refine s_step rfl (by decide) rfl fun _ hS => ?_
    refine hS _ _ _ ?_
    clear hS
    refine s_step rfl (by decide) rfl fun _ hS => ?_
    repeat refine And.intro (by first | omega | exact trivial | rfl | (simp [hs] <;> omega) | exact hd.symm | exact (hs _).symm) ?_
    first | refine hS _ _ _ ?_ | (refine ite_yes (by first | omega | exact trivial | rfl | (simp [hs] <;> omega) | exact hd.symm | exact (hs _).symm) ?_; refine hS _ _ _ ?_)
    clear hS
    refine s_step rfl (by decide) rfl fun _ hS => ?_
    repeat first | refine And.intro (by first | omega | exact trivial | rfl | (simp [hs] <;> omega) | exact hd.symm | exact (hs _).symm) ?_ | refine whole_yes (by first | omega | exact trivial | rfl | (simp [hd, hm, hs] <;> omega) | exact hd.symm | exact (hs _).symm) ?_ | refine whole_sub ?_
    first | refine hS _ _ _ ?_ | (intro cap2 hcap2; refine hS _ _ _ ?_)
    clear hS
    refine s_step rfl (by decide) rfl fun _ hS => ?_
    repeat first | refine And.intro (by first | omega | exact trivial | rfl | (simp [hm, hs] <;> omega) | exact hd.symm | exact (hs _).symm) ?_ | refine whole_yes (by first | omega | exact trivial | rfl | (simp [hs] <;> omega) | exact hd.symm | exact (hs _).symm) ?_ | refine whole_sub ?_
    intro cap3 hcap3; refine hS _ _ _ ?_
    clear hS
    refine s_step rfl (by decide) rfl fun _ hS => ?_
    repeat first | refine And.intro (by first | omega | exact trivial | rfl | (simp [hm, hs] <;> omega) | exact hd.symm | exact (hs _).symm) ?_ | refine whole_yes (by first | omega | exact trivial | rfl | (simp [hm, hs] <;> omega) | exact hd.symm | exact (hs _).symm) ?_ | refine whole_sub ?_
    first | refine hS _ _ _ ?_ | (intro cap4 hcap4; refine hS _ _ _ ?_)
    clear hS
    refine s_step0 rfl rfl fun _ hS => ?_
    repeat refine And.intro (by first | omega | exact trivial | rfl | (simp [hs] <;> omega) | exact hd.symm | exact (hs _).symm) ?_
    first | refine hS _ _ _ ?_ | (refine splice_full (by first | omega | exact trivial | rfl | (simp [hs] <;> omega) | exact hd.symm | exact (hs _).symm) ?_; refine hS _ _ _ ?_)
    clear hS
    refine s_nil ?_
    refine hK10 _ _ _ ?_
    refine hK9 _ _ _ ?_
    refine WP_ret (Done_flat g5_ok (fun _ _ h => h) (by first | rfl | assumption) [.cell 4 24] rfl ?_)
    repeat refine And.intro (by first | omega | exact trivial | rfl | (simp [hs] <;> omega)) ?_
    try refine ite_yes (by first | omega | exact trivial | rfl | (simp [hs] <;> omega)) ?_
    show _ = _
    rfl
  · exact h.elim

end Go.Proofs.YtdanaehfdbdhdaaDoor
