/- Rotation and the first state. -/
import Derived.Test.YtdanaehfdbdhdaaDoorCtx
import Derived.Test.YtdanaehfdbdhdaaDoorAb14
import Derived.Test.YtdanaehfdbdhdaaDoorSha0
namespace Go.Proofs.YtdanaehfdbdhdaaDoor
set_option linter.unusedVariables false
open Go.Ab Go.RowKit

/-- The one table the program reads. -/
def gl : Nat → Option Cont := fun g => if g = 0 then some (.u32s Sha.consts) else none
noncomputable def g0 : Ctx := { P := Tryd.prog, ty := ty, glob := gl, fs := [] }
theorem g0_ok : g0.OK := ⟨tyOK, trivial, mixed⟩
@[simp] theorem g0_ty : g0.ty = ty := rfl

def rotateS : QSpec := fun vs K => match vs with
  | [.c (.u32 x), .c (.int .i64 k)] => (0 < k ∧ k < 32) ∧ K (.c (.u32 (Sha.rotr x k.toNat)))
  | _ => False
theorem rotate_ok : FlatOK Tryd.prog gl 35 rotateS := by
  refine flat_of (Γ := g0) (N := 13) Tryd.func35 rfl rfl fun vs K h => ?_
  unfold rotateS at h
  split at h
  · rename_i x k
    obtain ⟨⟨h0, h1⟩, h⟩ := h
    refine ⟨_, h, rfl, by simp, fun w I => ?_⟩
    refine seq_k fun _ hK1 => ?_
    refine region_k g0_ok fun _ hK2 => ?_
    refine s_step rfl (by decide) rfl fun _ hS => ?_
    refine hS _ _ _ ?_
    clear hS
    refine s_nil ?_
    refine hK2 _ _ _ ?_
    refine hK1 _ _ _ ?_
    refine seq_k fun _ hK3 => ?_
    refine quiet_k g0_ok (by kernel_rfl) fun _ hK4 => ?_
    refine q_step rfl (by decide) rfl fun _ hS => ?_
    refine hS _ ?_
    clear hS
    refine q_step rfl (by decide) rfl fun _ hS => ?_
    refine hS _ ?_
    clear hS
    refine q_step rfl (by decide) rfl fun _ hS => ?_
    repeat refine And.intro (by first | omega | exact trivial | rfl | (simp <;> omega)) ?_
    refine hS _ ?_
    clear hS
    refine q_step rfl (by decide) rfl fun _ hS => ?_
    refine hS _ ?_
    clear hS
    refine q_step rfl (by decide) rfl fun _ hS => ?_
    refine hS _ ?_
    clear hS
    refine q_step rfl (by decide) rfl fun _ hS => ?_
    repeat refine And.intro (by first | omega | exact trivial | rfl | (simp <;> omega)) ?_
    refine hS _ ?_
    clear hS
    refine q_step rfl (by decide) rfl fun _ hS => ?_
    repeat refine And.intro (by first | omega | exact trivial | rfl | (simp <;> omega)) ?_
    refine hS _ ?_
    clear hS
    refine q_step rfl (by decide) rfl fun _ hS => ?_
    repeat refine And.intro (by first | omega | exact trivial | rfl | (simp <;> omega)) ?_
    refine hS _ ?_
    clear hS
    refine q_step rfl (by decide) rfl fun _ hS => ?_
    refine hS _ ?_
    clear hS
    refine q_nil ?_
    refine hK4 _ ?_
    refine hK3 _ _ _ ?_
    refine WP_ret (Done_flat g0_ok (fun _ _ h => h) (by first | rfl | assumption) [.tmp 4] rfl ?_)
    repeat refine And.intro (by first | omega | exact trivial | rfl | (simp <;> omega)) ?_
    try refine ite_yes (by first | omega | exact trivial | rfl | (simp <;> omega)) ?_
    show _ = _
    rw [Sha.rotr, show (32 - k).toNat = 32 - k.toNat by omega]
    rfl
  · exact h.elim
def initialS : QSpec := fun vs K => match vs with
  | [] => K (.agg (.u32s Sha.start))
  | _ => False
theorem initial_ok : FlatOK Tryd.prog gl 28 initialS := by
  refine flat_of (Γ := g0) (N := 2) Tryd.func28 rfl rfl fun vs K h => ?_
  unfold initialS at h
  split at h
  · refine ⟨_, h, rfl, by simp, fun w I => ?_⟩
    refine seq_k fun _ hK1 => ?_
    refine region_k g0_ok fun _ hK2 => ?_
    refine s_step rfl (by decide) rfl fun _ hS => ?_
    repeat refine And.intro (by first | omega | exact trivial | rfl | (simp <;> omega)) ?_
    refine hS _ _ _ ?_
    clear hS
    refine s_nil ?_
    refine hK2 _ _ _ ?_
    refine hK1 _ _ _ ?_
    refine seq_k fun _ hK3 => ?_
    refine region_k g0_ok fun _ hK4 => ?_
    refine s_step rfl (by decide) rfl fun _ hS => ?_
    repeat refine And.intro (by first | omega | exact trivial | rfl | (simp <;> omega)) ?_
    refine hS _ _ _ ?_
    clear hS
    refine s_step0 rfl rfl fun _ hS => ?_
    repeat refine And.intro (by first | omega | exact trivial | rfl | (simp <;> omega)) ?_
    first | refine hS _ _ _ ?_ | (refine splice_full (by first | omega | exact trivial | rfl | (simp <;> omega)) ?_; refine hS _ _ _ ?_)
    clear hS
    refine s_nil ?_
    refine hK4 _ _ _ ?_
    refine hK3 _ _ _ ?_
    refine WP_ret (Done_flat g0_ok (fun _ _ h => h) (by first | rfl | assumption) [.cell 0 49] rfl ?_)
    repeat refine And.intro (by first | omega | exact trivial | rfl | (simp <;> omega)) ?_
    try refine ite_yes (by first | omega | exact trivial | rfl | (simp <;> omega)) ?_
    show _ = _
    rfl
  · exact h.elim

end Go.Proofs.YtdanaehfdbdhdaaDoor
