/- A nil slice inside a row, as an own row of no cells. -/
import Derived.Test.YtpfncffapgkjaaaDoorAb21
namespace Go.Ab
set_option linter.unusedVariables false
open Go.RowKit
section
variable {Γ : Ctx} {N : Nat} {C : CC} {β : Val} {n : Nat} {E : Env} {H : Heap} {I : Nat → Prop} {a : Act} {w : World} {Q : Exit → Act → World → Prop}

theorem low_set {l : List Cell} {i m : Nat} {x : Cell} (h : (Cont.cells l).low m) (hx : x.low m) : (Cont.cells (l.set i x)).low m := fun y hy => by
  rcases List.mem_or_eq_of_mem_set hy with hy | rfl
  · exact h y hy
  · exact hx
theorem rel_set {l : List Cell} {i m cap : Nat} (hn : l[i]? = some .nils) {vs : List Value} (h : (Cont.cells l).rel β I w vs) (hb : β m = none) : (Cont.cells (l.set i (.slice m 0 0 0))).rel β I w vs := by
  refine ⟨by rw [h.1]; simp [Cont.len], fun j hj => ?_⟩
  simp only [Cont.len, List.length_set] at hj
  obtain ⟨v, hv, hr⟩ := h.2 j hj
  refine ⟨v, hv, ?_⟩
  by_cases e : i = j
  · subst e
    have h1 : (Cont.cells l).get i = .nils := by simp [Cont.get, List.getD_eq_getElem?_getD, hn]
    rw [h1] at hr
    have h2 : v = .slice none 0 0 := CellD.of_flat (x := .nils) rfl hr
    have h3 : (Cont.cells (l.set i (.slice m 0 0 0))).get i = .slice m 0 0 0 := by simp [Cont.get, List.getD_eq_getElem?_getD, hj]
    rw [h3, h2]
    exact ⟨Nat.le_refl _, 0, by simp [place, hb], .inl rfl⟩
  · have h3 : (Cont.cells (l.set i (.slice m 0 0 0))).get j = (Cont.cells l).get j := by simp [Cont.get, List.getD_eq_getElem?_getD, e]
    rw [h3]; exact hr
/-- A nil slice in cell i of row r. -/
theorem WP_nilat {c : Code} (r i : Nat) (e : TypeId) (k : Cont) {t : TypeId} {l : List Cell} {cap : Nat} (hr : H.get r = some (.own t (.cells l) cap)) (hi : l[i]? = some .nils) (hk : k.len = 0) (hkb : k.low n)
    (h : WP Γ N C c E ((r, .own t (.cells (l.set i (.slice n 0 0 0))) cap) :: (n, .own e k 0) :: H) (n + 1) Q) : WP Γ N C c E H n Q := by
  intro β I a w hS
  have hE := hS.env.mono (upd_lt (β := β) (n := n) (x := none)) (Ext.refl I w) (Nat.le_succ n)
  have hH := hS.heap.pushNil (t := e) hk hkb
  have hrn : r ≠ n := by have := (hS.heap.low r _ hr).1; omega
  have hr' : Heap.get ((n, SObj.own e k 0) :: H) r = some (.own t (.cells l) cap) := by rw [Heap.get_cons, if_neg (fun e => hrn e.symm)]; exact hr
  have hlow := (hH.low r _ hr').2
  have hil : i < l.length := (List.getElem?_eq_some_iff.1 hi).1
  have hub : upd β n none n = none := upd_same
  rcases hH.holds r _ hr' with ⟨b, arr, h1, h2, h3, h4, h5⟩ | ⟨_, h0, _⟩
  · obtain ⟨_, hH2⟩ := hH.write (w' := w) (o' := .own t (.cells (l.set i (.slice n 0 0 0))) cap) hr' h1 rfl rfl rfl (Nat.le_refl _) (fun _ _ _ => rfl)
      (fun _ => .inl ⟨b, arr, rfl, h2, h3, by simpa [Cont.len] using h4, by
        have := rel_set (i := i) (m := n) (cap := 0) hi h5 hub
        simpa [Cont.len] using this⟩) (low_set hlow (Nat.lt_succ_self n))
    exact h (upd β n none) I a w ⟨hE, hS.size, hH2, hS.glob, Nat.le_succ_of_le hS.anch.1, fun i hi => by rw [upd_lt i (Nat.lt_of_lt_of_le hi hS.anch.1)]; exact hS.anch.2 i hi⟩
  · simp only [Cont.len] at h0; omega
end
end Go.Ab
