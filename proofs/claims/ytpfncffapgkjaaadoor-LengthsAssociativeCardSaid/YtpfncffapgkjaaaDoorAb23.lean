/- Structs of two one-cell fields as arguments. -/
import Derived.Test.YtpfncffapgkjaaaDoorAb20
import Derived.ChangeSame
namespace Go.Ab
set_option linter.unusedVariables false
open Go.RowKit Go.ChangeShapes Go.Deep
section
variable {H : Type} {enc : TypeId × Value → H} {P : Program} {W W' : World}

theorem arg_struct2 {r : Reach} {base : Nat} {t : TypeId} {f0 f1 : Field} {S0 S1 : Cell → Prop} {v : Value} {d : DataW H} {p : List MemPlace} (ht : P.underlying t = some (.struct #[f0, f1])) (o0 : f0.offset = 0) (o1 : f1.offset = 1)
    (c0 : P.cellsOf f0.type = 1) (c1 : P.cellsOf f1.type = 1) (ct : P.cellsOf t = 2) (h0 : Fit enc P W f0.type S0) (h1 : Fit enc P W f1.type S1) (hval : Value.okWide P W r base t v) (h : DataW.Trod enc P W 0 (fun _ => true) true t v d p) :
    ∃ v0 v1 a b, v = .agg #[v0, v1] ∧ CellD (oldI W) W a v0 ∧ CellD (oldI W) W b v1 ∧ S0 a ∧ S1 b := by
  obtain ⟨cs, rfl, hs⟩ := Go.WideShapes.okWide_struct ht hval
  obtain ⟨fuel, h⟩ := h
  obtain ⟨y0, y1, n, -, hl, hy0, hy1⟩ := trod_struct2 ht h
  obtain ⟨l⟩ := cs
  rw [ct] at hs
  match l, hs with
  | [v0, v1], _ =>
    have hy0' : DataW.trod enc P W 0 (fun _ => true) true n f0.type [v0] = some y0 := by rw [o0, c0] at hy0; exact hy0
    have hy1' : DataW.trod enc P W 0 (fun _ => true) true n f1.type [v1] = some y1 := by rw [o1, c1] at hy1; exact hy1
    obtain ⟨_, a, e0, ha, hsa⟩ := h0 _ _ _ hy0'
    obtain ⟨_, b, e1, hb, hsb⟩ := h1 _ _ _ hy1'
    cases e0
    cases e1
    exact ⟨v0, v1, a, b, rfl, ha, hb, hsa, hsb⟩
theorem argsD_pair {I : Nat → Prop} {a b : Cell} {x y : Value} {vs : List SV} {xs : List Value} (ha : CellD I W a x) (hb : CellD I W b y) (h : ArgsD I W vs xs) : ArgsD I W (.agg (.cells [a, b]) :: vs) (.agg #[x, y] :: xs) := by
  refine argsD_cons (s := .agg (.cells [a, b])) ⟨[x, y], rfl, rfl, fun j hj => ?_⟩ (fun z hz => ?_) h
  · match j, hj with
    | 0, _ => exact ⟨x, rfl, Cell.rel_of ha⟩
    | 1, _ => exact ⟨y, rfl, Cell.rel_of hb⟩
    | j + 2, hj => exact absurd hj (by simp only [Cont.len, List.length_cons, List.length_nil]; omega)
  · rcases List.mem_cons.1 hz with rfl | hz
    · exact CellD.low ha
    · rcases List.mem_cons.1 hz with rfl | hz
      · exact CellD.low hb
      · cases hz
end
end Go.Ab
