/- What closes side goals. -/
import Derived.Test.YtpfncffapgkjaaaDoorAb13
namespace Go.Ab
set_option linter.unusedVariables false

@[simp] theorem inR_i64_iff {n : Int} : inR .i64 n ↔ -9223372036854775808 ≤ n ∧ n ≤ 9223372036854775807 := inR_i64
@[simp] theorem len_u8s {l : List UInt8} : (Cont.u8s l).len = l.length := rfl
@[simp] theorem len_u32s {l : List UInt32} : (Cont.u32s l).len = l.length := rfl
@[simp] theorem len_u64s {l : List UInt64} : (Cont.u64s l).len = l.length := rfl
@[simp] theorem len_ints {k : IntKind} {l : List Int} : (Cont.ints k l).len = l.length := rfl
@[simp] theorem len_bools {l : List Bool} : (Cont.bools l).len = l.length := rfl
@[simp] theorem len_cells {l : List Cell} : (Cont.cells l).len = l.length := rfl
@[simp] theorem solid_u8s {l : List UInt8} : (Cont.u8s l).solid := trivial
@[simp] theorem solid_u32s {l : List UInt32} : (Cont.u32s l).solid := trivial
@[simp] theorem solid_u64s {l : List UInt64} : (Cont.u64s l).solid := trivial
@[simp] theorem solid_ints {k : IntKind} {l : List Int} : (Cont.ints k l).solid := trivial
@[simp] theorem solid_bools {l : List Bool} : (Cont.bools l).solid := trivial
@[simp] theorem max_i64 : IntKind.max .i64 = 9223372036854775807 := rfl
@[simp] theorem bits_i64 : IntKind.bits .i64 = 64 := rfl
theorem splice_full {c d : Cont} {K : Cont → Prop} (h : c.len = d.len) (hK : K d) : c.splice 0 d K := by
  unfold Cont.splice
  rw [if_pos ⟨rfl, h⟩]
  exact hK
theorem ite_yes {p a b : Prop} [Decidable p] (hp : p) (ha : a) : if p then a else b := by rw [if_pos hp]; exact ha
theorem ite_no {p a b : Prop} [Decidable p] (hp : ¬p) (hb : b) : if p then a else b := by rw [if_neg hp]; exact hb
theorem whole_sub {c : Cont} {off m : Nat} {K : Cont → Prop} (h : K (c.sub off m)) : wholeS c off m K := by
  unfold wholeS
  split
  · rename_i e
    obtain ⟨rfl, rfl⟩ := e
    rw [Cont.sub_all] at h
    exact h
  · exact h
theorem whole_yes {c : Cont} {m : Nat} {K : Cont → Prop} (h : c.len = m) (hK : K c) : wholeS c 0 m K := by
  unfold wholeS
  rw [if_pos ⟨rfl, h⟩]
  exact hK
theorem low_nil' {n : Nat} : (Cont.cells []).low n := fun x hx => by cases hx
theorem low_cons' {n : Nat} {x : Cell} {l : List Cell} (hx : x.low n) (h : (Cont.cells l).low n) : (Cont.cells (x :: l)).low n := fun y hy => by
  rcases List.mem_cons.1 hy with rfl | hy
  · exact hx
  · exact h y hy
end Go.Ab
