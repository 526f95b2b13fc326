/- The fixed examples. -/
import Derived.Test.YtpfncffapgkjaaaDoorAb14
import Derived.Test.YtpfncffapgkjaaaDoorAb21
import Derived.Test.YtpfncffapgkjaaaDoorCtx
import Derived.Test.YtpfncffapgkjaaaDoorLa
import Derived.Test.YtpfncffapgkjaaaDoorLc
import Derived.Test.YtpfncffapgkjaaaDoorLd
import Derived.Test.YtpfncffapgkjaaaDoorLe
import Derived.Test.YtpfncffapgkjaaaDoorLf
import Derived.Test.YtpfncffapgkjaaaDoorLg
import Derived.Test.YtpfncffapgkjaaaDoorLi
import Derived.Test.YtpfncffapgkjaaaDoorLm
import Derived.Test.YtpfncffapgkjaaaDoorLp
import Derived.Test.YtpfncffapgkjaaaDoorLr
namespace Go.Proofs.YtpfncffapgkjaaaDoor
set_option linter.unusedVariables false
open Go.Ab Go.RowKit

theorem qLw0 {a : Prop} (h : a := by first | omega | exact trivial | rfl | (simp only [len_u8s, len_u32s, len_u64s, len_ints, len_bools, len_cells]; omega) | exact inR_i64.mpr ⟨by omega, by omega⟩ | (simp <;> omega) | exact noclo_cons (fun _ _ h => by cases h) (noclo_cons (fun _ _ h => by cases h) noclo_nil) | decide | (refine And.intro ?_ ?_ <;> exact trivial) | exact ⟨trivial, trivial, trivial⟩ | decide | (refine And.intro rfl ?_; (repeat first | exact trivial | refine And.intro rfl ?_); done) | exact Nat.succ_pos _ | exact Nat.le_refl _ | (refine And.intro trivial ?_; (repeat first | exact trivial | refine And.intro trivial ?_); done)) : a := h

theorem uLw0 {a : Prop} (h : a := by
    repeat' (first | exact trivial | refine And.intro ?_ ?_ | rfl | omega | decide | (show (_ : Nat) < _; decide) | exact low_nil' | refine low_cons' ?_ ?_ | exact Nat.le_refl _ | exact Nat.succ_pos _)
    all_goals first | omega | exact low_lsC | (rw [if_pos ⟨rfl, rfl⟩]; rfl) | exact low_rows _ | skip) : a := h

/-- A nil slice stands for an empty one. -/
def nz (x y : Cell) : Prop := x = y ∨ (x = .nils ∧ y = .ds 0 (.bools []))
def nzV (v u : SV) : Prop := v = u ∨ ∃ a b a' b', v = .agg (.cells [a, b]) ∧ u = .agg (.cells [a', b']) ∧ nz a a' ∧ nz b b' ∧ u.low 0
def nzS : List SV → List SV → Prop
  | [], [] => True
  | v :: vs, u :: us => nzV v u ∧ nzS vs us
  | _, _ => False
theorem nzS_get : ∀ {vs us : List SV}, nzS vs us → vs.length = us.length ∧ ∀ (j : Nat) u, us[j]? = some u → ∃ v, vs[j]? = some v ∧ nzV v u
  | [], [], _ => ⟨rfl, fun j u h => by simp at h⟩
  | v :: vs, u :: us, h => by
    obtain ⟨h1, h2⟩ := nzS_get h.2
    refine ⟨by simp [h1], fun j z hj => ?_⟩
    cases j with
    | zero => simp at hj; subst hj; exact ⟨v, rfl, h.1⟩
    | succ j => have := h2 j z (by simpa using hj); simpa using this
  | [], _ :: _, h => h.elim
  | _ :: _, [], h => h.elim
theorem nz_rel {I : Nat → Prop} {w : World} {x y : Cell} (h : nz x y) {v : Value} (hr : x.rel noVal I w v) : y.rel noVal I w v := by
  rcases h with rfl | ⟨rfl, rfl⟩
  · exact hr
  · have := (Cell.rel_flat (x := .nils) rfl).1 hr
    subst this
    exact CellD.ds0 (.bools []) none 0 rfl
theorem nzV_rel {I : Nat → Prop} {w : World} {v u : SV} (h : nzV v u) {x : Value} (hr : v.rel noVal I w x) (hl : v.low 0) : u.rel noVal I w x ∧ u.low 0 := by
  rcases h with rfl | ⟨a, b, a', b', rfl, rfl, h1, h2, h3⟩
  · exact ⟨hr, hl⟩
  · obtain ⟨vs, rfl, hlen, hg⟩ := hr
    refine ⟨⟨vs, rfl, hlen, fun j hj => ?_⟩, h3⟩
    obtain ⟨y, hy, hry⟩ := hg j hj
    refine ⟨y, hy, ?_⟩
    match j, hj with
    | 0, _ => exact nz_rel h1 hry
    | 1, _ => exact nz_rel h2 hry
    | j + 2, hj => exact absurd hj (by simp only [Cont.len, List.length_cons, List.length_nil]; omega)
theorem noclo_nil : ∀ x ∈ ([] : List Cell), ∀ g cs, x ≠ Cell.clo g cs := fun x hx => by cases hx
theorem noclo_cons {x : Cell} {l : List Cell} (h : ∀ g cs, x ≠ Cell.clo g cs) (hl : ∀ y ∈ l, ∀ g cs, y ≠ Cell.clo g cs) : ∀ y ∈ x :: l, ∀ g cs, y ≠ Cell.clo g cs := fun y hy => by
  rcases List.mem_cons.1 hy with rfl | hy
  · exact h
  · exact hl y hy
def orN (q : QSpec) : QSpec := fun vs K => ∃ us, nzS vs us ∧ q us K
theorem args_nz {I : Nat → Prop} {w : World} {vs us : List SV} (hn : nzS vs us) {xs : List Value} (hA : ArgsD I w vs xs) : ArgsD I w us xs := by
  obtain ⟨h1, h2⟩ := nzS_get hn
  refine ⟨hA.1.trans h1, fun j u hu => ?_⟩
  obtain ⟨v, hv, hor⟩ := h2 j u hu
  obtain ⟨x, hx, hr, hl⟩ := hA.2 j v hv
  obtain ⟨h3, h4⟩ := nzV_rel hor hr hl
  exact ⟨x, hx, h3, h4⟩
theorem flat_nz {f : FuncId} {q : QSpec} (h : FlatOK Tryd.prog gl f q) : FlatOK Tryd.prog gl f (orN q) := by
  rintro vs K ⟨us, hn, hq⟩
  obtain ⟨v, hK, hf, hc⟩ := h us K hq
  exact ⟨v, hK, hf, fun I w xs hG hlt hA => hc I w xs hG hlt (args_nz hn hA)⟩
theorem data_nz {f : FuncId} {q : QSpec} (h : DataOK Tryd.prog gl f q) : DataOK Tryd.prog gl f (orN q) := by
  rintro vs K ⟨us, hn, hq⟩
  obtain ⟨v, hK, hf, hc⟩ := h us K hq
  exact ⟨v, hK, hf, fun I w xs hG hlt hA => hc I w xs hG hlt (args_nz hn hA)⟩
def oddD : Dfa := { cls := List.replicate 4 18446744073709551615, nc := 1, next := [[1], [0]], acc := [false, true] }
theorem s1 : canonL [true, false, true, false] [true, false] = (([], [true, false]), 0) := by decide +kernel
theorem s2 : sumL [] [true, false] [false, false, false, true] [false] = (([false, false], [false, true]), 0) := by decide +kernel
theorem s3 : mergeL (fun x y => x && y) [] [true, false] [] [true, false, false] = (([], [true, false, false, false, false, false]), 0) := by decide +kernel
theorem s4 : mergeL (fun x y => x || y) [] [false, false] [false] [false] = (([], [false]), 0) := by decide +kernel
theorem s5 : ofL oddD = (([], [false, true]), 0) := by decide +kernel
theorem s6 : leastL [false, false] [false, true] 4 = 5 := by decide +kernel
theorem s7 : leastL [] [false] 0 = -1 := by decide +kernel
theorem s8 : hasL [false, false] [false, true] 3 = true := by decide +kernel
theorem s9 : hasL [false, false] [false, true] 2 = false := by decide +kernel
theorem s10 : hasL [] [true, false] (-2) = false := by decide +kernel
noncomputable def w1 : Ctx := { P := Tryd.prog, ty := ty, glob := gl, fs := [(14, .data canonPS), (27, .data sumPS), (23, .data andPS), (25, .data (orN orPS)), (30, .data ofPS), (16, .flat (orN sameS)), (21, .flat leastS), (19, .flat hasS)] }
theorem w1_ok : w1.OK := ⟨tyOK, ⟨⟨enters_mk Tryd.func14 (by kernel_rfl) rfl, canonP_ok⟩, ⟨enters_mk Tryd.func27 (by kernel_rfl) rfl, sumP_ok⟩, ⟨enters_mk Tryd.func23 (by kernel_rfl) rfl, andP_ok⟩, ⟨enters_mk Tryd.func25 (by kernel_rfl) rfl, data_nz orP_ok⟩, ⟨enters_mk Tryd.func30 (by kernel_rfl) rfl, ofP_ok⟩, ⟨enters_mk Tryd.func16 (by kernel_rfl) rfl, flat_nz same_ok⟩, ⟨enters_mk Tryd.func21 (by kernel_rfl) rfl, least_ok⟩, ⟨enters_mk Tryd.func19 (by kernel_rfl) rfl, has_ok⟩, trivial⟩, mixed⟩
@[simp] theorem w1_ty : w1.ty = ty := rfl

def sanityS : QSpec := fun vs K => vs = [] ∧ K (.c (.bool true))
set_option maxHeartbeats 4000000 in
theorem sanity_ok : FlatOK Tryd.prog gl 12 sanityS := by
 refine flat_of (Γ := w1) (N := 134) Tryd.func12 rfl rfl fun vs K h => ?_
 obtain ⟨rfl, h⟩ := h
 refine ⟨_, h, rfl, by simp, fun w I => ?_⟩
 refine seq_k fun _ hK1 => ?_
 refine region_k w1_ok fun _ hK2 => ?_
 refine s_step rfl (by decide) rfl fun _ hS => ?_
 refine hS _ _ _ ?_
 clear hS
 refine s_nil ?_
 refine hK2 _ _ _ ?_
 refine hK1 _ _ _ ?_
 refine seq_k fun _ hK3 => ?_
 refine region_k w1_ok fun _ hK4 => ?_
 refine s_step rfl (by decide) rfl fun _ hS => ?_
 repeat refine And.intro qLw0 ?_
 refine hS _ _ _ ?_
 clear hS
 refine s_step rfl (by decide) rfl fun _ hS => ?_
 repeat refine And.intro qLw0 ?_
 refine hS _ _ _ ?_
 clear hS
 refine s_step rfl (by decide) rfl fun _ hS => ?_
 repeat refine And.intro qLw0 ?_
 refine hS _ _ _ ?_
 clear hS
 refine s_step0 rfl rfl fun _ hS => ?_
 repeat refine And.intro qLw0 ?_
 first | refine hS _ _ _ ?_ | (refine splice_full qLw0 ?_; refine hS _ _ _ ?_)
 clear hS
 refine s_nil ?_
 refine hK4 _ _ _ ?_
 refine hK3 _ _ _ ?_
 refine seq_k fun _ hK5 => ?_
 refine region_k w1_ok fun _ hK6 => ?_
 refine s_step rfl (by decide) rfl fun _ hS => ?_
 repeat refine And.intro qLw0 ?_
 refine hS _ _ _ ?_
 clear hS
 refine s_step rfl (by decide) rfl fun _ hS => ?_
 repeat refine And.intro qLw0 ?_
 refine hS _ _ _ ?_
 clear hS
 refine s_step rfl (by decide) rfl fun _ hS => ?_
 repeat refine And.intro qLw0 ?_
 refine hS _ _ _ ?_
 clear hS
 refine s_step rfl (by decide) rfl fun _ hS => ?_
 repeat refine And.intro qLw0 ?_
 refine hS _ _ _ ?_
 clear hS
 refine s_step0 rfl rfl fun _ hS => ?_
 repeat refine And.intro qLw0 ?_
 first | refine hS _ _ _ ?_ | (refine splice_full qLw0 ?_; refine hS _ _ _ ?_)
 clear hS
 refine s_nil ?_
 refine hK6 _ _ _ ?_
 refine hK5 _ _ _ ?_
 refine seq_k fun _ hK7 => ?_
 refine region_k w1_ok fun _ hK8 => ?_
 refine s_step rfl (by decide) rfl fun _ hS => ?_
 repeat refine And.intro qLw0 ?_
 refine hS _ _ _ ?_
 clear hS
 refine s_step rfl (by decide) rfl fun _ hS => ?_
 repeat refine And.intro qLw0 ?_
 refine hS _ _ _ ?_
 clear hS
 refine s_step rfl (by decide) rfl fun _ hS => ?_
 repeat refine And.intro qLw0 ?_
 refine hS _ _ _ ?_
 clear hS
 refine s_step0 rfl rfl fun _ hS => ?_
 repeat refine And.intro qLw0 ?_
 first | refine hS _ _ _ ?_ | (refine splice_full qLw0 ?_; refine hS _ _ _ ?_)
 clear hS
 refine s_nil ?_
 refine hK8 _ _ _ ?_
 refine hK7 _ _ _ ?_
 refine seq_k fun _ hK9 => ?_
 refine WP_le (is := [0, 2, 3, 5]) (ρ := id) (E' := [(0, .c (.bool false)), (1, .c (.ptr 1 0)), (2, .c (.ptr 4 0)), (3, .c (.ptr 6 0))]) (H' := [(1, .own 24 (lsC [] [true, false]) 2), (4, .own 24 (lsC [false, false, false, true] [false]) 2), (6, .own 24 (lsC [] [true, false, false]) 2)]) (n' := 7) ⟨?_, ?_, (by decide : List.Nodup ([1, 4, 6] : List Nat)), ?_, ?_, ⟨Nat.zero_le _, fun i hi => absurd hi (Nat.not_lt_zero i)⟩⟩ ?_
 ·exact uLw0
 ·exact uLw0
 ·exact uLw0
 ·exact uLw0
 refine region_k w1_ok fun _ hK10 => ?_
 refine s_step rfl (by decide) rfl fun _ hS => ?_
 repeat refine And.intro qLw0 ?_
 refine hS _ _ _ ?_
 clear hS
 refine s_step rfl (by decide) rfl fun _ hS => ?_
 repeat refine And.intro qLw0 ?_
 refine hS _ _ _ ?_
 clear hS
 refine s_step rfl (by decide) rfl fun _ hS => ?_
 repeat refine And.intro qLw0 ?_
 refine hS _ _ _ ?_
 clear hS
 refine s_step rfl (by decide) rfl fun _ hS => ?_
 repeat first | refine And.intro qLw0 ?_ | refine whole_yes qLw0 ?_ | refine whole_sub ?_
 refine ⟨[true, false, true, false], [true, false], rfl, ⟨by decide, by decide⟩, ?_⟩
 rw [s1]
 repeat refine And.intro qLw0 ?_
 first | refine hS _ _ _ ?_ | (intro cap3 hcap3; refine hS _ _ _ ?_)
 clear hS
 refine s_step rfl (by decide) rfl fun _ hS => ?_
 refine hS _ _ _ ?_
 clear hS
 refine s_step rfl (by decide) rfl fun _ hS => ?_
 repeat refine And.intro qLw0 ?_
 refine hS _ _ _ ?_
 clear hS
 refine s_step rfl (by decide) rfl fun _ hS => ?_
 repeat refine And.intro qLw0 ?_
 refine hS _ _ _ ?_
 clear hS
 refine s_step rfl (by decide) rfl fun _ hS => ?_
 repeat refine And.intro qLw0 ?_
 refine hS _ _ _ ?_
 clear hS
 refine s_step0 rfl rfl fun _ hS => ?_
 repeat refine And.intro qLw0 ?_
 first | refine hS _ _ _ ?_ | (refine splice_full qLw0 ?_; refine hS _ _ _ ?_)
 clear hS
 refine s_step rfl (by decide) rfl fun _ hS => ?_
 refine hS _ _ _ ?_
 clear hS
 refine s_nil ?_
 refine hK10 _ _ _ ?_
 refine hK9 _ _ _ ?_
 refine seq_k fun _ hK11 => ?_
 refine region_k w1_ok fun _ hK12 => ?_
 refine s_step rfl (by decide) rfl fun _ hS => ?_
 repeat refine And.intro qLw0 ?_
 first | refine hS _ _ _ ?_ | (refine whole_yes qLw0 ?_; refine hS _ _ _ ?_) | (refine whole_sub ?_; refine hS _ _ _ ?_)
 clear hS
 refine s_step rfl (by decide) rfl fun _ hS => ?_
 repeat refine And.intro qLw0 ?_
 first | refine hS _ _ _ ?_ | (refine whole_yes qLw0 ?_; refine hS _ _ _ ?_) | (refine whole_sub ?_; refine hS _ _ _ ?_)
 clear hS
 refine s_step rfl (by decide) rfl fun _ hS => ?_
 repeat first | refine And.intro qLw0 ?_ | refine whole_yes qLw0 ?_ | refine whole_sub ?_
 refine ⟨[], [true, false], [false, false, false, true], [false], rfl, ⟨by decide, by decide, by decide, by decide⟩, ?_⟩
 rw [s2]
 repeat refine And.intro qLw0 ?_
 first | refine hS _ _ _ ?_ | (intro cap2 hcap2; refine hS _ _ _ ?_)
 clear hS
 refine s_step rfl (by decide) rfl fun _ hS => ?_
 refine hS _ _ _ ?_
 clear hS
 refine s_step rfl (by decide) rfl fun _ hS => ?_
 repeat refine And.intro qLw0 ?_
 refine hS _ _ _ ?_
 clear hS
 refine s_step rfl (by decide) rfl fun _ hS => ?_
 repeat refine And.intro qLw0 ?_
 refine hS _ _ _ ?_
 clear hS
 refine s_step rfl (by decide) rfl fun _ hS => ?_
 repeat refine And.intro qLw0 ?_
 refine hS _ _ _ ?_
 clear hS
 refine s_step0 rfl rfl fun _ hS => ?_
 repeat refine And.intro qLw0 ?_
 first | refine hS _ _ _ ?_ | (refine splice_full qLw0 ?_; refine hS _ _ _ ?_)
 clear hS
 refine s_step rfl (by decide) rfl fun _ hS => ?_
 refine hS _ _ _ ?_
 clear hS
 refine s_nil ?_
 refine hK12 _ _ _ ?_
 refine hK11 _ _ _ ?_
 refine seq_k fun _ hK13 => ?_
 refine region_k w1_ok fun _ hK14 => ?_
 refine s_step rfl (by decide) rfl fun _ hS => ?_
 repeat refine And.intro qLw0 ?_
 first | refine hS _ _ _ ?_ | (refine whole_yes qLw0 ?_; refine hS _ _ _ ?_) | (refine whole_sub ?_; refine hS _ _ _ ?_)
 clear hS
 refine s_step rfl (by decide) rfl fun _ hS => ?_
 repeat refine And.intro qLw0 ?_
 first | refine hS _ _ _ ?_ | (refine whole_yes qLw0 ?_; refine hS _ _ _ ?_) | (refine whole_sub ?_; refine hS _ _ _ ?_)
 clear hS
 refine s_step rfl (by decide) rfl fun _ hS => ?_
 repeat first | refine And.intro qLw0 ?_ | refine whole_yes qLw0 ?_ | refine whole_sub ?_
 refine ⟨[], [true, false], [], [true, false, false], rfl, ⟨by decide, by decide, by decide, by decide⟩, ?_⟩
 rw [s3]
 repeat refine And.intro qLw0 ?_
 first | refine hS _ _ _ ?_ | (intro cap2 hcap2; refine hS _ _ _ ?_)
 clear hS
 refine s_step rfl (by decide) rfl fun _ hS => ?_
 refine hS _ _ _ ?_
 clear hS
 refine s_step rfl (by decide) rfl fun _ hS => ?_
 repeat refine And.intro qLw0 ?_
 refine hS _ _ _ ?_
 clear hS
 refine s_step rfl (by decide) rfl fun _ hS => ?_
 repeat refine And.intro qLw0 ?_
 refine hS _ _ _ ?_
 clear hS
 refine s_step rfl (by decide) rfl fun _ hS => ?_
 repeat refine And.intro qLw0 ?_
 refine hS _ _ _ ?_
 clear hS
 refine s_step0 rfl rfl fun _ hS => ?_
 repeat refine And.intro qLw0 ?_
 first | refine hS _ _ _ ?_ | (refine splice_full qLw0 ?_; refine hS _ _ _ ?_)
 clear hS
 refine s_step rfl (by decide) rfl fun _ hS => ?_
 refine hS _ _ _ ?_
 clear hS
 refine s_nil ?_
 refine hK14 _ _ _ ?_
 refine hK13 _ _ _ ?_
 refine seq_k fun _ hK15 => ?_
 refine region_k w1_ok fun _ hK16 => ?_
 refine s_step rfl (by decide) rfl fun _ hS => ?_
 repeat refine And.intro qLw0 ?_
 refine hS _ _ _ ?_
 clear hS
 refine s_step rfl (by decide) rfl fun _ hS => ?_
 repeat refine And.intro qLw0 ?_
 refine hS _ _ _ ?_
 clear hS
 refine s_step rfl (by decide) rfl fun _ hS => ?_
 repeat refine And.intro qLw0 ?_
 refine hS _ _ _ ?_
 clear hS
 refine s_step rfl (by decide) rfl fun _ hS => ?_
 repeat refine And.intro qLw0 ?_
 refine hS _ _ _ ?_
 clear hS
 refine s_step rfl (by decide) rfl fun _ hS => ?_
 repeat refine And.intro qLw0 ?_
 refine hS _ _ _ ?_
 clear hS
 refine s_step rfl (by decide) rfl fun _ hS => ?_
 repeat first | refine And.intro qLw0 ?_ | refine whole_yes qLw0 ?_ | refine whole_sub ?_
 refine ⟨[lsV [] [false, false], lsV [false] [false]], ⟨.inr ⟨_, _, _, _, rfl, rfl, .inr ⟨rfl, rfl⟩, .inl rfl, low_lsC⟩, .inl rfl, trivial⟩, ?_⟩
 refine ⟨[], [false, false], [false], [false], rfl, ⟨by decide, by decide, by decide, by decide⟩, ?_⟩
 rw [s4]
 repeat refine And.intro qLw0 ?_
 first | refine hS _ _ _ ?_ | (intro cap5 hcap5; refine hS _ _ _ ?_)
 clear hS
 refine s_step rfl (by decide) rfl fun _ hS => ?_
 refine hS _ _ _ ?_
 clear hS
 refine s_step rfl (by decide) rfl fun _ hS => ?_
 repeat refine And.intro qLw0 ?_
 refine hS _ _ _ ?_
 clear hS
 refine s_step rfl (by decide) rfl fun _ hS => ?_
 repeat refine And.intro qLw0 ?_
 refine hS _ _ _ ?_
 clear hS
 refine s_step rfl (by decide) rfl fun _ hS => ?_
 repeat refine And.intro qLw0 ?_
 refine hS _ _ _ ?_
 clear hS
 refine s_step0 rfl rfl fun _ hS => ?_
 repeat refine And.intro qLw0 ?_
 first | refine hS _ _ _ ?_ | (refine splice_full qLw0 ?_; refine hS _ _ _ ?_)
 clear hS
 refine s_step rfl (by decide) rfl fun _ hS => ?_
 refine hS _ _ _ ?_
 clear hS
 refine s_nil ?_
 refine hK16 _ _ _ ?_
 refine hK15 _ _ _ ?_
 refine seq_k fun _ hK17 => ?_
 refine region_k w1_ok fun _ hK18 => ?_
 refine s_step rfl (by decide) rfl fun _ hS => ?_
 repeat refine And.intro qLw0 ?_
 refine hS _ _ _ ?_
 clear hS
 refine s_step rfl (by decide) rfl fun _ hS => ?_
 repeat refine And.intro qLw0 ?_
 refine hS _ _ _ ?_
 clear hS
 refine s_step rfl (by decide) rfl fun _ hS => ?_
 repeat refine And.intro qLw0 ?_
 refine hS _ _ _ ?_
 clear hS
 refine s_step rfl (by decide) rfl fun _ hS => ?_
 repeat refine And.intro qLw0 ?_
 refine hS _ _ _ ?_
 clear hS
 refine s_step rfl (by decide) rfl fun _ hS => ?_
 repeat refine And.intro qLw0 ?_
 refine hS _ _ _ ?_
 clear hS
 refine s_step rfl (by decide) rfl fun _ hS => ?_
 repeat refine And.intro qLw0 ?_
 refine hS _ _ _ ?_
 clear hS
 refine s_step rfl (by decide) rfl fun _ hS => ?_
 repeat refine And.intro qLw0 ?_
 refine hS _ _ _ ?_
 clear hS
 refine s_step rfl (by decide) rfl fun _ hS => ?_
 repeat refine And.intro qLw0 ?_
 refine hS _ _ _ ?_
 clear hS
 refine s_step0 rfl rfl fun _ hS => ?_
 repeat refine And.intro qLw0 ?_
 first | refine hS _ _ _ ?_ | (refine splice_full qLw0 ?_; refine hS _ _ _ ?_)
 clear hS
 refine s_nil ?_
 refine hK18 _ _ _ ?_
 refine hK17 _ _ _ ?_
 refine seq_k fun _ hK19 => ?_
 refine WP_le (is := [17, 18]) (ρ := id) (E' := [(1, .c (.ptr 1 0)), (4, .c (.ptr 9 0)), (5, .c (.int .i64 0)), (6, .c (.ptr 10 0)), (7, .c (.int .i64 0)), (8, .c (.ptr 11 0)), (9, .c (.int .i64 0)), (10, .c (.ptr 15 0)), (11, .c (.int .i64 0)), (12, .c (.ptr 21 0))]) (H' := [(1, .own 24 (lsC [] [true, false]) 2), (9, .own 24 (lsC [] [true, false]) 2), (10, .own 24 (lsC [false, false] [false, true]) 2), (11, .own 24 (lsC [] [true, false, false, false, false, false]) 2), (15, .own 24 (lsC [] [false]) 2), (16, .own 52 (.u64s (List.replicate 4 18446744073709551615)) 4), (19, .own 47 (.cells (rowsC [[1], [0]])) 2), (20, .own 4 (.bools [false, true]) 2), (21, .own 40 (.cells [.slice 16 0 1 1, .slice 19 0 2 2, .slice 20 0 2 2]) 3)]) (n' := 22) ⟨?_, ?_, (by decide : List.Nodup ([1, 9, 10, 11, 15, 16, 19, 20, 21] : List Nat)), ?_, ?_, ⟨Nat.zero_le _, fun i hi => absurd hi (Nat.not_lt_zero i)⟩⟩ ?_
 ·exact uLw0
 ·exact uLw0
 ·exact uLw0
 ·exact uLw0
 refine WP_le (is := [16, 19, 20]) (ρ := id) (E' := [(1, .c (.ptr 1 0)), (4, .c (.ptr 9 0)), (5, .c (.int .i64 0)), (6, .c (.ptr 10 0)), (7, .c (.int .i64 0)), (8, .c (.ptr 11 0)), (9, .c (.int .i64 0)), (10, .c (.ptr 15 0)), (11, .c (.int .i64 0)), (12, .c (.ptr 21 0))]) (H' := [(1, .own 24 (lsC [] [true, false]) 2), (9, .own 24 (lsC [] [true, false]) 2), (10, .own 24 (lsC [false, false] [false, true]) 2), (11, .own 24 (lsC [] [true, false, false, false, false, false]) 2), (15, .own 24 (lsC [] [false]) 2), (21, .own 40 (dfaC oddD) 3)]) (n' := 22) ⟨?_, ?_, (by decide : List.Nodup ([1, 9, 10, 11, 15, 21] : List Nat)), ?_, ?_, ⟨Nat.zero_le _, fun i hi => absurd hi (Nat.not_lt_zero i)⟩⟩ ?_
 ·exact uLw0
 ·exact uLw0
 ·exact uLw0
 ·exact uLw0
 refine region_k w1_ok fun _ hK20 => ?_
 refine s_step rfl (by decide) rfl fun _ hS => ?_
 repeat refine And.intro qLw0 ?_
 first | refine hS _ _ _ ?_ | (refine whole_yes qLw0 ?_; refine hS _ _ _ ?_) | (refine whole_sub ?_; refine hS _ _ _ ?_)
 clear hS
 refine s_step rfl (by decide) rfl fun _ hS => ?_
 repeat first | refine And.intro qLw0 ?_ | refine whole_yes qLw0 ?_ | refine whole_sub ?_
 refine ⟨oddD, rfl, ⟨rfl, by decide, by decide, by decide, by decide⟩, by decide, ?_⟩
 rw [s5]
 repeat refine And.intro qLw0 ?_
 first | refine hS _ _ _ ?_ | (intro cap1 hcap1; refine hS _ _ _ ?_)
 clear hS
 refine s_step rfl (by decide) rfl fun _ hS => ?_
 refine hS _ _ _ ?_
 clear hS
 refine s_step rfl (by decide) rfl fun _ hS => ?_
 repeat refine And.intro qLw0 ?_
 refine hS _ _ _ ?_
 clear hS
 refine s_step rfl (by decide) rfl fun _ hS => ?_
 repeat refine And.intro qLw0 ?_
 refine hS _ _ _ ?_
 clear hS
 refine s_step rfl (by decide) rfl fun _ hS => ?_
 repeat refine And.intro qLw0 ?_
 refine hS _ _ _ ?_
 clear hS
 refine s_step0 rfl rfl fun _ hS => ?_
 repeat refine And.intro qLw0 ?_
 first | refine hS _ _ _ ?_ | (refine splice_full qLw0 ?_; refine hS _ _ _ ?_)
 clear hS
 refine s_step rfl (by decide) rfl fun _ hS => ?_
 refine hS _ _ _ ?_
 clear hS
 refine s_nil ?_
 refine hK20 _ _ _ ?_
 refine hK19 _ _ _ ?_
 refine seq_k fun _ hK21 => ?_
 refine region_k w1_ok fun _ hK22 => ?_
 refine s_step rfl (by decide) rfl fun _ hS => ?_
 refine hS _ _ _ ?_
 clear hS
 refine s_step rfl (by decide) rfl fun _ hS => ?_
 repeat refine And.intro qLw0 ?_
 refine hS _ _ _ ?_
 clear hS
 refine s_step rfl (by decide) rfl fun _ hS => ?_
 refine s_split hS (fun hb2 => ?_) (fun hb2 => ?_)
 rotate_left 1
 ·exfalso; first | (simp at hb2; done) | exact absurd hb2 (by decide)
 clear hS
 refine s_guard (b := true) rfl (by decide) rfl rfl (fun _ _ hS => ?_) (fun e => absurd e (by decide))
 repeat refine And.intro qLw0 ?_
 first | refine hS _ _ _ ?_ | (refine whole_yes qLw0 ?_; refine hS _ _ _ ?_) | (refine whole_sub ?_; refine hS _ _ _ ?_)
 clear hS
 refine s_guard (b := true) rfl (by decide) rfl rfl (fun _ _ hS => ?_) (fun e => absurd e (by decide))
 repeat refine And.intro qLw0 ?_
 first | refine hS _ _ _ ?_ | (refine whole_yes qLw0 ?_; refine hS _ _ _ ?_) | (refine whole_sub ?_; refine hS _ _ _ ?_)
 clear hS
 refine s_guard (b := true) rfl (by decide) rfl rfl (fun _ _ hS => ?_) (fun e => absurd e (by decide))
 repeat first | refine And.intro qLw0 ?_ | refine whole_yes qLw0 ?_ | refine whole_sub ?_
 refine ⟨[lsV [] [true, false], lsV [] [true, false]], ⟨.inl rfl, .inl rfl, trivial⟩, ?_⟩
 refine ⟨[], [true, false], [], [true, false], rfl, ⟨by decide, by decide, by decide, by decide⟩, ?_⟩
 repeat refine And.intro qLw0 ?_
 first | refine hS _ _ _ ?_ | (intro cap5 hcap5; refine hS _ _ _ ?_)
 clear hS
 refine s_step rfl (by decide) rfl fun _ hS => ?_
 refine hS _ _ _ ?_
 clear hS
 refine s_step rfl (by decide) rfl fun _ hS => ?_
 refine s_split hS (fun hb7 => ?_) (fun hb7 => ?_)
 rotate_left 1
 ·exfalso; first | (simp at hb7; done) | exact absurd hb7 (by decide)
 clear hS
 refine s_guard (b := true) rfl (by decide) rfl rfl (fun _ _ hS => ?_) (fun e => absurd e (by decide))
 refine hS _ _ _ ?_
 clear hS
 refine s_guard (b := true) rfl (by decide) rfl rfl (fun _ _ hS => ?_) (fun e => absurd e (by decide))
 repeat refine And.intro qLw0 ?_
 refine hS _ _ _ ?_
 clear hS
 refine s_step rfl (by decide) rfl fun _ hS => ?_
 refine hS _ _ _ ?_
 clear hS
 refine s_step rfl (by decide) rfl fun _ hS => ?_
 refine s_split hS (fun hb11 => ?_) (fun hb11 => ?_)
 rotate_left 1
 ·exfalso; first | (simp at hb11; done) | exact absurd hb11 (by decide)
 clear hS
 refine s_guard (b := true) rfl (by decide) rfl rfl (fun _ _ hS => ?_) (fun e => absurd e (by decide))
 repeat refine And.intro qLw0 ?_
 first | refine hS _ _ _ ?_ | (refine whole_yes qLw0 ?_; refine hS _ _ _ ?_) | (refine whole_sub ?_; refine hS _ _ _ ?_)
 clear hS
 refine s_guard (b := true) rfl (by decide) rfl rfl (fun _ _ hS => ?_) (fun e => absurd e (by decide))
 repeat refine And.intro qLw0 ?_
 refine hS _ _ _ ?_
 clear hS
 refine s_guard (b := true) rfl (by decide) rfl rfl (fun _ _ hS => ?_) (fun e => absurd e (by decide))
 repeat refine And.intro qLw0 ?_
 refine hS _ _ _ ?_
 clear hS
 refine s_guard (b := true) rfl (by decide) rfl rfl (fun _ _ hS => ?_) (fun e => absurd e (by decide))
 repeat refine And.intro qLw0 ?_
 refine hS _ _ _ ?_
 clear hS
 refine s_guard (b := true) rfl (by decide) rfl rfl (fun _ _ hS => ?_) (fun e => absurd e (by decide))
 repeat first | refine And.intro qLw0 ?_ | refine whole_yes qLw0 ?_ | refine whole_sub ?_
 refine ⟨[lsV [false, false] [false, true], lsV [false, false] [false, true]], ⟨.inl rfl, .inl rfl, trivial⟩, ?_⟩
 refine ⟨[false, false], [false, true], [false, false], [false, true], rfl, ⟨by decide, by decide, by decide, by decide⟩, ?_⟩
 repeat refine And.intro qLw0 ?_
 first | refine hS _ _ _ ?_ | (intro cap16 hcap16; refine hS _ _ _ ?_)
 clear hS
 refine s_step rfl (by decide) rfl fun _ hS => ?_
 refine hS _ _ _ ?_
 clear hS
 refine s_step rfl (by decide) rfl fun _ hS => ?_
 refine s_split hS (fun hb18 => ?_) (fun hb18 => ?_)
 rotate_left 1
 ·exfalso; first | (simp at hb18; done) | exact absurd hb18 (by decide)
 clear hS
 refine s_guard (b := true) rfl (by decide) rfl rfl (fun _ _ hS => ?_) (fun e => absurd e (by decide))
 refine hS _ _ _ ?_
 clear hS
 refine s_guard (b := true) rfl (by decide) rfl rfl (fun _ _ hS => ?_) (fun e => absurd e (by decide))
 repeat refine And.intro qLw0 ?_
 refine hS _ _ _ ?_
 clear hS
 refine s_step rfl (by decide) rfl fun _ hS => ?_
 refine hS _ _ _ ?_
 clear hS
 refine s_step rfl (by decide) rfl fun _ hS => ?_
 refine s_split hS (fun hb22 => ?_) (fun hb22 => ?_)
 rotate_left 1
 ·exfalso; first | (simp at hb22; done) | exact absurd hb22 (by decide)
 clear hS
 refine s_guard (b := true) rfl (by decide) rfl rfl (fun _ _ hS => ?_) (fun e => absurd e (by decide))
 repeat refine And.intro qLw0 ?_
 first | refine hS _ _ _ ?_ | (refine whole_yes qLw0 ?_; refine hS _ _ _ ?_) | (refine whole_sub ?_; refine hS _ _ _ ?_)
 clear hS
 refine s_guard (b := true) rfl (by decide) rfl rfl (fun _ _ hS => ?_) (fun e => absurd e (by decide))
 repeat refine And.intro qLw0 ?_
 refine hS _ _ _ ?_
 clear hS
 refine s_guard (b := true) rfl (by decide) rfl rfl (fun _ _ hS => ?_) (fun e => absurd e (by decide))
 repeat refine And.intro qLw0 ?_
 refine hS _ _ _ ?_
 clear hS
 refine s_guard (b := true) rfl (by decide) rfl rfl (fun _ _ hS => ?_) (fun e => absurd e (by decide))
 repeat first | refine And.intro qLw0 ?_ | refine whole_yes qLw0 ?_ | refine whole_sub ?_
 refine ⟨[lsV [] [true, false, false, false, false, false], lsV [] [true, false, false, false, false, false]], ⟨.inl rfl, .inr ⟨_, _, _, _, rfl, rfl, .inr ⟨rfl, rfl⟩, .inl rfl, low_lsC⟩, trivial⟩, ?_⟩
 refine ⟨[], [true, false, false, false, false, false], [], [true, false, false, false, false, false], rfl, ⟨by decide, by decide, by decide, by decide⟩, ?_⟩
 repeat refine And.intro qLw0 ?_
 first | refine hS _ _ _ ?_ | (intro cap26 hcap26; refine hS _ _ _ ?_)
 clear hS
 refine s_step rfl (by decide) rfl fun _ hS => ?_
 refine hS _ _ _ ?_
 clear hS
 refine s_step rfl (by decide) rfl fun _ hS => ?_
 refine s_split hS (fun hb28 => ?_) (fun hb28 => ?_)
 rotate_left 1
 ·exfalso; first | (simp at hb28; done) | exact absurd hb28 (by decide)
 clear hS
 refine s_guard (b := true) rfl (by decide) rfl rfl (fun _ _ hS => ?_) (fun e => absurd e (by decide))
 refine hS _ _ _ ?_
 clear hS
 refine s_guard (b := true) rfl (by decide) rfl rfl (fun _ _ hS => ?_) (fun e => absurd e (by decide))
 repeat refine And.intro qLw0 ?_
 refine hS _ _ _ ?_
 clear hS
 refine s_step rfl (by decide) rfl fun _ hS => ?_
 refine hS _ _ _ ?_
 clear hS
 refine s_step rfl (by decide) rfl fun _ hS => ?_
 refine s_split hS (fun hb32 => ?_) (fun hb32 => ?_)
 rotate_left 1
 ·exfalso; first | (simp at hb32; done) | exact absurd hb32 (by decide)
 clear hS
 refine s_guard (b := true) rfl (by decide) rfl rfl (fun _ _ hS => ?_) (fun e => absurd e (by decide))
 repeat refine And.intro qLw0 ?_
 first | refine hS _ _ _ ?_ | (refine whole_yes qLw0 ?_; refine hS _ _ _ ?_) | (refine whole_sub ?_; refine hS _ _ _ ?_)
 clear hS
 refine s_guard (b := true) rfl (by decide) rfl rfl (fun _ _ hS => ?_) (fun e => absurd e (by decide))
 repeat refine And.intro qLw0 ?_
 refine hS _ _ _ ?_
 clear hS
 refine s_guard (b := true) rfl (by decide) rfl rfl (fun _ _ hS => ?_) (fun e => absurd e (by decide))
 repeat refine And.intro qLw0 ?_
 refine hS _ _ _ ?_
 clear hS
 refine s_guard (b := true) rfl (by decide) rfl rfl (fun _ _ hS => ?_) (fun e => absurd e (by decide))
 repeat first | refine And.intro qLw0 ?_ | refine whole_yes qLw0 ?_ | refine whole_sub ?_
 refine ⟨[lsV [] [false], lsV [] [false]], ⟨.inl rfl, .inr ⟨_, _, _, _, rfl, rfl, .inr ⟨rfl, rfl⟩, .inl rfl, low_lsC⟩, trivial⟩, ?_⟩
 refine ⟨[], [false], [], [false], rfl, ⟨by decide, by decide, by decide, by decide⟩, ?_⟩
 repeat refine And.intro qLw0 ?_
 first | refine hS _ _ _ ?_ | (intro cap36 hcap36; refine hS _ _ _ ?_)
 clear hS
 refine s_step rfl (by decide) rfl fun _ hS => ?_
 refine hS _ _ _ ?_
 clear hS
 refine s_step rfl (by decide) rfl fun _ hS => ?_
 refine s_split hS (fun hb38 => ?_) (fun hb38 => ?_)
 rotate_left 1
 ·exfalso; first | (simp at hb38; done) | exact absurd hb38 (by decide)
 clear hS
 refine s_guard (b := true) rfl (by decide) rfl rfl (fun _ _ hS => ?_) (fun e => absurd e (by decide))
 refine hS _ _ _ ?_
 clear hS
 refine s_guard (b := true) rfl (by decide) rfl rfl (fun _ _ hS => ?_) (fun e => absurd e (by decide))
 repeat refine And.intro qLw0 ?_
 refine hS _ _ _ ?_
 clear hS
 refine s_step rfl (by decide) rfl fun _ hS => ?_
 refine hS _ _ _ ?_
 clear hS
 refine s_step rfl (by decide) rfl fun _ hS => ?_
 refine s_split hS (fun hb42 => ?_) (fun hb42 => ?_)
 rotate_left 1
 ·exfalso; first | (simp at hb42; done) | exact absurd hb42 (by decide)
 clear hS
 refine s_guard (b := true) rfl (by decide) rfl rfl (fun _ _ hS => ?_) (fun e => absurd e (by decide))
 repeat refine And.intro qLw0 ?_
 first | refine hS _ _ _ ?_ | (refine whole_yes qLw0 ?_; refine hS _ _ _ ?_) | (refine whole_sub ?_; refine hS _ _ _ ?_)
 clear hS
 refine s_guard (b := true) rfl (by decide) rfl rfl (fun _ _ hS => ?_) (fun e => absurd e (by decide))
 repeat refine And.intro qLw0 ?_
 refine hS _ _ _ ?_
 clear hS
 refine s_guard (b := true) rfl (by decide) rfl rfl (fun _ _ hS => ?_) (fun e => absurd e (by decide))
 repeat refine And.intro qLw0 ?_
 refine hS _ _ _ ?_
 clear hS
 refine s_guard (b := true) rfl (by decide) rfl rfl (fun _ _ hS => ?_) (fun e => absurd e (by decide))
 repeat first | refine And.intro qLw0 ?_ | refine whole_yes qLw0 ?_ | refine whole_sub ?_
 refine ⟨[lsV [] [false, true], lsV [] [false, true]], ⟨.inl rfl, .inr ⟨_, _, _, _, rfl, rfl, .inr ⟨rfl, rfl⟩, .inl rfl, low_lsC⟩, trivial⟩, ?_⟩
 refine ⟨[], [false, true], [], [false, true], rfl, ⟨by decide, by decide, by decide, by decide⟩, ?_⟩
 repeat refine And.intro qLw0 ?_
 first | refine hS _ _ _ ?_ | (intro cap46 hcap46; refine hS _ _ _ ?_)
 clear hS
 refine s_step rfl (by decide) rfl fun _ hS => ?_
 refine hS _ _ _ ?_
 clear hS
 refine s_step rfl (by decide) rfl fun _ hS => ?_
 refine s_split hS (fun hb48 => ?_) (fun hb48 => ?_)
 rotate_left 1
 ·exfalso; first | (simp at hb48; done) | exact absurd hb48 (by decide)
 clear hS
 refine s_guard (b := true) rfl (by decide) rfl rfl (fun _ _ hS => ?_) (fun e => absurd e (by decide))
 repeat refine And.intro qLw0 ?_
 first | refine hS _ _ _ ?_ | (refine whole_yes qLw0 ?_; refine hS _ _ _ ?_) | (refine whole_sub ?_; refine hS _ _ _ ?_)
 clear hS
 refine s_guard (b := true) rfl (by decide) rfl rfl (fun _ _ hS => ?_) (fun e => absurd e (by decide))
 repeat first | refine And.intro qLw0 ?_ | refine whole_yes qLw0 ?_ | refine whole_sub ?_
 refine ⟨[false, false], [false, true], 4, rfl, ⟨by decide, by decide, by decide, by decide⟩, ?_⟩
 rw [s6]
 repeat refine And.intro qLw0 ?_
 first | refine hS _ _ _ ?_ | (intro cap50 hcap50; refine hS _ _ _ ?_)
 clear hS
 refine s_guard (b := true) rfl (by decide) rfl rfl (fun _ _ hS => ?_) (fun e => absurd e (by decide))
 repeat refine And.intro qLw0 ?_
 refine hS _ _ _ ?_
 clear hS
 refine s_step rfl (by decide) rfl fun _ hS => ?_
 refine hS _ _ _ ?_
 clear hS
 refine s_step rfl (by decide) rfl fun _ hS => ?_
 refine s_split hS (fun hb53 => ?_) (fun hb53 => ?_)
 rotate_left 1
 ·exfalso; first | (simp at hb53; done) | exact absurd hb53 (by decide)
 clear hS
 refine s_guard (b := true) rfl (by decide) rfl rfl (fun _ _ hS => ?_) (fun e => absurd e (by decide))
 repeat refine And.intro qLw0 ?_
 first | refine hS _ _ _ ?_ | (refine whole_yes qLw0 ?_; refine hS _ _ _ ?_) | (refine whole_sub ?_; refine hS _ _ _ ?_)
 clear hS
 refine s_guard (b := true) rfl (by decide) rfl rfl (fun _ _ hS => ?_) (fun e => absurd e (by decide))
 repeat first | refine And.intro qLw0 ?_ | refine whole_yes qLw0 ?_ | refine whole_sub ?_
 refine ⟨[], [false], 0, rfl, ⟨by decide, by decide, by decide, by decide⟩, ?_⟩
 rw [s7]
 repeat refine And.intro qLw0 ?_
 first | refine hS _ _ _ ?_ | (intro cap55 hcap55; refine hS _ _ _ ?_)
 clear hS
 refine s_guard (b := true) rfl (by decide) rfl rfl (fun _ _ hS => ?_) (fun e => absurd e (by decide))
 repeat refine And.intro qLw0 ?_
 refine hS _ _ _ ?_
 clear hS
 refine s_step rfl (by decide) rfl fun _ hS => ?_
 refine hS _ _ _ ?_
 clear hS
 refine s_step rfl (by decide) rfl fun _ hS => ?_
 refine s_split hS (fun hb58 => ?_) (fun hb58 => ?_)
 rotate_left 1
 ·exfalso; first | (simp at hb58; done) | exact absurd hb58 (by decide)
 clear hS
 refine s_guard (b := true) rfl (by decide) rfl rfl (fun _ _ hS => ?_) (fun e => absurd e (by decide))
 repeat refine And.intro qLw0 ?_
 first | refine hS _ _ _ ?_ | (refine whole_yes qLw0 ?_; refine hS _ _ _ ?_) | (refine whole_sub ?_; refine hS _ _ _ ?_)
 clear hS
 refine s_guard (b := true) rfl (by decide) rfl rfl (fun _ _ hS => ?_) (fun e => absurd e (by decide))
 repeat first | refine And.intro qLw0 ?_ | refine whole_yes qLw0 ?_ | refine whole_sub ?_
 refine ⟨[false, false], [false, true], 3, rfl, ⟨by decide, by decide, by decide⟩, ?_⟩
 rw [s8]
 repeat refine And.intro qLw0 ?_
 first | refine hS _ _ _ ?_ | (intro cap60 hcap60; refine hS _ _ _ ?_)
 clear hS
 refine s_step rfl (by decide) rfl fun _ hS => ?_
 refine hS _ _ _ ?_
 clear hS
 refine s_step rfl (by decide) rfl fun _ hS => ?_
 refine s_split hS (fun hb62 => ?_) (fun hb62 => ?_)
 rotate_left 1
 ·exfalso; first | (simp at hb62; done) | exact absurd hb62 (by decide)
 clear hS
 refine s_guard (b := true) rfl (by decide) rfl rfl (fun _ _ hS => ?_) (fun e => absurd e (by decide))
 repeat refine And.intro qLw0 ?_
 first | refine hS _ _ _ ?_ | (refine whole_yes qLw0 ?_; refine hS _ _ _ ?_) | (refine whole_sub ?_; refine hS _ _ _ ?_)
 clear hS
 refine s_guard (b := true) rfl (by decide) rfl rfl (fun _ _ hS => ?_) (fun e => absurd e (by decide))
 repeat first | refine And.intro qLw0 ?_ | refine whole_yes qLw0 ?_ | refine whole_sub ?_
 refine ⟨[false, false], [false, true], 2, rfl, ⟨by decide, by decide, by decide⟩, ?_⟩
 rw [s9]
 repeat refine And.intro qLw0 ?_
 first | refine hS _ _ _ ?_ | (intro cap64 hcap64; refine hS _ _ _ ?_)
 clear hS
 refine s_guard (b := true) rfl (by decide) rfl rfl (fun _ _ hS => ?_) (fun e => absurd e (by decide))
 refine hS _ _ _ ?_
 clear hS
 refine s_step rfl (by decide) rfl fun _ hS => ?_
 refine hS _ _ _ ?_
 clear hS
 refine s_step rfl (by decide) rfl fun _ hS => ?_
 refine s_split hS (fun hb67 => ?_) (fun hb67 => ?_)
 rotate_left 1
 ·exfalso; first | (simp at hb67; done) | exact absurd hb67 (by decide)
 clear hS
 refine s_guard (b := true) rfl (by decide) rfl rfl (fun _ _ hS => ?_) (fun e => absurd e (by decide))
 repeat refine And.intro qLw0 ?_
 first | refine hS _ _ _ ?_ | (refine whole_yes qLw0 ?_; refine hS _ _ _ ?_) | (refine whole_sub ?_; refine hS _ _ _ ?_)
 clear hS
 refine s_guard (b := true) rfl (by decide) rfl rfl (fun _ _ hS => ?_) (fun e => absurd e (by decide))
 repeat first | refine And.intro qLw0 ?_ | refine whole_yes qLw0 ?_ | refine whole_sub ?_
 refine ⟨[], [true, false], -2, rfl, ⟨by decide, by decide, by decide⟩, ?_⟩
 rw [s10]
 repeat refine And.intro qLw0 ?_
 first | refine hS _ _ _ ?_ | (intro cap69 hcap69; refine hS _ _ _ ?_)
 clear hS
 refine s_guard (b := true) rfl (by decide) rfl rfl (fun _ _ hS => ?_) (fun e => absurd e (by decide))
 refine hS _ _ _ ?_
 clear hS
 refine s_step rfl (by decide) rfl fun _ hS => ?_
 refine hS _ _ _ ?_
 clear hS
 refine s_step rfl (by decide) rfl fun _ hS => ?_
 refine hS _ _ _ ?_
 clear hS
 refine s_nil ?_
 refine hK22 _ _ _ ?_
 refine hK21 _ _ _ ?_
 refine WP_ret (Done_flat w1_ok (fun _ _ h => h) (by first | rfl | assumption) [.tmp 0] rfl ?_)
 repeat refine And.intro (by first | omega | exact trivial | rfl | (simp <;> omega)) ?_
 try refine ite_yes (by first | omega | exact trivial | rfl | (simp <;> omega)) ?_
 show _ = _
 rfl


end Go.Proofs.YtpfncffapgkjaaaDoor
