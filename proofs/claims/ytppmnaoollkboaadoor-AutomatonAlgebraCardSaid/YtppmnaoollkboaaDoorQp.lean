/- Part 16 of what the claims of this seat share: the walk's engine, the functions' contracts, plain mathematics (Vj). -/
import Derived.Test.YtppmnaoollkboaaDoorQo
import Derived.Test.YtppmnaoollkboaaDoorQn
import Derived.Test.YtppmnaoollkboaaDoorQm
namespace Go.Proofs.YtppmnaoollkboaaDoor
set_option linter.all false
open Go.Ab Go.RowKit

theorem qVj0 {a : Prop} (h : a := by first | exact vcA | (simp <;> omega) | exact ⟨rfl, rfl, rfl, rfl, by decide⟩ | decide | (show _ < _; decide) | exact vcB) : a := h
theorem DVj_0 {a b : Prop} (kZ : b) (h : HidB b → a := by intro kZ; (repeat first | refine aI qVj0 ?_ | refine z06 qVj0 ?_ | refine z04 qVj0 ?_ | refine z0k qVj0 ?_ | refine z0a ?_); exact kZ.out) : a := h ⟨kZ⟩
theorem z19 {a b : Prop} (kZ : b) (h : HidB b → a := by intro kZ; refine sX ?_; refine DVj_0 ?_; refine exI ?_; exact kZ.out) : a := h ⟨kZ⟩
theorem zdk {a b : Prop} (kZ : b) (h : HidB b → a := by intro kZ; refine sX0 ?_; refine DVj_0 ?_; refine exI ?_; exact kZ.out) : a := h ⟨kZ⟩
theorem z23 {a b : Prop} (kZ : b) (h : HidB b → a := by intro kZ; refine sXT ?_; refine DVj_0 ?_; refine exI ?_; exact kZ.out) : a := h ⟨kZ⟩
theorem z1m {a b : Prop} (kZ : b) (h : HidB b → a := by intro kZ; refine sX ?_; refine DVj_0 ?_; exact kZ.out) : a := h ⟨kZ⟩
theorem z3i {a b : Prop} (kZ : b) (h : HidB b → a := by intro kZ; refine sXT ?_; refine DVj_0 ?_; exact kZ.out) : a := h ⟨kZ⟩

open Go.Aut
theorem acc_AB : z2o dAB [97, 98] = true := by rw [z2o, z0w z8y]; decide +kernel
theorem acc_B : z2o dAB [98] = false := by rw [z2o, z0w z8y]; decide +kernel
attribute [local irreducible] z0q z1z zl z02 z18 putB
noncomputable def gs4 : Ctx := { P := Tryd.prog, ty := ty, glob := gl, fs := [(27, .data wordS), (23, .data zez), (24, .data zy3), (29, .data zxu), (31, .data zox), (72, .flat zh7), (28, .flat sameS), (25, .flat zjm), (50, .flat z8m)] }
theorem z80 : gs4.OK := ⟨tyOK, ⟨⟨z07 Tryd.func27 (by kernel_rfl) rfl, zx7⟩, ⟨z07 Tryd.func23 (by kernel_rfl) rfl, zde⟩, ⟨z07 Tryd.func24 (by kernel_rfl) rfl, zrn⟩, ⟨z07 Tryd.func29 (by kernel_rfl) rfl, zxv⟩, ⟨z07 Tryd.func31 (by kernel_rfl) rfl, zmd⟩, ⟨z07 Tryd.func72 (by kernel_rfl) rfl, zh8⟩, ⟨z07 Tryd.func28 (by kernel_rfl) rfl, zk8⟩, ⟨z07 Tryd.func25 (by kernel_rfl) rfl, zt8⟩, ⟨z07 Tryd.func50 (by kernel_rfl) rfl, z5i⟩, trivial⟩, mixed⟩
@[simp] theorem gs4_ty : gs4.ty = ty := rfl

def zp4 : QSpec := fun vs K => vs = [] ∧ K (.c (.bool true))
set_option maxHeartbeats 1000000 in
set_option maxRecDepth 4000 in
theorem zmk : z16 Tryd.prog gl 20 zp4 := by
 refine z1a (Γ := gs4) (N := 183) Tryd.func20 rfl rfl fun vs K h => ?_; obtain ⟨rfl, h⟩ := h; refine ⟨_, h, rfl, by simp, fun w I => ?_⟩; refine seq_k fun _ hK1 => ?_; refine z00 z80 fun _ hK2 => ?_; refine z19 ?_; refine s_nil ?_; apply hK2; apply hK1; refine seq_k fun _ hK3 => ?_
 have hwAB := z2v z8y
 have hwA := z2v z5v.1
 have hwB := z2v zdi.1
 refine z00 z80 fun _ hK4 => ?_
 iterate 2 refine z19 ?_
 refine z1m ?_; refine ⟨[97, 98], rfl, by decide, ?_⟩; rw [word_AB]; refine DVj_0 ?_
 first | refine exI ?_ | (intro cap2 hcap2; refine exI ?_)
 iterate 4 refine z19 ?_
 refine zdk ?_; refine z19 ?_; refine s_nil ?_; apply hK4; apply hK3; refine seq_k fun _ hK5 => ?_; refine z00 z80 fun _ hK6 => ?_
 iterate 2 refine z19 ?_
 refine z1m ?_; refine ⟨[97], rfl, by decide, ?_⟩; rw [word_A]; refine DVj_0 ?_
 first | refine exI ?_ | (intro cap2 hcap2; refine exI ?_)
 iterate 4 refine z19 ?_
 refine zdk ?_; refine z19 ?_; refine s_nil ?_; apply hK6; apply hK5; refine seq_k fun _ hK7 => ?_; refine z00 z80 fun _ hK8 => ?_
 iterate 2 refine z19 ?_
 refine z1m ?_; refine ⟨[98], rfl, by decide, ?_⟩; rw [word_B]; refine DVj_0 ?_
 first | refine exI ?_ | (intro cap2 hcap2; refine exI ?_)
 iterate 4 refine z19 ?_
 refine zdk ?_; refine z19 ?_; refine s_nil ?_; apply hK8; apply hK7; refine seq_k fun _ hK9 => ?_; refine z00 z80 fun _ hK10 => ?_
 iterate 2 refine z19 ?_
 refine z1m ?_; refine ⟨dA, dB, rfl, ⟨hwA, hwB⟩, ?_⟩; rw [zye]; refine DVj_0 ?_
 first | refine exI ?_ | (intro cap2 hcap2; refine exI ?_)
 iterate 4 refine z19 ?_
 refine zdk ?_; refine z19 ?_; refine s_nil ?_; apply hK10; apply hK9; refine seq_k fun _ hK11 => ?_; refine z00 z80 fun _ hK12 => ?_; refine z19 ?_; refine z1m ?_; refine ⟨dA, rfl, hwA, ?_⟩; rw [star_A]; refine DVj_0 ?_
 first | refine exI ?_ | (intro cap1 hcap1; refine exI ?_)
 iterate 4 refine z19 ?_
 refine zdk ?_; refine z19 ?_; refine s_nil ?_; apply hK12; apply hK11; refine seq_k fun _ hK13 => ?_; refine seq_k fun _ hK14 => ?_; refine z00 z80 fun _ hK15 => ?_
 iterate 2 refine z19 ?_
 refine z1m ?_; refine exB (fun hb2 => ?_) (fun hb2 => ?_)
 ·exfalso; first | exact absurd hb2 (by decide) | exact hb2 rfl | (simp at hb2; done) | omega
 iterate 2 refine z23 ?_
 refine z19 ?_; refine z1m ?_; refine exB (fun hb6 => ?_) (fun hb6 => ?_)
 ·exfalso; first | exact absurd hb6 (by decide) | exact hb6 rfl | (simp at hb6; done) | omega
 iterate 2 refine z23 ?_
 refine z19 ?_; refine z1m ?_; refine exB (fun hb10 => ?_) (fun hb10 => ?_)
 ·exfalso; first | exact absurd hb10 (by decide) | exact hb10 rfl | (simp at hb10; done) | omega
 iterate 2 refine z23 ?_
 refine z19 ?_; refine z1m ?_; refine exB (fun hb14 => ?_) (fun hb14 => ?_)
 ·exfalso; first | exact absurd hb14 (by decide) | exact hb14 rfl | (simp at hb14; done) | omega
 iterate 2 refine z23 ?_
 refine z19 ?_; refine z1m ?_; refine exB (fun hb18 => ?_) (fun hb18 => ?_)
 ·exfalso; first | exact absurd hb18 (by decide) | exact hb18 rfl | (simp at hb18; done) | omega
 iterate 2 refine z23 ?_
 refine z3i ?_; refine exA (.c (.int .i64 (3))) (as_eq (congrArg (fun v => SV.c (Cell.int IntKind.i64 v)) (rfl))) ?_; refine z23 ?_; refine z19 ?_; refine z1m ?_; refine exB (fun hb24 => ?_) (fun hb24 => ?_)
 ·exfalso; first | exact absurd hb24 (by decide) | exact hb24 rfl | (simp at hb24; done) | omega
 iterate 2 refine z23 ?_
 refine z3i ?_; refine exA (.c (.int .i64 (4))) (as_eq (congrArg (fun v => SV.c (Cell.int IntKind.i64 v)) (rfl))) ?_; refine z23 ?_; refine z19 ?_; refine z1m ?_; refine exB (fun hb30 => ?_) (fun hb30 => ?_)
 ·exfalso; first | exact absurd hb30 (by decide) | exact hb30 rfl | (simp at hb30; done) | omega
 iterate 2 refine z23 ?_
 refine z3i ?_; refine exA (.c (.int .i64 (2))) (as_eq (congrArg (fun v => SV.c (Cell.int IntKind.i64 v)) (rfl))) ?_; refine z23 ?_; refine z19 ?_; refine z1m ?_; refine exB (fun hb36 => ?_) (fun hb36 => ?_)
 ·exfalso; first | exact absurd hb36 (by decide) | exact hb36 rfl | (simp at hb36; done) | omega
 iterate 2 refine z23 ?_
 refine z3i ?_; refine exA (.c (.int .i64 (2))) (as_eq (congrArg (fun v => SV.c (Cell.int IntKind.i64 v)) (rfl))) ?_; refine z23 ?_; refine z19 ?_; refine s_nil ?_; apply hK15; apply hK14; refine z08 (b := _) rfl (fun h_t88 => ?_) (fun _ => ?_)
 ·exfalso; first | exact absurd h_t88 (by decide) | (simp at h_t88; done) | cases h_t88
 refine z0c ?_; apply hK13; refine seq_k fun _ hK16 => ?_; refine z00 z80 fun _ hK17 => ?_; refine z19 ?_; refine z1m ?_; refine ⟨dAB, rfl, hwAB, ?_⟩; rw [least_AB]; refine DVj_0 ?_
 first | refine exI ?_ | (intro cap1 hcap1; refine exI ?_)
 iterate 5 refine z19 ?_
 refine s_nil ?_; apply hK17; apply hK16; refine seq_k fun _ hK18 => ?_; refine z00 z80 fun _ hK19 => ?_
 iterate 2 refine z19 ?_
 refine z1m ?_; refine ⟨dAB, dA, rfl, ⟨hwAB, hwA⟩, ?_⟩; rw [apart_AB]; refine DVj_0 ?_
 first | refine exI ?_ | (intro cap2 hcap2; refine exI ?_)
 iterate 5 refine z19 ?_
 refine s_nil ?_; apply hK19; apply hK18; refine seq_k fun _ hK20 => ?_; refine z00 z80 fun _ hK21 => ?_; refine z19 ?_; refine z1m ?_; refine ⟨List.replicate 63 0, rfl, by decide, ?_⟩; rw [word_63]; refine DVj_0 ?_
 first | refine exI ?_ | (intro cap1 hcap1; refine exI ?_)
 iterate 4 refine z19 ?_
 refine zdk ?_; refine z19 ?_; refine s_nil ?_; apply hK21; apply hK20; refine seq_k fun _ hK22 => ?_; refine z00 z80 fun _ hK23 => ?_
 iterate 3 refine z19 ?_
 refine z1m ?_; refine exA (.c (.ds 3 (.ints .i64 [1, 2, 1]))) (as_eq rfl) ?_; refine z19 ?_; refine z1m ?_; refine ⟨[1, 2, 1], [1, 2, 1], rfl, ⟨by decide, by decide⟩, ?_⟩; refine DVj_0 ?_
 first | refine exI ?_ | (intro cap5 hcap5; refine exI ?_)
 refine z1m ?_; refine exB (fun hb6 => ?_) (fun hb6 => ?_)
 rotate_left 1
 ·exfalso; first | exact absurd hb6 (by decide) | exact hb6 rfl | (simp at hb6; done) | omega
 iterate 3 refine z23 ?_
 refine z3i ?_; refine exA (.c (.ds 3 (.ints .i64 [1, 1, 3]))) (as_eq rfl) ?_; refine z23 ?_; refine z3i ?_; refine ⟨[1, 1, 3], [1, 1, 3], rfl, ⟨by decide, by decide⟩, ?_⟩; refine DVj_0 ?_
 first | refine exI ?_ | (intro cap12 hcap12; refine exI ?_)
 refine z19 ?_; refine z1m ?_; refine exB (fun hb14 => ?_) (fun hb14 => ?_)
 rotate_left 1
 ·exfalso; first | exact absurd hb14 (by decide) | exact hb14 rfl | (simp at hb14; done) | omega
 iterate 3 refine z23 ?_
 refine z3i ?_; refine exA (.c (.ds 2 (.ints .i64 [1, 0]))) (as_eq rfl) ?_; refine z23 ?_; refine z3i ?_; refine ⟨[1, 0], [1, 0], rfl, ⟨by decide, by decide⟩, ?_⟩; refine DVj_0 ?_
 first | refine exI ?_ | (intro cap20 hcap20; refine exI ?_)
 refine z19 ?_; refine z1m ?_; refine exB (fun hb22 => ?_) (fun hb22 => ?_)
 rotate_left 1
 ·exfalso; first | exact absurd hb22 (by decide) | exact hb22 rfl | (simp at hb22; done) | omega
 iterate 3 refine z23 ?_
 refine z3i ?_; refine exA (.c (.bool true)) (as_eq rfl) ?_; refine z19 ?_; refine z1m ?_; refine exB (fun hb28 => ?_) (fun hb28 => ?_)
 rotate_left 1
 ·exfalso; first | exact absurd hb28 (by decide) | exact hb28 rfl | (simp at hb28; done) | omega
 iterate 3 refine z23 ?_
 refine z3i ?_; refine exA (.c (.bool false)) (as_eq rfl) ?_; refine z23 ?_
 iterate 2 refine z19 ?_
 refine s_nil ?_; apply hK23; apply hK22; refine seq_k fun _ hK24 => ?_; refine z00 z80 fun _ hK25 => ?_; refine z19 ?_; refine z1m ?_; refine exB (fun hb1 => ?_) (fun hb1 => ?_)
 rotate_left 1
 ·exfalso; first | exact absurd hb1 (by decide) | exact hb1 rfl | (simp at hb1; done) | omega
 iterate 2 refine z23 ?_
 refine z3i ?_; refine ⟨dAB, dAB, rfl, ⟨hwAB, hwAB⟩, ?_⟩; refine DVj_0 ?_
 first | refine exA (.c (.bool (true))) (as_eq (congrArg (fun v => SV.c (Cell.bool v)) (z2h.2 rfl))) ?_ | (intro cap4 hcap4; refine exA (.c (.bool (true))) (as_eq (congrArg (fun v => SV.c (Cell.bool v)) (z2h.2 rfl))) ?_)
 refine z19 ?_; refine z1m ?_; refine exB (fun hb6 => ?_) (fun hb6 => ?_)
 rotate_left 1
 ·exfalso; first | exact absurd hb6 (by decide) | exact hb6 rfl | (simp at hb6; done) | omega
 refine z23 ?_; refine z19 ?_; refine z1m ?_; refine exB (fun hb9 => ?_) (fun hb9 => ?_)
 rotate_left 1
 ·exfalso; first | exact absurd hb9 (by decide) | exact hb9 rfl | (simp at hb9; done) | omega
 iterate 3 refine z23 ?_
 refine z19 ?_; refine z1m ?_; refine exB (fun hb14 => ?_) (fun hb14 => ?_)
 rotate_left 1
 ·exfalso; first | exact absurd hb14 (by decide) | exact hb14 rfl | (simp at hb14; done) | omega
 refine z23 ?_; refine z19 ?_; refine z1m ?_; refine exB (fun hb17 => ?_) (fun hb17 => ?_)
 rotate_left 1
 ·exfalso; first | exact absurd hb17 (by decide) | exact hb17 rfl | (simp at hb17; done) | omega
 iterate 3 refine z23 ?_
 refine z19 ?_; refine z1m ?_; refine exB (fun hb22 => ?_) (fun hb22 => ?_)
 rotate_left 1
 ·exfalso; first | exact absurd hb22 (by decide) | exact hb22 rfl | (simp at hb22; done) | omega
 iterate 2 refine z23 ?_
 refine z19 ?_; refine z1m ?_; refine exB (fun hb26 => ?_) (fun hb26 => ?_)
 rotate_left 1
 ·exfalso; first | exact absurd hb26 (by decide) | exact hb26 rfl | (simp at hb26; done) | omega
 iterate 3 refine z23 ?_
 refine z3i ?_; refine ⟨dAB, [97, 98], rfl, ⟨hwAB, by decide⟩, ?_⟩; refine DVj_0 ?_
 first | refine exA (.c (.bool (true))) (as_eq (congrArg (fun v => SV.c (Cell.bool v)) (acc_AB))) ?_ | (intro cap30 hcap30; refine exA (.c (.bool (true))) (as_eq (congrArg (fun v => SV.c (Cell.bool v)) (acc_AB))) ?_)
 refine z19 ?_; refine z1m ?_; refine exB (fun hb32 => ?_) (fun hb32 => ?_)
 rotate_left 1
 ·exfalso; first | exact absurd hb32 (by decide) | exact hb32 rfl | (simp at hb32; done) | omega
 iterate 3 refine z23 ?_
 refine z3i ?_; refine ⟨dAB, [98], rfl, ⟨hwAB, by decide⟩, ?_⟩; refine DVj_0 ?_
 first | refine exA (.c (.bool (false))) (as_eq (congrArg (fun v => SV.c (Cell.bool v)) (acc_B))) ?_ | (intro cap36 hcap36; refine exA (.c (.bool (false))) (as_eq (congrArg (fun v => SV.c (Cell.bool v)) (acc_B))) ?_)
 refine z23 ?_; refine z19 ?_; refine z1m ?_; refine exB (fun hb39 => ?_) (fun hb39 => ?_)
 rotate_left 1
 ·exfalso; first | exact absurd hb39 (by decide) | exact hb39 rfl | (simp at hb39; done) | omega
 refine z23 ?_; refine z3i ?_; refine ⟨dAB, rfl, hwAB, ?_⟩; refine DVj_0 ?_
 first | refine exA (.c (.bool (true))) (as_eq (congrArg (fun v => SV.c (Cell.bool v)) (z0w z8y))) ?_ | (intro cap41 hcap41; refine exA (.c (.bool (true))) (as_eq (congrArg (fun v => SV.c (Cell.bool v)) (z0w z8y))) ?_)
 iterate 2 refine z19 ?_
 refine s_nil ?_; apply hK25; apply hK24; refine z0f (z0d z80 (fun _ _ h => h) (by first | rfl | assumption) [.tmp 0] rfl ?_); refine rtD ?_
 rfl


end Go.Proofs.YtppmnaoollkboaaDoor
