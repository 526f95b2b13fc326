/- The law of canonical automata. -/
import Derived.Test.YtppmnaoollkboaaDoorPo
import Derived.Test.YtppmnaoollkboaaDoorPp
namespace Go.Proofs.YtppmnaoollkboaaDoor
set_option linter.all false
open Go.Ab Go.RowKit

theorem qVq0 {a : Prop} (h : a := by first | exact vcA | (simp <;> omega) | exact ⟨by omega, by omega⟩ | exact vcB) : a := h
theorem uVq_0 {a : Prop} (h : a := by
    repeat' (first | exact pT  | exact trivial | refine aI ?_ ?_ | exact cC0 | refine low_cons' ?_ ?_ | exact cC1 | fail)
    all_goals first | omega | exact z1e _ | exact z19 _ | (simp; done) | (show Cont.u8s _ = _; simp; done)| (show (0 : Nat) < (z02 _ _ _ _).length; rw [z01 hcl]; decide) | (simp [-List.reduceReplicate]; done) | (simp [-List.reduceReplicate] <;> omega) | skip) : a := h
theorem DVq_0 {a b : Prop} (kZ : b) (h : HidB b → a := by intro kZ; (repeat first | refine aI qVq0 ?_ | refine z05 qVq0 ?_ | refine z04 qVq0 ?_ | refine z0i qVq0 ?_ | refine z0d ?_); exact kZ.out) : a := h ⟨kZ⟩
theorem z6f {a b : Prop} (kZ : b) (h : HidB b → a := by intro kZ; refine sX ?_; refine DVq_0 ?_; refine exI ?_; exact kZ.out) : a := h ⟨kZ⟩
theorem dXVq_2 {a b : Prop} (kZ : b) (h : HidB b → a := by intro kZ; refine dX ?_; refine DVq_0 ?_; refine exI ?_; exact kZ.out) : a := h ⟨kZ⟩
theorem zjw {a b : Prop} (kZ : b) (h : HidB b → a := by intro kZ; refine gX ?_; refine DVq_0 ?_; refine exI ?_; exact kZ.out) : a := h ⟨kZ⟩
theorem z6a {a b : Prop} (kZ : b) (h : HidB b → a := by intro kZ; refine gX0 ?_; refine DVq_0 ?_; refine exI ?_; exact kZ.out) : a := h ⟨kZ⟩
theorem y0p {a b : Prop} (kZ : b) (h : HidB b → a := by intro kZ; refine sX0 ?_; refine DVq_0 ?_; refine exI ?_; exact kZ.out) : a := h ⟨kZ⟩
theorem zlr {a b : Prop} (kZ : b) (h : HidB b → a := by intro kZ; refine sXT ?_; refine DVq_0 ?_; refine exI ?_; exact kZ.out) : a := h ⟨kZ⟩
theorem z33 {a b : Prop} (kZ : b) (h : HidB b → a := by intro kZ; refine qX ?_; refine DVq_0 ?_; refine exI ?_; exact kZ.out) : a := h ⟨kZ⟩
theorem z2u {a b : Prop} (kZ : b) (h : HidB b → a := by intro kZ; refine qXT ?_; refine DVq_0 ?_; refine exI ?_; exact kZ.out) : a := h ⟨kZ⟩
theorem zan {a b : Prop} (kZ : b) (h : HidB b → a := by intro kZ; refine gX ?_; refine DVq_0 ?_; exact kZ.out) : a := h ⟨kZ⟩
theorem z9l {a b : Prop} (kZ : b) (h : HidB b → a := by intro kZ; refine sX ?_; refine DVq_0 ?_; exact kZ.out) : a := h ⟨kZ⟩
theorem z26 {a b : Prop} (kZ : b) (h : HidB b → a := by intro kZ; refine qX ?_; refine DVq_0 ?_; exact kZ.out) : a := h ⟨kZ⟩
theorem z1c {a b : Prop} (kZ : b) (h : HidB b → a := by intro kZ; refine qXT ?_; refine DVq_0 ?_; exact kZ.out) : a := h ⟨kZ⟩

open Go.Aut
attribute [local irreducible] z0p z1v zl z02 z1f putB madeD
noncomputable def gx5 : Ctx := { P := Tryd.prog, ty := ty, glob := gl, fs := [(20, .flat zej), (21, .data madeS), (30, .data zym), (25, .flat z7h), (31, .data zqe), (28, .flat sameS)] }
theorem z18 : gx5.OK := ⟨tyOK, ⟨⟨z06 Tryd.func20 (by kernel_rfl) rfl, zal⟩, ⟨z06 Tryd.func21 (by kernel_rfl) rfl, zll⟩, ⟨z06 Tryd.func30 (by kernel_rfl) rfl, zsf⟩, ⟨z06 Tryd.func25 (by kernel_rfl) rfl, z5o⟩, ⟨z06 Tryd.func31 (by kernel_rfl) rfl, znp⟩, ⟨z06 Tryd.func28 (by kernel_rfl) rfl, zqj⟩, trivial⟩, mixed⟩
@[simp] theorem gx5_ty : gx5.ty = ty := rfl

def zls : QSpec := fun vs K => ∃ (a0 : UInt8) (l0 : List UInt8) (m0 : UInt8) (a1 : UInt8) (l1 : List UInt8) (m1 : UInt8) (x : List UInt8), vs = [shpV a0 l0 m0, shpV a1 l1 m1, .c (.ds x.length (.u8s x))] ∧ (l0.length ≤ 9223372036854775807 ∧ l1.length ≤ 9223372036854775807 ∧ x.length ≤ 9223372036854775807) ∧ K (.c (.bool true))
set_option maxHeartbeats 1000000 in
set_option maxRecDepth 4000 in
theorem zid : z1b Tryd.prog gl 5 zls := by
 refine z1h (Γ := gx5) (N := 105) Tryd.func5 rfl rfl fun vs K h => ?_; obtain ⟨a0, l0, m0, a1, l1, m1, x, rfl, ⟨hl0, hl1, hx⟩, h⟩ := h; refine ⟨_, h, rfl, by simp, fun w I => ?_⟩; obtain ⟨d0, hd0⟩ : ∃ d, madeD a0 l0 m0 = d := ⟨_, rfl⟩
 have g0 : d0.good := hd0 ▸ z77 a0 l0 m0
 have w0 := z2n g0
 have n0 : d0.next.length ≤ 5 := by rw [← hd0, z7r]; exact (z7q a0).2
 obtain ⟨d1, hd1⟩ : ∃ d, madeD a1 l1 m1 = d := ⟨_, rfl⟩
 have g1 : d1.good := hd1 ▸ z77 a1 l1 m1
 have w1 := z2n g1
 have n1 : d1.next.length ≤ 5 := by rw [← hd1, z7r]; exact (z7q a1).2
 obtain ⟨ha1, ha2, ha3, ha4⟩ := y0k g0 g1
 have gc := z49 g0
 have ge := z49 g1
 have hcl0 := can_len g0
 obtain ⟨c, hcE⟩ : ∃ c, canD (langD d0) = c := ⟨_, rfl⟩; obtain ⟨e, heE⟩ : ∃ e, canD (langD d1) = e := ⟨_, rfl⟩; rw [hcE] at gc ha4 hcl0; rw [heE] at ge ha4
 have wc := z2n gc.1
 have we := z2n ge.1
 have hcacc : ∀ y, z0y c y = z0y d0 y := fun y => by rw [accG gc.1, accG g0]; exact gc.2 _ (z4f y)
 obtain ⟨o, hoE⟩ : ∃ o, aptR d0 d1 = o := ⟨_, rfl⟩; rw [hoE] at ha1 ha2 ha3 ha4; refine seq_k fun _ hK1 => ?_; refine z00 z18 fun _ hK2 => ?_
 iterate 3 refine z6f ?_
 refine s_nil ?_; apply hK2; apply hK1; refine seq_k fun _ hK3 => ?_; refine z00 z18 fun _ hK4 => ?_
 iterate 2 refine z6f ?_
 refine s_nil ?_; apply hK4; apply hK3; refine z9z (α := Unit) (fun _ => [(2, .c (.ds x.length (.u8s x))), (7, .c (.bool true)), (8, .c (.dp (dfaC d0) 0)), (9, .c (.dp (dfaC d1) 0))]) (fun _ => []) 0 (fun _ => True) ?_ ?_
 ·skip
  refine leW [0, 1] id [(2, .c (.ds x.length (.u8s x))), (3, .c (.dp (.cells [.u8 a0, .ds l0.length (.u8s l0), .u8 m0]) 0)), (4, .c (.dp (.cells [.u8 a1, .ds l1.length (.u8s l1), .u8 m1]) 0)), (7, .c (.bool true))] [] 0 [] ?_ ?_ ?_ ?_ ?_
  ·exact uVq_0
  ·exact uVq_0
  ·exact uVq_0
  ·exact uVq_0
  refine ziw z18 ?_; refine z12 z18 (g := 6) (by kernel_rfl) [(0, true), (2, true)] (by kernel_rfl) fun _ hK6 => ?_
  iterate 2 refine dXVq_2 ?_
  refine d_nil ?_; apply hK6; refine z0w [1, 4, 5] (by kernel_rfl) (by decide) (List.forall_mem_cons.2 ⟨?_, List.forall_mem_cons.2 ⟨?_, List.forall_mem_cons.2 ⟨?_, fun _ h => by cases h⟩⟩⟩)
  ·skip
   refine z03 z18 ?_; refine DVq_0 ?_; refine ⟨a0, l0, m0, rfl, hl0, ?_⟩; rw [hd0]; refine DVq_0 ?_
   first | refine exI ?_ | (intro cap1 hcap1; refine exI ?_)
   refine z0w [3, 4, 5] (by kernel_rfl) (by decide) (List.forall_mem_cons.2 ⟨?_, List.forall_mem_cons.2 ⟨?_, List.forall_mem_cons.2 ⟨?_, fun _ h => by cases h⟩⟩⟩)
   ·skip
    refine z03 z18 ?_; refine DVq_0 ?_; refine ⟨a1, l1, m1, rfl, hl1, ?_⟩; rw [hd1]; refine DVq_0 ?_
    first | refine exI ?_ | (intro cap3 hcap3; refine exI ?_)
    refine z0w [4, 5] (by kernel_rfl) (by decide) (List.forall_mem_cons.2 ⟨?_, List.forall_mem_cons.2 ⟨?_, fun _ h => by cases h⟩⟩)
    ·skip
     refine z03 z18 ?_; refine DVq_0 ?_; refine exI ?_; refine z12 z18 (g := 0) (by kernel_rfl) [(5, false), (6, false), (7, false)] (by kernel_rfl) fun _ hK7 => ?_; refine zjw ?_
     iterate 2 refine z6a ?_
     refine d_nil ?_; apply hK7; refine z0s (by kernel_rfl) ?_; refine dnS [0, 1] id () trivial [] ?_ ?_ ?_ ?_
     ·exact uVq_0
     ·exact uVq_0
     ·exact uVq_0
     ·exact uVq_0
    ·skip
     refine z03 z18 ?_; refine DVq_0 ?_; refine exI ?_; refine z12 z18 (g := 0) (by kernel_rfl) [(4, false), (6, false), (7, false)] (by kernel_rfl) fun _ hK8 => ?_; refine zjw ?_
     iterate 2 refine z6a ?_
     refine d_nil ?_; apply hK8; refine z0s (by kernel_rfl) ?_; refine dnS [0, 1] id () trivial [] ?_ ?_ ?_ ?_
     ·exact uVq_0
     ·exact uVq_0
     ·exact uVq_0
     ·exact uVq_0
   ·skip
    refine z03 z18 ?_; refine DVq_0 ?_; refine exI ?_; refine z0w [3, 5] (by kernel_rfl) (by decide) (List.forall_mem_cons.2 ⟨?_, List.forall_mem_cons.2 ⟨?_, fun _ h => by cases h⟩⟩)
    ·skip
     refine z03 z18 ?_; refine DVq_0 ?_; refine ⟨a1, l1, m1, rfl, hl1, ?_⟩; rw [hd1]; refine DVq_0 ?_
     first | refine exI ?_ | (intro cap3 hcap3; refine exI ?_)
     refine z12 z18 (g := 0) (by kernel_rfl) [(5, false), (6, false), (7, false)] (by kernel_rfl) fun _ hK9 => ?_; refine zjw ?_
     iterate 2 refine z6a ?_
     refine d_nil ?_; apply hK9; refine z0s (by kernel_rfl) ?_; refine dnS [0, 1] id () trivial [] ?_ ?_ ?_ ?_
     ·exact uVq_0
     ·exact uVq_0
     ·exact uVq_0
     ·exact uVq_0
    ·skip
     refine z03 z18 ?_; refine DVq_0 ?_; refine exI ?_; refine z12 z18 (g := 0) (by kernel_rfl) [(3, false), (6, false), (7, false)] (by kernel_rfl) fun _ hK10 => ?_; refine zan ?_; refine ⟨a1, l1, m1, rfl, hl1, ?_⟩; rw [hd1]; refine DVq_0 ?_
     first | refine exI ?_ | (intro cap3 hcap3; refine exI ?_)
     iterate 2 refine z6a ?_
     refine d_nil ?_; apply hK10; refine z0s (by kernel_rfl) ?_; refine dnS [0, 1] id () trivial [] ?_ ?_ ?_ ?_
     ·exact uVq_0
     ·exact uVq_0
     ·exact uVq_0
     ·exact uVq_0
   ·skip
    refine z03 z18 ?_; refine DVq_0 ?_; refine exI ?_; refine z0w [3, 4] (by kernel_rfl) (by decide) (List.forall_mem_cons.2 ⟨?_, List.forall_mem_cons.2 ⟨?_, fun _ h => by cases h⟩⟩)
    ·skip
     refine z03 z18 ?_; refine DVq_0 ?_; refine ⟨a1, l1, m1, rfl, hl1, ?_⟩; rw [hd1]; refine DVq_0 ?_
     first | refine exI ?_ | (intro cap3 hcap3; refine exI ?_)
     refine z12 z18 (g := 0) (by kernel_rfl) [(4, false), (6, false), (7, false)] (by kernel_rfl) fun _ hK11 => ?_; refine zjw ?_
     iterate 2 refine z6a ?_
     refine d_nil ?_; apply hK11; refine z0s (by kernel_rfl) ?_; refine dnS [0, 1] id () trivial [] ?_ ?_ ?_ ?_
     ·exact uVq_0
     ·exact uVq_0
     ·exact uVq_0
     ·exact uVq_0
    ·skip
     refine z03 z18 ?_; refine DVq_0 ?_; refine exI ?_; refine z12 z18 (g := 0) (by kernel_rfl) [(3, false), (6, false), (7, false)] (by kernel_rfl) fun _ hK12 => ?_; refine zan ?_; refine ⟨a1, l1, m1, rfl, hl1, ?_⟩; rw [hd1]; refine DVq_0 ?_
     first | refine exI ?_ | (intro cap3 hcap3; refine exI ?_)
     iterate 2 refine z6a ?_
     refine d_nil ?_; apply hK12; refine z0s (by kernel_rfl) ?_; refine dnS [0, 1] id () trivial [] ?_ ?_ ?_ ?_
     ·exact uVq_0
     ·exact uVq_0
     ·exact uVq_0
     ·exact uVq_0
  ·skip
   refine z03 z18 ?_; refine DVq_0 ?_; refine exI ?_; refine z0w [1, 5] (by kernel_rfl) (by decide) (List.forall_mem_cons.2 ⟨?_, List.forall_mem_cons.2 ⟨?_, fun _ h => by cases h⟩⟩)
   ·skip
    refine z03 z18 ?_; refine DVq_0 ?_; refine ⟨a0, l0, m0, rfl, hl0, ?_⟩; rw [hd0]; refine DVq_0 ?_
    first | refine exI ?_ | (intro cap1 hcap1; refine exI ?_)
    refine z0w [3, 5] (by kernel_rfl) (by decide) (List.forall_mem_cons.2 ⟨?_, List.forall_mem_cons.2 ⟨?_, fun _ h => by cases h⟩⟩)
    ·skip
     refine z03 z18 ?_; refine DVq_0 ?_; refine ⟨a1, l1, m1, rfl, hl1, ?_⟩; rw [hd1]; refine DVq_0 ?_
     first | refine exI ?_ | (intro cap3 hcap3; refine exI ?_)
     refine z12 z18 (g := 0) (by kernel_rfl) [(5, false), (6, false), (7, false)] (by kernel_rfl) fun _ hK13 => ?_; refine zjw ?_
     iterate 2 refine z6a ?_
     refine d_nil ?_; apply hK13; refine z0s (by kernel_rfl) ?_; refine dnS [0, 1] id () trivial [] ?_ ?_ ?_ ?_
     ·exact uVq_0
     ·exact uVq_0
     ·exact uVq_0
     ·exact uVq_0
    ·skip
     refine z03 z18 ?_; refine DVq_0 ?_; refine exI ?_; refine z12 z18 (g := 0) (by kernel_rfl) [(3, false), (6, false), (7, false)] (by kernel_rfl) fun _ hK14 => ?_; refine zan ?_; refine ⟨a1, l1, m1, rfl, hl1, ?_⟩; rw [hd1]; refine DVq_0 ?_
     first | refine exI ?_ | (intro cap3 hcap3; refine exI ?_)
     iterate 2 refine z6a ?_
     refine d_nil ?_; apply hK14; refine z0s (by kernel_rfl) ?_; refine dnS [0, 1] id () trivial [] ?_ ?_ ?_ ?_
     ·exact uVq_0
     ·exact uVq_0
     ·exact uVq_0
     ·exact uVq_0
   ·skip
    refine z03 z18 ?_; refine DVq_0 ?_; refine exI ?_; refine z12 z18 (g := 0) (by kernel_rfl) [(1, false), (3, false), (6, false), (7, false)] (by kernel_rfl) fun _ hK15 => ?_; refine zan ?_; refine ⟨a0, l0, m0, rfl, hl0, ?_⟩; rw [hd0]; refine DVq_0 ?_
    first | refine exI ?_ | (intro cap1 hcap1; refine exI ?_)
    refine zan ?_; refine ⟨a1, l1, m1, rfl, hl1, ?_⟩; rw [hd1]; refine DVq_0 ?_
    first | refine exI ?_ | (intro cap3 hcap3; refine exI ?_)
    iterate 2 refine z6a ?_
    refine d_nil ?_; apply hK15; refine z0s (by kernel_rfl) ?_; refine dnS [0, 1] id () trivial [] ?_ ?_ ?_ ?_
    ·exact uVq_0
    ·exact uVq_0
    ·exact uVq_0
    ·exact uVq_0
  ·skip
   refine z03 z18 ?_; refine DVq_0 ?_; refine exI ?_; refine z0w [1, 4] (by kernel_rfl) (by decide) (List.forall_mem_cons.2 ⟨?_, List.forall_mem_cons.2 ⟨?_, fun _ h => by cases h⟩⟩)
   ·skip
    refine z03 z18 ?_; refine DVq_0 ?_; refine ⟨a0, l0, m0, rfl, hl0, ?_⟩; rw [hd0]; refine DVq_0 ?_
    first | refine exI ?_ | (intro cap1 hcap1; refine exI ?_)
    refine z0w [3, 4] (by kernel_rfl) (by decide) (List.forall_mem_cons.2 ⟨?_, List.forall_mem_cons.2 ⟨?_, fun _ h => by cases h⟩⟩)
    ·skip
     refine z03 z18 ?_; refine DVq_0 ?_; refine ⟨a1, l1, m1, rfl, hl1, ?_⟩; rw [hd1]; refine DVq_0 ?_
     first | refine exI ?_ | (intro cap3 hcap3; refine exI ?_)
     refine z12 z18 (g := 0) (by kernel_rfl) [(4, false), (6, false), (7, false)] (by kernel_rfl) fun _ hK16 => ?_; refine zjw ?_
     iterate 2 refine z6a ?_
     refine d_nil ?_; apply hK16; refine z0s (by kernel_rfl) ?_; refine dnS [0, 1] id () trivial [] ?_ ?_ ?_ ?_
     ·exact uVq_0
     ·exact uVq_0
     ·exact uVq_0
     ·exact uVq_0
    ·skip
     refine z03 z18 ?_; refine DVq_0 ?_; refine exI ?_; refine z12 z18 (g := 0) (by kernel_rfl) [(3, false), (6, false), (7, false)] (by kernel_rfl) fun _ hK17 => ?_; refine zan ?_; refine ⟨a1, l1, m1, rfl, hl1, ?_⟩; rw [hd1]; refine DVq_0 ?_
     first | refine exI ?_ | (intro cap3 hcap3; refine exI ?_)
     iterate 2 refine z6a ?_
     refine d_nil ?_; apply hK17; refine z0s (by kernel_rfl) ?_; refine dnS [0, 1] id () trivial [] ?_ ?_ ?_ ?_
     ·exact uVq_0
     ·exact uVq_0
     ·exact uVq_0
     ·exact uVq_0
   ·skip
    refine z03 z18 ?_; refine DVq_0 ?_; refine exI ?_; refine z12 z18 (g := 0) (by kernel_rfl) [(1, false), (3, false), (6, false), (7, false)] (by kernel_rfl) fun _ hK18 => ?_; refine zan ?_; refine ⟨a0, l0, m0, rfl, hl0, ?_⟩; rw [hd0]; refine DVq_0 ?_
    first | refine exI ?_ | (intro cap1 hcap1; refine exI ?_)
    refine zan ?_; refine ⟨a1, l1, m1, rfl, hl1, ?_⟩; rw [hd1]; refine DVq_0 ?_
    first | refine exI ?_ | (intro cap3 hcap3; refine exI ?_)
    iterate 2 refine z6a ?_
    refine d_nil ?_; apply hK18; refine z0s (by kernel_rfl) ?_; refine dnS [0, 1] id () trivial [] ?_ ?_ ?_ ?_
    ·exact uVq_0
    ·exact uVq_0
    ·exact uVq_0
    ·exact uVq_0
 ·intro u hu
  clear hu; refine seq_k fun _ hK19 => ?_; refine z00 z18 fun _ hK20 => ?_; refine z6f ?_; refine z9l ?_; refine ⟨d0, rfl, w0, ?_⟩; rw [canR g0]; rw [hcE]; refine DVq_0 ?_
  first | refine exI ?_ | (intro cap1 hcap1; refine exI ?_)
  iterate 4 refine z6f ?_
  refine y0p ?_; refine z6f ?_; refine s_nil ?_; apply hK20; apply hK19; refine seq_k fun _ hK21 => ?_; refine z00 z18 fun _ hK22 => ?_; refine z6f ?_; refine z9l ?_; refine ⟨d1, rfl, w1, ?_⟩; rw [canR g1]; rw [heE]; refine DVq_0 ?_
  first | refine exI ?_ | (intro cap1 hcap1; refine exI ?_)
  iterate 4 refine z6f ?_
  refine y0p ?_; refine z6f ?_; refine s_nil ?_; apply hK22; apply hK21; refine seq_k fun _ hK23 => ?_; refine seq_k fun _ hK24 => ?_; refine z00 z18 fun _ hK25 => ?_
  iterate 2 refine z6f ?_
  refine z9l ?_; refine exB (fun hb2 => ?_) (fun hb2 => ?_)
  ·exfalso; first | exact absurd hb2 (by decide) | exact hb2 rfl | (simp at hb2; done) | omega
  iterate 2 refine zlr ?_
  refine z6f ?_; refine z9l ?_; refine exB (fun hb6 => ?_) (fun hb6 => ?_)
  ·exfalso; first | exact absurd hb6 (by decide) | exact hb6 rfl | (simp at hb6; done) | omega
  iterate 3 refine zlr ?_
  refine z6f ?_; refine s_nil ?_; apply hK25; apply hK24; refine z08 (b := _) rfl (fun h_t41 => ?_) (fun h_t41 => ?_)
  ·try simp only [dQ, if_true, if_false, reduceIte] at h_t41
   refine seq_k fun _ hK26 => ?_; refine z00 z18 fun _ hK27 => ?_
   iterate 2 refine z6f ?_
   refine z9l ?_; refine exB (fun hb2 => ?_) (fun hb2 => ?_)
   rotate_left 1
   ·exfalso; first | exact absurd hb2 (by decide) | exact hb2 rfl | (simp at hb2; done) | omega
   iterate 2 refine zlr ?_
   refine z6f ?_; refine z9l ?_; refine exB (fun hb6 => ?_) (fun hb6 => ?_)
   rotate_left 1
   ·exfalso; first | exact absurd hb6 (by decide) | exact hb6 rfl | (simp at hb6; done) | omega
   refine zlr ?_
   iterate 2 refine z6f ?_
   refine s_nil ?_; apply hK27; apply hK26; refine z0e (z0a z18 (fun _ _ h => h) (by first | rfl | assumption) [.tmp 6] rfl ?_); refine rtD ?_
   rfl
  ·try simp only [dQ, if_true, if_false, reduceIte] at h_t41
   refine z0c ?_; apply hK23; refine seq_k fun _ hK28 => ?_
   have hx1 : x.length ≤ 1000 := by omega
   refine z00 z18 fun _ hK29 => ?_
   iterate 2 refine z6f ?_
   refine z9l ?_; refine ⟨d0, d1, rfl, ⟨w0, w1⟩, ?_⟩; rw [hoE]; refine DVq_0 ?_
   first | refine exI ?_ | (intro cap2 hcap2; refine exI ?_)
   iterate 5 refine z6f ?_
   refine s_nil ?_; apply hK29; apply hK28; refine seq_k fun _ hK30 => ?_; refine seq_k fun _ hK31 => ?_; refine z2m z18 (by kernel_rfl) fun _ hK32 => ?_; refine z33 ?_; refine z26 ?_; refine exB (fun hb1 => ?_) (fun hb1 => ?_)
   ·skip
    try simp only [dQ, if_true, if_false, reduceIte] at hb1
    iterate 2 refine z2u ?_
    refine z1c ?_; refine ⟨d0, lsB o, rfl, ⟨w0, by omega⟩, ?_⟩; refine DVq_0 ?_
    first | refine exI ?_ | (intro cap4 hcap4; refine exI ?_)
    iterate 2 refine z2u ?_
    refine z1c ?_; refine ⟨d1, lsB o, rfl, ⟨w1, by omega⟩, ?_⟩; refine DVq_0 ?_
    first | refine exI ?_ | (intro cap7 hcap7; refine exI ?_)
    refine z1c ?_; refine exA (.c (.bool (false))) (as_eq (congrArg (fun v => SV.c (Cell.bool v)) (by rw [ha2 hb1]; simp))) ?_; refine z33 ?_; refine q_nil ?_; apply hK32; apply hK31; refine z08 (b := _) rfl (fun h_t66 => ?_) (fun _ => ?_)
    ·exfalso; first | exact absurd h_t66 (by decide) | (simp at h_t66; done) | cases h_t66
    refine z0c ?_; apply hK30; refine seq_k fun _ hK33 => ?_; refine seq_k fun _ hK34 => ?_; refine z2m z18 (by kernel_rfl) fun _ hK35 => ?_
    iterate 2 refine z33 ?_
    refine z26 ?_; refine exB (fun hb2 => ?_) (fun hb2 => ?_)
    ·skip
     try simp only [dQ, if_true, if_false, reduceIte] at hb2
     iterate 2 refine z2u ?_
     refine z1c ?_; refine ⟨d0, x, rfl, ⟨w0, by omega⟩, ?_⟩; refine DVq_0 ?_
     first | refine exI ?_ | (intro cap5 hcap5; refine exI ?_)
     iterate 2 refine z2u ?_
     refine z1c ?_; refine ⟨d1, x, rfl, ⟨w1, by omega⟩, ?_⟩; refine DVq_0 ?_
     first | refine exI ?_ | (intro cap8 hcap8; refine exI ?_)
     refine z1c ?_; refine exA (.c (.bool (false))) (as_eq (congrArg (fun v => SV.c (Cell.bool v)) (by rw [ha3 hb2]; simp))) ?_; refine z33 ?_; refine q_nil ?_; apply hK35; apply hK34; refine z08 (b := _) rfl (fun h_t77 => ?_) (fun _ => ?_)
     ·exfalso; first | exact absurd h_t77 (by decide) | (simp at h_t77; done) | cases h_t77
     refine z0c ?_; apply hK33; refine seq_k fun _ hK36 => ?_; refine z2m z18 (by kernel_rfl) fun _ hK37 => ?_
     iterate 2 refine z33 ?_
     refine z26 ?_; refine ⟨c, e, rfl, ⟨wc, we⟩, ?_⟩; refine DVq_0 ?_
     first | refine exI ?_ | (intro cap2 hcap2; refine exI ?_)
     iterate 2 refine z33 ?_
     refine z26 ?_; refine exA (.c (.bool (true))) (as_eq (congrArg (fun v => SV.c (Cell.bool v)) (by rw [ha4]; simp))) ?_; refine z26 ?_; refine exB (fun hb6 => ?_) (fun hb6 => ?_)
     rotate_left 1
     ·exfalso; first | exact absurd hb6 (by decide) | exact hb6 rfl | (simp at hb6; done) | omega
     iterate 2 refine z2u ?_
     refine z1c ?_; refine ⟨c, x, rfl, ⟨wc, by omega⟩, ?_⟩; refine DVq_0 ?_
     first | refine exI ?_ | (intro cap9 hcap9; refine exI ?_)
     iterate 2 refine z2u ?_
     refine z1c ?_; refine ⟨d0, x, rfl, ⟨w0, by omega⟩, ?_⟩; refine DVq_0 ?_
     first | refine exI ?_ | (intro cap12 hcap12; refine exI ?_)
     refine z1c ?_; refine exA (.c (.bool (true))) (as_eq (congrArg (fun v => SV.c (Cell.bool v)) (by rw [hcacc]; simp))) ?_; refine z33 ?_; refine z26 ?_; refine exB (fun hb15 => ?_) (fun hb15 => ?_)
     rotate_left 1
     ·exfalso; first | exact absurd hb15 (by decide) | exact hb15 rfl | (simp at hb15; done) | omega
     iterate 6 refine z2u ?_
     refine z1c ?_; refine exA (.c (.bool (true))) (as_eq (congrArg (fun v => SV.c (Cell.bool v)) (by simp; omega))) ?_; refine z33 ?_; refine z26 ?_; refine exB (fun hb24 => ?_) (fun hb24 => ?_)
     rotate_left 1
     ·exfalso; first | exact absurd hb24 (by decide) | exact hb24 rfl | (simp at hb24; done) | omega
     refine z2u ?_
     iterate 2 refine z33 ?_
     refine q_nil ?_; apply hK37; apply hK36; refine z0e (z0a z18 (fun _ _ h => h) (by first | rfl | assumption) [.tmp 6] rfl ?_); refine rtD ?_
     rfl
    ·skip
     try simp only [dQ, if_true, if_false, reduceIte] at hb2
     iterate 7 refine qN ?_
     refine z33 ?_; refine q_nil ?_; apply hK35; apply hK34; refine z08 (b := _) rfl (fun h_t77 => ?_) (fun _ => ?_)
     ·exfalso; first | exact absurd h_t77 (by decide) | (simp at h_t77; done) | cases h_t77
     refine z0c ?_; apply hK33; refine seq_k fun _ hK38 => ?_; refine z2m z18 (by kernel_rfl) fun _ hK39 => ?_
     iterate 2 refine z33 ?_
     refine z26 ?_; refine ⟨c, e, rfl, ⟨wc, we⟩, ?_⟩; refine DVq_0 ?_
     first | refine exI ?_ | (intro cap2 hcap2; refine exI ?_)
     iterate 2 refine z33 ?_
     refine z26 ?_; refine exA (.c (.bool (true))) (as_eq (congrArg (fun v => SV.c (Cell.bool v)) (by rw [ha4]; simp))) ?_; refine z26 ?_; refine exB (fun hb6 => ?_) (fun hb6 => ?_)
     rotate_left 1
     ·exfalso; first | exact absurd hb6 (by decide) | exact hb6 rfl | (simp at hb6; done) | omega
     iterate 2 refine z2u ?_
     refine z1c ?_; refine ⟨c, x, rfl, ⟨wc, by omega⟩, ?_⟩; refine DVq_0 ?_
     first | refine exI ?_ | (intro cap9 hcap9; refine exI ?_)
     iterate 2 refine z2u ?_
     refine z1c ?_; refine ⟨d0, x, rfl, ⟨w0, by omega⟩, ?_⟩; refine DVq_0 ?_
     first | refine exI ?_ | (intro cap12 hcap12; refine exI ?_)
     refine z1c ?_; refine exA (.c (.bool (true))) (as_eq (congrArg (fun v => SV.c (Cell.bool v)) (by rw [hcacc]; simp))) ?_; refine z33 ?_; refine z26 ?_; refine exB (fun hb15 => ?_) (fun hb15 => ?_)
     rotate_left 1
     ·exfalso; first | exact absurd hb15 (by decide) | exact hb15 rfl | (simp at hb15; done) | omega
     iterate 6 refine z2u ?_
     refine z1c ?_; refine exA (.c (.bool (true))) (as_eq (congrArg (fun v => SV.c (Cell.bool v)) (by simp; omega))) ?_; refine z33 ?_; refine z26 ?_; refine exB (fun hb24 => ?_) (fun hb24 => ?_)
     rotate_left 1
     ·exfalso; first | exact absurd hb24 (by decide) | exact hb24 rfl | (simp at hb24; done) | omega
     refine z2u ?_
     iterate 2 refine z33 ?_
     refine q_nil ?_; apply hK39; apply hK38; refine z0e (z0a z18 (fun _ _ h => h) (by first | rfl | assumption) [.tmp 6] rfl ?_); refine rtD ?_
     rfl
   ·skip
    try simp only [dQ, if_true, if_false, reduceIte] at hb1
    iterate 7 refine qN ?_
    refine z33 ?_; refine q_nil ?_; apply hK32; apply hK31; refine z08 (b := _) rfl (fun h_t66 => ?_) (fun _ => ?_)
    ·exfalso; first | exact absurd h_t66 (by decide) | (simp at h_t66; done) | cases h_t66
    refine z0c ?_; apply hK30; refine seq_k fun _ hK40 => ?_; refine seq_k fun _ hK41 => ?_; refine z2m z18 (by kernel_rfl) fun _ hK42 => ?_
    iterate 2 refine z33 ?_
    refine z26 ?_; refine exB (fun hb2 => ?_) (fun hb2 => ?_)
    ·skip
     try simp only [dQ, if_true, if_false, reduceIte] at hb2
     iterate 2 refine z2u ?_
     refine z1c ?_; refine ⟨d0, x, rfl, ⟨w0, by omega⟩, ?_⟩; refine DVq_0 ?_
     first | refine exI ?_ | (intro cap5 hcap5; refine exI ?_)
     iterate 2 refine z2u ?_
     refine z1c ?_; refine ⟨d1, x, rfl, ⟨w1, by omega⟩, ?_⟩; refine DVq_0 ?_
     first | refine exI ?_ | (intro cap8 hcap8; refine exI ?_)
     refine z1c ?_; refine exA (.c (.bool (false))) (as_eq (congrArg (fun v => SV.c (Cell.bool v)) (by rw [ha3 hb2]; simp))) ?_; refine z33 ?_; refine q_nil ?_; apply hK42; apply hK41; refine z08 (b := _) rfl (fun h_t77 => ?_) (fun _ => ?_)
     ·exfalso; first | exact absurd h_t77 (by decide) | (simp at h_t77; done) | cases h_t77
     refine z0c ?_; apply hK40; refine seq_k fun _ hK43 => ?_; refine z2m z18 (by kernel_rfl) fun _ hK44 => ?_
     iterate 2 refine z33 ?_
     refine z26 ?_; refine ⟨c, e, rfl, ⟨wc, we⟩, ?_⟩; refine DVq_0 ?_
     first | refine exI ?_ | (intro cap2 hcap2; refine exI ?_)
     iterate 2 refine z33 ?_
     refine z26 ?_; refine exA (.c (.bool (true))) (as_eq (congrArg (fun v => SV.c (Cell.bool v)) (by rw [ha4]; simp))) ?_; refine z26 ?_; refine exB (fun hb6 => ?_) (fun hb6 => ?_)
     rotate_left 1
     ·exfalso; first | exact absurd hb6 (by decide) | exact hb6 rfl | (simp at hb6; done) | omega
     iterate 2 refine z2u ?_
     refine z1c ?_; refine ⟨c, x, rfl, ⟨wc, by omega⟩, ?_⟩; refine DVq_0 ?_
     first | refine exI ?_ | (intro cap9 hcap9; refine exI ?_)
     iterate 2 refine z2u ?_
     refine z1c ?_; refine ⟨d0, x, rfl, ⟨w0, by omega⟩, ?_⟩; refine DVq_0 ?_
     first | refine exI ?_ | (intro cap12 hcap12; refine exI ?_)
     refine z1c ?_; refine exA (.c (.bool (true))) (as_eq (congrArg (fun v => SV.c (Cell.bool v)) (by rw [hcacc]; simp))) ?_; refine z33 ?_; refine z26 ?_; refine exB (fun hb15 => ?_) (fun hb15 => ?_)
     rotate_left 1
     ·exfalso; first | exact absurd hb15 (by decide) | exact hb15 rfl | (simp at hb15; done) | omega
     iterate 6 refine z2u ?_
     refine z1c ?_; refine exA (.c (.bool (true))) (as_eq (congrArg (fun v => SV.c (Cell.bool v)) (by simp; omega))) ?_; refine z33 ?_; refine z26 ?_; refine exB (fun hb24 => ?_) (fun hb24 => ?_)
     rotate_left 1
     ·exfalso; first | exact absurd hb24 (by decide) | exact hb24 rfl | (simp at hb24; done) | omega
     refine z2u ?_
     iterate 2 refine z33 ?_
     refine q_nil ?_; apply hK44; apply hK43; refine z0e (z0a z18 (fun _ _ h => h) (by first | rfl | assumption) [.tmp 6] rfl ?_); refine rtD ?_
     rfl
    ·skip
     try simp only [dQ, if_true, if_false, reduceIte] at hb2
     iterate 7 refine qN ?_
     refine z33 ?_; refine q_nil ?_; apply hK42; apply hK41; refine z08 (b := _) rfl (fun h_t77 => ?_) (fun _ => ?_)
     ·exfalso; first | exact absurd h_t77 (by decide) | (simp at h_t77; done) | cases h_t77
     refine z0c ?_; apply hK40; refine seq_k fun _ hK45 => ?_; refine z2m z18 (by kernel_rfl) fun _ hK46 => ?_
     iterate 2 refine z33 ?_
     refine z26 ?_; refine ⟨c, e, rfl, ⟨wc, we⟩, ?_⟩; refine DVq_0 ?_
     first | refine exI ?_ | (intro cap2 hcap2; refine exI ?_)
     iterate 2 refine z33 ?_
     refine z26 ?_; refine exA (.c (.bool (true))) (as_eq (congrArg (fun v => SV.c (Cell.bool v)) (by rw [ha4]; simp))) ?_; refine z26 ?_; refine exB (fun hb6 => ?_) (fun hb6 => ?_)
     rotate_left 1
     ·exfalso; first | exact absurd hb6 (by decide) | exact hb6 rfl | (simp at hb6; done) | omega
     iterate 2 refine z2u ?_
     refine z1c ?_; refine ⟨c, x, rfl, ⟨wc, by omega⟩, ?_⟩; refine DVq_0 ?_
     first | refine exI ?_ | (intro cap9 hcap9; refine exI ?_)
     iterate 2 refine z2u ?_
     refine z1c ?_; refine ⟨d0, x, rfl, ⟨w0, by omega⟩, ?_⟩; refine DVq_0 ?_
     first | refine exI ?_ | (intro cap12 hcap12; refine exI ?_)
     refine z1c ?_; refine exA (.c (.bool (true))) (as_eq (congrArg (fun v => SV.c (Cell.bool v)) (by rw [hcacc]; simp))) ?_; refine z33 ?_; refine z26 ?_; refine exB (fun hb15 => ?_) (fun hb15 => ?_)
     rotate_left 1
     ·exfalso; first | exact absurd hb15 (by decide) | exact hb15 rfl | (simp at hb15; done) | omega
     iterate 6 refine z2u ?_
     refine z1c ?_; refine exA (.c (.bool (true))) (as_eq (congrArg (fun v => SV.c (Cell.bool v)) (by simp; omega))) ?_; refine z33 ?_; refine z26 ?_; refine exB (fun hb24 => ?_) (fun hb24 => ?_)
     rotate_left 1
     ·exfalso; first | exact absurd hb24 (by decide) | exact hb24 rfl | (simp at hb24; done) | omega
     refine z2u ?_
     iterate 2 refine z33 ?_
     refine q_nil ?_; apply hK46; apply hK45; refine z0e (z0a z18 (fun _ _ h => h) (by first | rfl | assumption) [.tmp 6] rfl ?_); refine rtD ?_
     rfl


end Go.Proofs.YtppmnaoollkboaaDoor
