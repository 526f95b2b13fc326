/- The law of Boolean operations. -/
import Derived.Test.YtppmnaoollkboaaDoorPo
import Derived.Test.YtppmnaoollkboaaDoorPp
namespace Go.Proofs.YtppmnaoollkboaaDoor
set_option linter.all false
open Go.Ab Go.RowKit

theorem qVs0 {a : Prop} (h : a := by first | exact vcA | (simp <;> omega) | exact ⟨by omega, by omega⟩ | exact vcB) : a := h
theorem uVs_0 {a : Prop} (h : a := by
    repeat' (first | exact pT  | exact trivial | refine aI ?_ ?_ | exact cC0 | refine low_cons' ?_ ?_ | exact cC1 | fail)
    all_goals first | omega | exact z1e _ | exact z19 _ | (simp; done) | (show Cont.u8s _ = _; simp; done)| (show (0 : Nat) < (z02 _ _ _ _).length; rw [z01 hcl]; decide) | (simp [-List.reduceReplicate]; done) | (simp [-List.reduceReplicate] <;> omega) | skip) : a := h
theorem DVs_0 {a b : Prop} (kZ : b) (h : HidB b → a := by intro kZ; (repeat first | refine aI qVs0 ?_ | refine z05 qVs0 ?_ | refine z04 qVs0 ?_ | refine z0i qVs0 ?_ | refine z0d ?_); exact kZ.out) : a := h ⟨kZ⟩
theorem z1a {a b : Prop} (kZ : b) (h : HidB b → a := by intro kZ; refine sX ?_; refine DVs_0 ?_; refine exI ?_; exact kZ.out) : a := h ⟨kZ⟩
theorem dXVs_2 {a b : Prop} (kZ : b) (h : HidB b → a := by intro kZ; refine dX ?_; refine DVs_0 ?_; refine exI ?_; exact kZ.out) : a := h ⟨kZ⟩
theorem zjx {a b : Prop} (kZ : b) (h : HidB b → a := by intro kZ; refine gX ?_; refine DVs_0 ?_; refine exI ?_; exact kZ.out) : a := h ⟨kZ⟩
theorem z6b {a b : Prop} (kZ : b) (h : HidB b → a := by intro kZ; refine gX0 ?_; refine DVs_0 ?_; refine exI ?_; exact kZ.out) : a := h ⟨kZ⟩
theorem zlt {a b : Prop} (kZ : b) (h : HidB b → a := by intro kZ; refine sX0 ?_; refine DVs_0 ?_; refine exI ?_; exact kZ.out) : a := h ⟨kZ⟩
theorem z11 {a b : Prop} (kZ : b) (h : HidB b → a := by intro kZ; refine sXT ?_; refine DVs_0 ?_; refine exI ?_; exact kZ.out) : a := h ⟨kZ⟩
theorem y0u {a b : Prop} (kZ : b) (h : HidB b → a := by intro kZ; refine qX ?_; refine DVs_0 ?_; refine exI ?_; exact kZ.out) : a := h ⟨kZ⟩
theorem zao {a b : Prop} (kZ : b) (h : HidB b → a := by intro kZ; refine gX ?_; refine DVs_0 ?_; exact kZ.out) : a := h ⟨kZ⟩
theorem z29 {a b : Prop} (kZ : b) (h : HidB b → a := by intro kZ; refine sX ?_; refine DVs_0 ?_; exact kZ.out) : a := h ⟨kZ⟩
theorem ztj {a b : Prop} (kZ : b) (h : HidB b → a := by intro kZ; refine qX ?_; refine DVs_0 ?_; exact kZ.out) : a := h ⟨kZ⟩
theorem z0o {a b : Prop} (kZ : b) (h : HidB b → a := by intro kZ; refine sXT ?_; refine DVs_0 ?_; exact kZ.out) : a := h ⟨kZ⟩

open Go.Aut
attribute [local irreducible] z0p z1v zl z02 z1f putB madeD prW
noncomputable def gx10 : Ctx := { P := Tryd.prog, ty := ty, glob := gl, fs := [(20, .flat zej), (21, .data madeS), (22, .data fewS), (36, .data andAS), (38, .data orAS), (40, .data zz6), (47, .data notAS), (25, .flat z7h)] }
theorem z0r : gx10.OK := ⟨tyOK, ⟨⟨z06 Tryd.func20 (by kernel_rfl) rfl, zal⟩, ⟨z06 Tryd.func21 (by kernel_rfl) rfl, zll⟩, ⟨z06 Tryd.func22 (by kernel_rfl) rfl, zzu⟩, ⟨z06 Tryd.func36 (by kernel_rfl) rfl, andA_ok⟩, ⟨z06 Tryd.func38 (by kernel_rfl) rfl, orA_ok⟩, ⟨z06 Tryd.func40 (by kernel_rfl) rfl, zz7⟩, ⟨z06 Tryd.func47 (by kernel_rfl) rfl, notA_ok⟩, ⟨z06 Tryd.func25 (by kernel_rfl) rfl, z5o⟩, trivial⟩, mixed⟩
@[simp] theorem gx10_ty : gx10.ty = ty := rfl

def zqr : QSpec := fun vs K => ∃ (a0 : UInt8) (l0 : List UInt8) (m0 : UInt8) (a1 : UInt8) (l1 : List UInt8) (m1 : UInt8) (x : List UInt8), vs = [shpV a0 l0 m0, shpV a1 l1 m1, .c (.ds x.length (.u8s x))] ∧ (l0.length ≤ 9223372036854775807 ∧ l1.length ≤ 9223372036854775807 ∧ x.length ≤ 9223372036854775807) ∧ K (.c (.bool true))
set_option maxHeartbeats 1000000 in
set_option maxRecDepth 4000 in
theorem zlu : z1b Tryd.prog gl 10 zqr := by
 refine z1h (Γ := gx10) (N := 124) Tryd.func10 rfl rfl fun vs K h => ?_; obtain ⟨a0, l0, m0, a1, l1, m1, x, rfl, ⟨hl0, hl1, hx⟩, h⟩ := h; refine ⟨_, h, rfl, by simp, fun w I => ?_⟩; obtain ⟨d0, hd0⟩ : ∃ d, madeD a0 l0 m0 = d := ⟨_, rfl⟩
 have g0 : d0.good := hd0 ▸ z77 a0 l0 m0
 have w0 := z2n g0
 have n0 : d0.next.length ≤ 5 := by rw [← hd0, z7r]; exact (z7q a0).2
 obtain ⟨d1, hd1⟩ : ∃ d, madeD a1 l1 m1 = d := ⟨_, rfl⟩
 have g1 : d1.good := hd1 ▸ z77 a1 l1 m1
 have w1 := z2n g1
 have n1 : d1.next.length ≤ 5 := by rw [← hd1, z7r]; exact (z7q a1).2
 have h25 : d0.next.length * d1.next.length ≤ 64 := Nat.le_trans (Nat.mul_le_mul n0 n1) (by decide)
 obtain ⟨rA, qA, _⟩ := zlp (op := (fun x y => x && y)) g0 g1 h25
 have LA := (zba qA).2
 obtain ⟨cA, eA⟩ : ∃ c, canD (combB (fun x y => x && y) d0 d1) = c := ⟨_, rfl⟩; rw [eA] at rA qA LA
 have vA := z2n qA
 obtain ⟨rO, qO, _⟩ := zlp (op := (fun x y => x || y)) g0 g1 h25
 have LO := (zba qO).2
 obtain ⟨cO, eO⟩ : ∃ c, canD (combB (fun x y => x || y) d0 d1) = c := ⟨_, rfl⟩; rw [eO] at rO qO LO
 have vO := z2n qO
 obtain ⟨rM, qM, _⟩ := zlp (op := (fun x y => x && !y)) g0 g1 h25
 have LM := (zba qM).2
 obtain ⟨cM, eM⟩ : ∃ c, canD (combB (fun x y => x && !y) d0 d1) = c := ⟨_, rfl⟩; rw [eM] at rM qM LM
 have vM := z2n qM
 obtain ⟨rN, qN, _⟩ := not_res g0
 have LN := (zba qN).2
 obtain ⟨cN', eN⟩ : ∃ c, (canD fun w => !langD d0 w) = c := ⟨_, rfl⟩; rw [eN] at rN qN LN
 have vN := z2n qN
 have fA : ∀ y, z0y cA y = (z0y d0 y && z0y d1 y) := fun y => by rw [accG qA, accG g0, accG g1]; exact LA _ (z4f y)
 have fO : ∀ y, z0y cO y = (z0y d0 y || z0y d1 y) := fun y => by rw [accG qO, accG g0, accG g1]; exact LO _ (z4f y)
 have fM : ∀ y, z0y cM y = (z0y d0 y && !z0y d1 y) := fun y => by rw [accG qM, accG g0, accG g1]; exact LM _ (z4f y)
 have fN : ∀ y, z0y cN' y = !z0y d0 y := fun y => by rw [accG qN, accG g0]; exact LN _ (z4f y)
 refine seq_k fun _ hK1 => ?_; refine z00 z0r fun _ hK2 => ?_
 iterate 3 refine z1a ?_
 refine s_nil ?_; apply hK2; apply hK1; refine seq_k fun _ hK3 => ?_; refine z00 z0r fun _ hK4 => ?_
 iterate 2 refine z1a ?_
 refine s_nil ?_; apply hK4; apply hK3; refine seq_k fun _ hK5 => ?_; refine seq_k fun _ hK6 => ?_; refine z00 z0r fun _ hK7 => ?_
 iterate 3 refine z1a ?_
 refine s_nil ?_; apply hK7; apply hK6; refine z08 (b := _) rfl (fun h_t26 => ?_) (fun h_t26 => ?_)
 ·try simp only [dQ, if_true, if_false, reduceIte] at h_t26
  refine seq_k fun _ hK8 => ?_; refine z00 z0r fun _ hK9 => ?_
  iterate 2 refine z1a ?_
  refine s_nil ?_; apply hK9; apply hK8; refine z0e (z0a z0r (fun _ _ h => h) (by first | rfl | assumption) [.tmp 6] rfl ?_); refine rtD ?_
  rfl
 ·try simp only [dQ, if_true, if_false, reduceIte] at h_t26
  refine z0c ?_; apply hK5; refine z9z (α := Unit) (fun _ => [(2, .c (.ds x.length (.u8s x))), (7, .c (.bool true)), (8, .c (.dp (dfaC d0) 0)), (9, .c (.dp (dfaC d1) 0))]) (fun _ => []) 0 (fun _ => True) ?_ ?_
  ·have hx1 : x.length ≤ 1000 := by omega
   refine leW [0, 1] id [(2, .c (.ds x.length (.u8s x))), (3, .c (.dp (.cells [.u8 a0, .ds l0.length (.u8s l0), .u8 m0]) 0)), (4, .c (.dp (.cells [.u8 a1, .ds l1.length (.u8s l1), .u8 m1]) 0)), (7, .c (.bool true))] [] 0 [] uVs_0 uVs_0 uVs_0 uVs_0 ?_
   refine ziw z0r ?_; refine z12 z0r (g := 6) (by kernel_rfl) [(0, true), (2, true)] (by kernel_rfl) fun _ hK11 => ?_
   iterate 2 refine dXVs_2 ?_
   refine d_nil ?_; apply hK11; refine z0w [1, 4, 5] (by kernel_rfl) (by decide) (List.forall_mem_cons.2 ⟨?_, List.forall_mem_cons.2 ⟨?_, List.forall_mem_cons.2 ⟨?_, fun _ h => by cases h⟩⟩⟩)
   ·refine z03 z0r ?_; refine DVs_0 ?_; refine ⟨a0, l0, m0, rfl, hl0, ?_⟩; rw [hd0]; refine DVs_0 ?_
    refine exI ?_
    refine z0w [3, 4, 5] (by kernel_rfl) (by decide) (List.forall_mem_cons.2 ⟨?_, List.forall_mem_cons.2 ⟨?_, List.forall_mem_cons.2 ⟨?_, fun _ h => by cases h⟩⟩⟩)
    ·refine z03 z0r ?_; refine DVs_0 ?_; refine ⟨a1, l1, m1, rfl, hl1, ?_⟩; rw [hd1]; refine DVs_0 ?_
     refine exI ?_
     refine z0w [4, 5] (by kernel_rfl) (by decide) (List.forall_mem_cons.2 ⟨?_, List.forall_mem_cons.2 ⟨?_, fun _ h => by cases h⟩⟩)
     ·refine z03 z0r ?_; refine DVs_0 ?_; refine exI ?_; refine z12 z0r (g := 0) (by kernel_rfl) [(5, false), (6, false), (7, false)] (by kernel_rfl) fun _ hK12 => ?_; refine zjx ?_
      iterate 2 refine z6b ?_
      refine d_nil ?_; apply hK12; refine z0s (by kernel_rfl) ?_; refine dnS [0, 1] id () trivial [] uVs_0 uVs_0 uVs_0 uVs_0
     ·refine z03 z0r ?_; refine DVs_0 ?_; refine exI ?_; refine z12 z0r (g := 0) (by kernel_rfl) [(4, false), (6, false), (7, false)] (by kernel_rfl) fun _ hK13 => ?_; refine zjx ?_
      iterate 2 refine z6b ?_
      refine d_nil ?_; apply hK13; refine z0s (by kernel_rfl) ?_; refine dnS [0, 1] id () trivial [] uVs_0 uVs_0 uVs_0 uVs_0
    ·refine z03 z0r ?_; refine DVs_0 ?_; refine exI ?_; refine z0w [3, 5] (by kernel_rfl) (by decide) (List.forall_mem_cons.2 ⟨?_, List.forall_mem_cons.2 ⟨?_, fun _ h => by cases h⟩⟩)
     ·refine z03 z0r ?_; refine DVs_0 ?_; refine ⟨a1, l1, m1, rfl, hl1, ?_⟩; rw [hd1]; refine DVs_0 ?_
      refine exI ?_
      refine z12 z0r (g := 0) (by kernel_rfl) [(5, false), (6, false), (7, false)] (by kernel_rfl) fun _ hK14 => ?_; refine zjx ?_
      iterate 2 refine z6b ?_
      refine d_nil ?_; apply hK14; refine z0s (by kernel_rfl) ?_; refine dnS [0, 1] id () trivial [] uVs_0 uVs_0 uVs_0 uVs_0
     ·refine z03 z0r ?_; refine DVs_0 ?_; refine exI ?_; refine z12 z0r (g := 0) (by kernel_rfl) [(3, false), (6, false), (7, false)] (by kernel_rfl) fun _ hK15 => ?_; refine zao ?_; refine ⟨a1, l1, m1, rfl, hl1, ?_⟩; rw [hd1]; refine DVs_0 ?_
      refine exI ?_
      iterate 2 refine z6b ?_
      refine d_nil ?_; apply hK15; refine z0s (by kernel_rfl) ?_; refine dnS [0, 1] id () trivial [] uVs_0 uVs_0 uVs_0 uVs_0
    ·refine z03 z0r ?_; refine DVs_0 ?_; refine exI ?_; refine z0w [3, 4] (by kernel_rfl) (by decide) (List.forall_mem_cons.2 ⟨?_, List.forall_mem_cons.2 ⟨?_, fun _ h => by cases h⟩⟩)
     ·refine z03 z0r ?_; refine DVs_0 ?_; refine ⟨a1, l1, m1, rfl, hl1, ?_⟩; rw [hd1]; refine DVs_0 ?_
      refine exI ?_
      refine z12 z0r (g := 0) (by kernel_rfl) [(4, false), (6, false), (7, false)] (by kernel_rfl) fun _ hK16 => ?_; refine zjx ?_
      iterate 2 refine z6b ?_
      refine d_nil ?_; apply hK16; refine z0s (by kernel_rfl) ?_; refine dnS [0, 1] id () trivial [] uVs_0 uVs_0 uVs_0 uVs_0
     ·refine z03 z0r ?_; refine DVs_0 ?_; refine exI ?_; refine z12 z0r (g := 0) (by kernel_rfl) [(3, false), (6, false), (7, false)] (by kernel_rfl) fun _ hK17 => ?_; refine zao ?_; refine ⟨a1, l1, m1, rfl, hl1, ?_⟩; rw [hd1]; refine DVs_0 ?_
      refine exI ?_
      iterate 2 refine z6b ?_
      refine d_nil ?_; apply hK17; refine z0s (by kernel_rfl) ?_; refine dnS [0, 1] id () trivial [] uVs_0 uVs_0 uVs_0 uVs_0
   ·refine z03 z0r ?_; refine DVs_0 ?_; refine exI ?_; refine z0w [1, 5] (by kernel_rfl) (by decide) (List.forall_mem_cons.2 ⟨?_, List.forall_mem_cons.2 ⟨?_, fun _ h => by cases h⟩⟩)
    ·refine z03 z0r ?_; refine DVs_0 ?_; refine ⟨a0, l0, m0, rfl, hl0, ?_⟩; rw [hd0]; refine DVs_0 ?_
     refine exI ?_
     refine z0w [3, 5] (by kernel_rfl) (by decide) (List.forall_mem_cons.2 ⟨?_, List.forall_mem_cons.2 ⟨?_, fun _ h => by cases h⟩⟩)
     ·refine z03 z0r ?_; refine DVs_0 ?_; refine ⟨a1, l1, m1, rfl, hl1, ?_⟩; rw [hd1]; refine DVs_0 ?_
      refine exI ?_
      refine z12 z0r (g := 0) (by kernel_rfl) [(5, false), (6, false), (7, false)] (by kernel_rfl) fun _ hK18 => ?_; refine zjx ?_
      iterate 2 refine z6b ?_
      refine d_nil ?_; apply hK18; refine z0s (by kernel_rfl) ?_; refine dnS [0, 1] id () trivial [] uVs_0 uVs_0 uVs_0 uVs_0
     ·refine z03 z0r ?_; refine DVs_0 ?_; refine exI ?_; refine z12 z0r (g := 0) (by kernel_rfl) [(3, false), (6, false), (7, false)] (by kernel_rfl) fun _ hK19 => ?_; refine zao ?_; refine ⟨a1, l1, m1, rfl, hl1, ?_⟩; rw [hd1]; refine DVs_0 ?_
      refine exI ?_
      iterate 2 refine z6b ?_
      refine d_nil ?_; apply hK19; refine z0s (by kernel_rfl) ?_; refine dnS [0, 1] id () trivial [] uVs_0 uVs_0 uVs_0 uVs_0
    ·refine z03 z0r ?_; refine DVs_0 ?_; refine exI ?_; refine z12 z0r (g := 0) (by kernel_rfl) [(1, false), (3, false), (6, false), (7, false)] (by kernel_rfl) fun _ hK20 => ?_; refine zao ?_; refine ⟨a0, l0, m0, rfl, hl0, ?_⟩; rw [hd0]; refine DVs_0 ?_
     refine exI ?_
     refine zao ?_; refine ⟨a1, l1, m1, rfl, hl1, ?_⟩; rw [hd1]; refine DVs_0 ?_
     refine exI ?_
     iterate 2 refine z6b ?_
     refine d_nil ?_; apply hK20; refine z0s (by kernel_rfl) ?_; refine dnS [0, 1] id () trivial [] uVs_0 uVs_0 uVs_0 uVs_0
   ·refine z03 z0r ?_; refine DVs_0 ?_; refine exI ?_; refine z0w [1, 4] (by kernel_rfl) (by decide) (List.forall_mem_cons.2 ⟨?_, List.forall_mem_cons.2 ⟨?_, fun _ h => by cases h⟩⟩)
    ·refine z03 z0r ?_; refine DVs_0 ?_; refine ⟨a0, l0, m0, rfl, hl0, ?_⟩; rw [hd0]; refine DVs_0 ?_
     refine exI ?_
     refine z0w [3, 4] (by kernel_rfl) (by decide) (List.forall_mem_cons.2 ⟨?_, List.forall_mem_cons.2 ⟨?_, fun _ h => by cases h⟩⟩)
     ·refine z03 z0r ?_; refine DVs_0 ?_; refine ⟨a1, l1, m1, rfl, hl1, ?_⟩; rw [hd1]; refine DVs_0 ?_
      refine exI ?_
      refine z12 z0r (g := 0) (by kernel_rfl) [(4, false), (6, false), (7, false)] (by kernel_rfl) fun _ hK21 => ?_; refine zjx ?_
      iterate 2 refine z6b ?_
      refine d_nil ?_; apply hK21; refine z0s (by kernel_rfl) ?_; refine dnS [0, 1] id () trivial [] uVs_0 uVs_0 uVs_0 uVs_0
     ·refine z03 z0r ?_; refine DVs_0 ?_; refine exI ?_; refine z12 z0r (g := 0) (by kernel_rfl) [(3, false), (6, false), (7, false)] (by kernel_rfl) fun _ hK22 => ?_; refine zao ?_; refine ⟨a1, l1, m1, rfl, hl1, ?_⟩; rw [hd1]; refine DVs_0 ?_
      refine exI ?_
      iterate 2 refine z6b ?_
      refine d_nil ?_; apply hK22; refine z0s (by kernel_rfl) ?_; refine dnS [0, 1] id () trivial [] uVs_0 uVs_0 uVs_0 uVs_0
    ·refine z03 z0r ?_; refine DVs_0 ?_; refine exI ?_; refine z12 z0r (g := 0) (by kernel_rfl) [(1, false), (3, false), (6, false), (7, false)] (by kernel_rfl) fun _ hK23 => ?_; refine zao ?_; refine ⟨a0, l0, m0, rfl, hl0, ?_⟩; rw [hd0]; refine DVs_0 ?_
     refine exI ?_
     refine zao ?_; refine ⟨a1, l1, m1, rfl, hl1, ?_⟩; rw [hd1]; refine DVs_0 ?_
     refine exI ?_
     iterate 2 refine z6b ?_
     refine d_nil ?_; apply hK23; refine z0s (by kernel_rfl) ?_; refine dnS [0, 1] id () trivial [] uVs_0 uVs_0 uVs_0 uVs_0
  ·intro u hu
   clear hu
   have hx1 : x.length ≤ 1000 := by omega
   refine seq_k fun _ hK24 => ?_; refine z00 z0r fun _ hK25 => ?_
   iterate 2 refine z1a ?_
   refine z29 ?_; refine ⟨d0, d1, rfl, ⟨w0, w1⟩, ?_⟩; rw [rA]; refine DVs_0 ?_
   refine exI ?_
   iterate 4 refine z1a ?_
   refine zlt ?_; refine z1a ?_; refine s_nil ?_; apply hK25; apply hK24; refine seq_k fun _ hK26 => ?_; refine z00 z0r fun _ hK27 => ?_
   iterate 2 refine z1a ?_
   refine z29 ?_; refine ⟨d0, d1, rfl, ⟨w0, w1⟩, ?_⟩; rw [rO]; refine DVs_0 ?_
   refine exI ?_
   iterate 4 refine z1a ?_
   refine zlt ?_; refine z1a ?_; refine s_nil ?_; apply hK27; apply hK26; refine seq_k fun _ hK28 => ?_; refine z00 z0r fun _ hK29 => ?_
   iterate 2 refine z1a ?_
   refine z29 ?_; refine ⟨d0, d1, rfl, ⟨w0, w1⟩, ?_⟩; rw [rM]; refine DVs_0 ?_
   refine exI ?_
   iterate 4 refine z1a ?_
   refine zlt ?_; refine z1a ?_; refine s_nil ?_; apply hK29; apply hK28; refine seq_k fun _ hK30 => ?_; refine z00 z0r fun _ hK31 => ?_; refine z1a ?_; refine z29 ?_; refine ⟨d0, rfl, w0, ?_⟩; rw [rN]; refine DVs_0 ?_
   refine exI ?_
   iterate 4 refine z1a ?_
   refine zlt ?_; refine z1a ?_; refine s_nil ?_; apply hK31; apply hK30; refine seq_k fun _ hK32 => ?_; refine seq_k fun _ hK33 => ?_; refine z00 z0r fun _ hK34 => ?_
   iterate 2 refine z1a ?_
   refine z29 ?_; refine exB (fun hb2 => ?_) (fun hb2 => ?_)
   ·exfalso; first | exact absurd hb2 (by decide) | exact hb2 rfl | (simp at hb2; done) | omega
   iterate 2 refine z11 ?_
   refine z1a ?_; refine z29 ?_; refine exB (fun hb6 => ?_) (fun hb6 => ?_)
   ·exfalso; first | exact absurd hb6 (by decide) | exact hb6 rfl | (simp at hb6; done) | omega
   iterate 2 refine z11 ?_
   refine z1a ?_; refine z29 ?_; refine exB (fun hb10 => ?_) (fun hb10 => ?_)
   ·exfalso; first | exact absurd hb10 (by decide) | exact hb10 rfl | (simp at hb10; done) | omega
   iterate 2 refine z11 ?_
   refine z1a ?_; refine s_nil ?_; apply hK34; apply hK33; refine z08 (b := _) rfl (fun h_t68 => ?_) (fun _ => ?_)
   ·exfalso; first | exact absurd h_t68 (by decide) | (simp at h_t68; done) | cases h_t68
   refine z0c ?_; apply hK32; refine seq_k fun _ hK35 => ?_; refine z00 z0r fun _ hK36 => ?_
   iterate 2 refine z1a ?_
   refine z29 ?_; refine ⟨x, 8, rfl, ⟨hx, by omega⟩, ?_⟩; refine DVs_0 ?_
   refine exI ?_
   iterate 2 refine z1a ?_
   refine s_nil ?_; apply hK36; apply hK35; refine seq_k fun _ hK37 => ?_; refine seq_k fun _ hK38 => ?_; refine z00 z0r fun _ hK39 => ?_; refine z1a ?_; refine s_nil ?_; apply hK39; apply hK38; refine z09 ?_; refine z10 (α := Nat) (fun i => [(7, .c (.bool true)), (8, .c (.dp (dfaC d0) 0)), (9, .c (.dp (dfaC d1) 0)), (10, .c (.dp (dfaC cA) 0)), (12, .c (.dp (dfaC cO) 0)), (14, .c (.dp (dfaC cM) 0)), (16, .c (.dp (dfaC cN') 0)), (18, .c (.ds 2 (.cells [.ds x.length (.u8s x), .ds (fewL x 8).length (.u8s (fewL x 8))]))), (19, .c (.int .i64 (i : Nat)))]) (fun i => []) 0 (fun i => i ≤ 2) (fun i => 2 - i) ?_ ?_
   ·refine dnS [0, 1, 2, 3, 4] id 0 (Nat.zero_le _) [] uVs_0 uVs_0 uVs_0 uVs_0
   ·intro i hi
    refine seq_k fun _ hK40 => ?_; refine seq_k fun _ hK41 => ?_; refine z00 z0r fun _ hK42 => ?_
    iterate 2 refine z1a ?_
    refine s_nil ?_; apply hK42; apply hK41; refine z08 (b := _) rfl (fun h_t74 => ?_) (fun h_t74 => ?_)
    ·try simp only [dQ, if_true, if_false, reduceIte] at h_t74
     refine z0c ?_; apply hK40; refine seq_k fun _ hK43 => ?_; refine z09 ?_; refine seq_k fun _ hK44 => ?_
     have hi2 : i = 0 ∨ i = 1 := by omega
     have hpl : (prW x (fewL x 8) i).length ≤ 1000 := zqn hx1 (by rw [z35]; omega)
     refine z00 z0r fun _ hK45 => ?_
     iterate 3 refine z1a ?_
     refine z29 ?_; refine exA (.c (.ds (prW x (fewL x 8) i).length (.u8s (prW x (fewL x 8) i)))) (as_eq (congrArg SV.c (y0m hi2 (by omega)))) ?_; refine z1a ?_; refine s_nil ?_; apply hK45; apply hK44; refine seq_k fun _ hK46 => ?_; refine z2m z0r (by kernel_rfl) fun _ hK47 => ?_
     iterate 2 refine y0u ?_
     refine ztj ?_; refine ⟨d0, (prW x (fewL x 8) i), rfl, ⟨w0, by omega⟩, ?_⟩; refine DVs_0 ?_
     refine exI ?_
     iterate 2 refine y0u ?_
     refine ztj ?_; refine ⟨d1, (prW x (fewL x 8) i), rfl, ⟨w1, by omega⟩, ?_⟩; refine DVs_0 ?_
     refine exI ?_
     iterate 2 refine y0u ?_
     refine q_nil ?_; apply hK47; apply hK46; refine z9z (α := Unit) (fun _ => [(7, .c (.bool true)), (8, .c (.dp (dfaC d0) 0)), (9, .c (.dp (dfaC d1) 0)), (10, .c (.dp (dfaC cA) 0)), (12, .c (.dp (dfaC cO) 0)), (14, .c (.dp (dfaC cM) 0)), (16, .c (.dp (dfaC cN') 0)), (18, .c (.ds 2 (.cells [.ds x.length (.u8s x), .ds (fewL x 8).length (.u8s (fewL x 8))]))), (19, .c (.int .i64 (i : Nat))), (122, .c (.bool false))]) (fun _ => []) 0 (fun _ => True) ?_ ?_
     ·have hi2 : i = 0 ∨ i = 1 := by omega
      have hpl : (prW x (fewL x 8) i).length ≤ 1000 := zqn hx1 (by rw [z35]; omega)
      refine z00 z0r fun _ hK48 => ?_
      iterate 2 refine z1a ?_
      refine z29 ?_; refine ⟨cA, (prW x (fewL x 8) i), rfl, ⟨vA, by omega⟩, ?_⟩; refine DVs_0 ?_
      refine exI ?_
      refine z1a ?_; refine z29 ?_; refine exB (fun hb4 => ?_) (fun hb4 => ?_)
      ·try simp only [dQ, if_true, if_false, reduceIte] at hb4
       refine z11 ?_; refine z1a ?_; refine z29 ?_; refine exA (.c (.bool (false))) (as_eq (congrArg (fun v => SV.c (Cell.bool v)) (by simp [fA, hb4]))) ?_; refine z29 ?_; refine exB (fun hb8 => ?_) (fun hb8 => ?_)
       ·exfalso; first | exact absurd hb8 (by decide) | exact hb8 rfl | (simp at hb8; done) | omega
       iterate 2 refine z11 ?_
       refine z0o ?_; refine ⟨cO, (prW x (fewL x 8) i), rfl, ⟨vO, by omega⟩, ?_⟩; refine DVs_0 ?_
       refine exI ?_
       refine z11 ?_; refine z0o ?_; refine exB (fun hb13 => ?_) (fun hb13 => ?_)
       ·try simp only [dQ, if_true, if_false, reduceIte] at hb13
        refine sN ?_; refine z11 ?_; refine z0o ?_; refine exA (.c (.bool (false))) (as_eq (congrArg (fun v => SV.c (Cell.bool v)) (by simp [fO, hb13]))) ?_; refine z1a ?_; refine z29 ?_; refine exB (fun hb18 => ?_) (fun hb18 => ?_)
        ·exfalso; first | exact absurd hb18 (by decide) | exact hb18 rfl | (simp at hb18; done) | omega
        iterate 2 refine z11 ?_
        refine z0o ?_; refine ⟨cM, (prW x (fewL x 8) i), rfl, ⟨vM, by omega⟩, ?_⟩; refine DVs_0 ?_
        refine exI ?_
        refine z11 ?_; refine z0o ?_; refine exB (fun hb23 => ?_) (fun hb23 => ?_)
        ·try simp only [dQ, if_true, if_false, reduceIte] at hb23
         iterate 3 refine z11 ?_
         refine z0o ?_; refine exA (.c (.bool (false))) (as_eq (congrArg (fun v => SV.c (Cell.bool v)) (by simp [fM, hb23]))) ?_; refine z1a ?_; refine z29 ?_; refine exB (fun hb29 => ?_) (fun hb29 => ?_)
         ·exfalso; first | exact absurd hb29 (by decide) | exact hb29 rfl | (simp at hb29; done) | omega
         iterate 2 refine z11 ?_
         refine z0o ?_; refine ⟨cN', (prW x (fewL x 8) i), rfl, ⟨vN, by omega⟩, ?_⟩; refine DVs_0 ?_
         refine exI ?_
         refine z11 ?_; refine z0o ?_; refine exA (.c (.bool (false))) (as_eq (congrArg (fun v => SV.c (Cell.bool v)) (by simp [fN]))) ?_; refine z1a ?_; refine s_nil ?_; apply hK48; refine dnS [] id () trivial [] uVs_0 uVs_0 uVs_0 uVs_0
        ·try simp only [dQ, if_true, if_false, reduceIte] at hb23
         iterate 2 refine sN ?_
         refine z11 ?_; refine z0o ?_; refine exA (.c (.bool (false))) (as_eq (congrArg (fun v => SV.c (Cell.bool v)) (by simp [fM, hb23]))) ?_; refine z1a ?_; refine z29 ?_; refine exB (fun hb29 => ?_) (fun hb29 => ?_)
         ·exfalso; first | exact absurd hb29 (by decide) | exact hb29 rfl | (simp at hb29; done) | omega
         iterate 2 refine z11 ?_
         refine z0o ?_; refine ⟨cN', (prW x (fewL x 8) i), rfl, ⟨vN, by omega⟩, ?_⟩; refine DVs_0 ?_
         refine exI ?_
         refine z11 ?_; refine z0o ?_; refine exA (.c (.bool (false))) (as_eq (congrArg (fun v => SV.c (Cell.bool v)) (by simp [fN]))) ?_; refine z1a ?_; refine s_nil ?_; apply hK48; refine dnS [] id () trivial [] uVs_0 uVs_0 uVs_0 uVs_0
       ·try simp only [dQ, if_true, if_false, reduceIte] at hb13
        iterate 2 refine z11 ?_
        refine z0o ?_; refine exA (.c (.bool (false))) (as_eq (congrArg (fun v => SV.c (Cell.bool v)) (by simp [fO, hb13]))) ?_; refine z1a ?_; refine z29 ?_; refine exB (fun hb18 => ?_) (fun hb18 => ?_)
        ·exfalso; first | exact absurd hb18 (by decide) | exact hb18 rfl | (simp at hb18; done) | omega
        iterate 2 refine z11 ?_
        refine z0o ?_; refine ⟨cM, (prW x (fewL x 8) i), rfl, ⟨vM, by omega⟩, ?_⟩; refine DVs_0 ?_
        refine exI ?_
        refine z11 ?_; refine z0o ?_; refine exB (fun hb23 => ?_) (fun hb23 => ?_)
        ·try simp only [dQ, if_true, if_false, reduceIte] at hb23
         iterate 3 refine z11 ?_
         refine z0o ?_; refine exA (.c (.bool (false))) (as_eq (congrArg (fun v => SV.c (Cell.bool v)) (by simp [fM, hb23]))) ?_; refine z1a ?_; refine z29 ?_; refine exB (fun hb29 => ?_) (fun hb29 => ?_)
         ·exfalso; first | exact absurd hb29 (by decide) | exact hb29 rfl | (simp at hb29; done) | omega
         iterate 2 refine z11 ?_
         refine z0o ?_; refine ⟨cN', (prW x (fewL x 8) i), rfl, ⟨vN, by omega⟩, ?_⟩; refine DVs_0 ?_
         refine exI ?_
         refine z11 ?_; refine z0o ?_; refine exA (.c (.bool (false))) (as_eq (congrArg (fun v => SV.c (Cell.bool v)) (by simp [fN]))) ?_; refine z1a ?_; refine s_nil ?_; apply hK48; refine dnS [] id () trivial [] uVs_0 uVs_0 uVs_0 uVs_0
        ·try simp only [dQ, if_true, if_false, reduceIte] at hb23
         iterate 2 refine sN ?_
         refine z11 ?_; refine z0o ?_; refine exA (.c (.bool (false))) (as_eq (congrArg (fun v => SV.c (Cell.bool v)) (by simp [fM, hb23]))) ?_; refine z1a ?_; refine z29 ?_; refine exB (fun hb29 => ?_) (fun hb29 => ?_)
         ·exfalso; first | exact absurd hb29 (by decide) | exact hb29 rfl | (simp at hb29; done) | omega
         iterate 2 refine z11 ?_
         refine z0o ?_; refine ⟨cN', (prW x (fewL x 8) i), rfl, ⟨vN, by omega⟩, ?_⟩; refine DVs_0 ?_
         refine exI ?_
         refine z11 ?_; refine z0o ?_; refine exA (.c (.bool (false))) (as_eq (congrArg (fun v => SV.c (Cell.bool v)) (by simp [fN]))) ?_; refine z1a ?_; refine s_nil ?_; apply hK48; refine dnS [] id () trivial [] uVs_0 uVs_0 uVs_0 uVs_0
      ·try simp only [dQ, if_true, if_false, reduceIte] at hb4
       refine sN ?_; refine z1a ?_; refine z29 ?_; refine exA (.c (.bool (false))) (as_eq (congrArg (fun v => SV.c (Cell.bool v)) (by simp [fA, hb4]))) ?_; refine z29 ?_; refine exB (fun hb8 => ?_) (fun hb8 => ?_)
       ·exfalso; first | exact absurd hb8 (by decide) | exact hb8 rfl | (simp at hb8; done) | omega
       iterate 2 refine z11 ?_
       refine z0o ?_; refine ⟨cO, (prW x (fewL x 8) i), rfl, ⟨vO, by omega⟩, ?_⟩; refine DVs_0 ?_
       refine exI ?_
       refine z11 ?_; refine z0o ?_; refine exB (fun hb13 => ?_) (fun hb13 => ?_)
       ·try simp only [dQ, if_true, if_false, reduceIte] at hb13
        refine sN ?_; refine z11 ?_; refine z0o ?_; refine exA (.c (.bool (false))) (as_eq (congrArg (fun v => SV.c (Cell.bool v)) (by simp [fO, hb13]))) ?_; refine z1a ?_; refine z29 ?_; refine exB (fun hb18 => ?_) (fun hb18 => ?_)
        ·exfalso; first | exact absurd hb18 (by decide) | exact hb18 rfl | (simp at hb18; done) | omega
        iterate 2 refine z11 ?_
        refine z0o ?_; refine ⟨cM, (prW x (fewL x 8) i), rfl, ⟨vM, by omega⟩, ?_⟩; refine DVs_0 ?_
        refine exI ?_
        refine z11 ?_; refine z0o ?_; refine exB (fun hb23 => ?_) (fun hb23 => ?_)
        ·try simp only [dQ, if_true, if_false, reduceIte] at hb23
         iterate 3 refine z11 ?_
         refine z0o ?_; refine exA (.c (.bool (false))) (as_eq (congrArg (fun v => SV.c (Cell.bool v)) (by simp [fM, hb23]))) ?_; refine z1a ?_; refine z29 ?_; refine exB (fun hb29 => ?_) (fun hb29 => ?_)
         ·exfalso; first | exact absurd hb29 (by decide) | exact hb29 rfl | (simp at hb29; done) | omega
         iterate 2 refine z11 ?_
         refine z0o ?_; refine ⟨cN', (prW x (fewL x 8) i), rfl, ⟨vN, by omega⟩, ?_⟩; refine DVs_0 ?_
         refine exI ?_
         refine z11 ?_; refine z0o ?_; refine exA (.c (.bool (false))) (as_eq (congrArg (fun v => SV.c (Cell.bool v)) (by simp [fN]))) ?_; refine z1a ?_; refine s_nil ?_; apply hK48; refine dnS [] id () trivial [] uVs_0 uVs_0 uVs_0 uVs_0
        ·try simp only [dQ, if_true, if_false, reduceIte] at hb23
         iterate 2 refine sN ?_
         refine z11 ?_; refine z0o ?_; refine exA (.c (.bool (false))) (as_eq (congrArg (fun v => SV.c (Cell.bool v)) (by simp [fM, hb23]))) ?_; refine z1a ?_; refine z29 ?_; refine exB (fun hb29 => ?_) (fun hb29 => ?_)
         ·exfalso; first | exact absurd hb29 (by decide) | exact hb29 rfl | (simp at hb29; done) | omega
         iterate 2 refine z11 ?_
         refine z0o ?_; refine ⟨cN', (prW x (fewL x 8) i), rfl, ⟨vN, by omega⟩, ?_⟩; refine DVs_0 ?_
         refine exI ?_
         refine z11 ?_; refine z0o ?_; refine exA (.c (.bool (false))) (as_eq (congrArg (fun v => SV.c (Cell.bool v)) (by simp [fN]))) ?_; refine z1a ?_; refine s_nil ?_; apply hK48; refine dnS [] id () trivial [] uVs_0 uVs_0 uVs_0 uVs_0
       ·try simp only [dQ, if_true, if_false, reduceIte] at hb13
        iterate 2 refine z11 ?_
        refine z0o ?_; refine exA (.c (.bool (false))) (as_eq (congrArg (fun v => SV.c (Cell.bool v)) (by simp [fO, hb13]))) ?_; refine z1a ?_; refine z29 ?_; refine exB (fun hb18 => ?_) (fun hb18 => ?_)
        ·exfalso; first | exact absurd hb18 (by decide) | exact hb18 rfl | (simp at hb18; done) | omega
        iterate 2 refine z11 ?_
        refine z0o ?_; refine ⟨cM, (prW x (fewL x 8) i), rfl, ⟨vM, by omega⟩, ?_⟩; refine DVs_0 ?_
        refine exI ?_
        refine z11 ?_; refine z0o ?_; refine exB (fun hb23 => ?_) (fun hb23 => ?_)
        ·try simp only [dQ, if_true, if_false, reduceIte] at hb23
         iterate 3 refine z11 ?_
         refine z0o ?_; refine exA (.c (.bool (false))) (as_eq (congrArg (fun v => SV.c (Cell.bool v)) (by simp [fM, hb23]))) ?_; refine z1a ?_; refine z29 ?_; refine exB (fun hb29 => ?_) (fun hb29 => ?_)
         ·exfalso; first | exact absurd hb29 (by decide) | exact hb29 rfl | (simp at hb29; done) | omega
         iterate 2 refine z11 ?_
         refine z0o ?_; refine ⟨cN', (prW x (fewL x 8) i), rfl, ⟨vN, by omega⟩, ?_⟩; refine DVs_0 ?_
         refine exI ?_
         refine z11 ?_; refine z0o ?_; refine exA (.c (.bool (false))) (as_eq (congrArg (fun v => SV.c (Cell.bool v)) (by simp [fN]))) ?_; refine z1a ?_; refine s_nil ?_; apply hK48; refine dnS [] id () trivial [] uVs_0 uVs_0 uVs_0 uVs_0
        ·try simp only [dQ, if_true, if_false, reduceIte] at hb23
         iterate 2 refine sN ?_
         refine z11 ?_; refine z0o ?_; refine exA (.c (.bool (false))) (as_eq (congrArg (fun v => SV.c (Cell.bool v)) (by simp [fM, hb23]))) ?_; refine z1a ?_; refine z29 ?_; refine exB (fun hb29 => ?_) (fun hb29 => ?_)
         ·exfalso; first | exact absurd hb29 (by decide) | exact hb29 rfl | (simp at hb29; done) | omega
         iterate 2 refine z11 ?_
         refine z0o ?_; refine ⟨cN', (prW x (fewL x 8) i), rfl, ⟨vN, by omega⟩, ?_⟩; refine DVs_0 ?_
         refine exI ?_
         refine z11 ?_; refine z0o ?_; refine exA (.c (.bool (false))) (as_eq (congrArg (fun v => SV.c (Cell.bool v)) (by simp [fN]))) ?_; refine z1a ?_; refine s_nil ?_; apply hK48; refine dnS [] id () trivial [] uVs_0 uVs_0 uVs_0 uVs_0
     ·intro u hu
      clear hu; refine z08 (b := _) rfl (fun h_t122 => ?_) (fun _ => ?_)
      ·exfalso; first | exact absurd h_t122 (by decide) | (simp at h_t122; done) | cases h_t122
      refine z0c ?_; refine z0b ?_; apply hK43; refine z00 z0r fun _ hK49 => ?_
      iterate 3 refine z1a ?_
      refine s_nil ?_; apply hK49; refine dnS [] id (i + 1) ⟨by omega, by omega⟩ [] uVs_0 uVs_0 uVs_0 uVs_0
    ·try simp only [dQ, if_true, if_false, reduceIte] at h_t74
     refine z0v ?_; refine z07 ?_; refine z07 ?_; refine z0m ?_; apply hK37; refine seq_k fun _ hK50 => ?_; refine z00 z0r fun _ hK51 => ?_
     iterate 2 refine z1a ?_
     refine s_nil ?_; apply hK51; apply hK50; refine z0e (z0a z0r (fun _ _ h => h) (by first | rfl | assumption) [.tmp 6] rfl ?_); refine rtD ?_
     rfl


end Go.Proofs.YtppmnaoollkboaaDoor
