/- The law of concatenation. -/
import Derived.Test.YtppmnaoollkboaaDoorPo
import Derived.Test.YtppmnaoollkboaaDoorPp
namespace Go.Proofs.YtppmnaoollkboaaDoor
set_option linter.all false
open Go.Ab Go.RowKit

theorem qVo0 {a : Prop} (h : a := by first | exact vcA | (simp <;> omega) | exact ⟨by omega, by omega⟩ | (simp only [z35]; omega) | exact vcB) : a := h
theorem qVo1 {a : Prop} (h : a := by rw [gd_star g0 _ _ (Nat.le_refl _), List.take_length, accG (hsG (by omega)).1, (hsG (by omega)).2 _ (zb9 _)]) : a := h
theorem uVo_0 {a : Prop} (h : a := by
    repeat' (first | exact pT  | exact trivial | refine aI ?_ ?_ | exact cC0 | refine low_cons' ?_ ?_ | exact cC1 | fail)
    all_goals first | omega | exact z1e _ | exact z19 _ | (simp; done) | (show Cont.u8s _ = _; simp; done)| (show (0 : Nat) < (z02 _ _ _ _).length; rw [z01 hcl]; decide) | (simp [-List.reduceReplicate]; done) | (simp [-List.reduceReplicate] <;> omega) | skip) : a := h
theorem uVo_1 {a : Prop} (h : a := by
    repeat' (first | exact pT  | exact trivial | refine aI ?_ ?_ | exact cC0 | refine low_cons' ?_ ?_ | exact cC1 | fail)
    all_goals first | omega | (show (_ : Bool) = _; exact (zo4 _ _ _).symm) | (show (_ : Bool) = _; exact zo4 _ _ _) | (simp; done)| (show (0 : Nat) < (z02 _ _ _ _).length; rw [z01 hcl]; decide) | (simp [-List.reduceReplicate]; done) | (simp [-List.reduceReplicate] <;> omega) | skip) : a := h
theorem uVo_2 {a : Prop} (h : a := by
    repeat' (first | exact pT  | exact trivial | refine aI ?_ ?_ | exact cC0 | refine low_cons' ?_ ?_ | exact cC1 | fail)
    all_goals first | omega | exact z1e _ | (show (_ : Bool) = _; first | (simp [zo1, hb1]; done) | (simp [zo1, hb1, hb7]; done)) | (simp; done)| (show (0 : Nat) < (z02 _ _ _ _).length; rw [z01 hcl]; decide) | (simp [-List.reduceReplicate]; done) | (simp [-List.reduceReplicate] <;> omega) | skip) : a := h
theorem DVo_0 {a b : Prop} (kZ : b) (h : HidB b → a := by intro kZ; (repeat first | refine aI qVo0 ?_ | refine z05 qVo0 ?_ | refine z04 qVo0 ?_ | refine z0i qVo0 ?_ | refine z0d ?_); exact kZ.out) : a := h ⟨kZ⟩
theorem z3f {a b : Prop} (kZ : b) (h : HidB b → a := by intro kZ; refine sX ?_; refine DVo_0 ?_; refine exI ?_; exact kZ.out) : a := h ⟨kZ⟩
theorem dXVo_2 {a b : Prop} (kZ : b) (h : HidB b → a := by intro kZ; refine dX ?_; refine DVo_0 ?_; refine exI ?_; exact kZ.out) : a := h ⟨kZ⟩
theorem zjv {a b : Prop} (kZ : b) (h : HidB b → a := by intro kZ; refine gX ?_; refine DVo_0 ?_; refine exI ?_; exact kZ.out) : a := h ⟨kZ⟩
theorem z69 {a b : Prop} (kZ : b) (h : HidB b → a := by intro kZ; refine gX0 ?_; refine DVo_0 ?_; refine exI ?_; exact kZ.out) : a := h ⟨kZ⟩
theorem y0o {a b : Prop} (kZ : b) (h : HidB b → a := by intro kZ; refine sX0 ?_; refine DVo_0 ?_; refine exI ?_; exact kZ.out) : a := h ⟨kZ⟩
theorem z78 {a b : Prop} (kZ : b) (h : HidB b → a := by intro kZ; refine sXT ?_; refine DVo_0 ?_; refine exI ?_; exact kZ.out) : a := h ⟨kZ⟩
theorem z7s {a b : Prop} (kZ : b) (h : HidB b → a := by intro kZ; refine qX ?_; refine DVo_0 ?_; refine exI ?_; exact kZ.out) : a := h ⟨kZ⟩
theorem z5c {a b : Prop} (kZ : b) (h : HidB b → a := by intro kZ; refine qXT ?_; refine DVo_0 ?_; refine exI ?_; exact kZ.out) : a := h ⟨kZ⟩
theorem zam {a b : Prop} (kZ : b) (h : HidB b → a := by intro kZ; refine gX ?_; refine DVo_0 ?_; exact kZ.out) : a := h ⟨kZ⟩
theorem z9j {a b : Prop} (kZ : b) (h : HidB b → a := by intro kZ; refine sX ?_; refine DVo_0 ?_; exact kZ.out) : a := h ⟨kZ⟩
theorem z8l {a b : Prop} (kZ : b) (h : HidB b → a := by intro kZ; refine sXT ?_; refine DVo_0 ?_; exact kZ.out) : a := h ⟨kZ⟩
theorem z9k {a b : Prop} (kZ : b) (h : HidB b → a := by intro kZ; refine qX ?_; refine DVo_0 ?_; exact kZ.out) : a := h ⟨kZ⟩
theorem z79 {a b : Prop} (kZ : b) (h : HidB b → a := by intro kZ; refine qXT ?_; refine DVo_0 ?_; exact kZ.out) : a := h ⟨kZ⟩

open Go.Aut
theorem zo4 (a b : Dfa) (x : List UInt8) : splK a b x 0 = false := rfl
attribute [local irreducible] z0p z1v zl z02 z1f putB madeD splK gd
theorem catC {d e : Dfa} (hd : d.good) (he : e.good) : ∃ (c : Dfa) (n : Nat), z42 d e = (c, n) ∧ c.wf ∧ (n = 0 ∨ n = 2) ∧ (n = 0 → c.good ∧ ∀ w, Bytes w → langD c w = catB (langD d) (langD e) w) := by
  rcases y0e hd he with h | ⟨h, hg⟩
  · exact ⟨_, _, h, noD_wf, .inr rfl, fun e => by cases e⟩
  · exact ⟨_, _, h, z2n hg, .inl rfl, fun _ => ⟨hg, (zba hg).2⟩⟩
theorem staC {d : Dfa} (hd : d.good) : ∃ (c : Dfa) (n : Nat), starR d = (c, n) ∧ c.wf ∧ (n = 0 ∨ n = 2) ∧ (n = 0 → c.good ∧ ∀ w, Bytes w → langD c w = starB (langD d) w) := by
  rcases y0f hd with h | ⟨h, hg⟩
  · exact ⟨_, _, h, noD_wf, .inr rfl, fun e => by cases e⟩
  · exact ⟨_, _, h, z2n hg, .inl rfl, fun _ => ⟨hg, (zba hg).2⟩⟩
noncomputable def gx3 : Ctx := { P := Tryd.prog, ty := ty, glob := gl, fs := [(20, .flat zej), (21, .data madeS), (22, .data fewS), (23, .data zfz), (24, .data zzn), (25, .flat z7h), (26, .flat zta)] }
theorem z14 : gx3.OK := ⟨tyOK, ⟨⟨z06 Tryd.func20 (by kernel_rfl) rfl, zal⟩, ⟨z06 Tryd.func21 (by kernel_rfl) rfl, zll⟩, ⟨z06 Tryd.func22 (by kernel_rfl) rfl, zzu⟩, ⟨z06 Tryd.func23 (by kernel_rfl) rfl, zeb⟩, ⟨z06 Tryd.func24 (by kernel_rfl) rfl, zt1⟩, ⟨z06 Tryd.func25 (by kernel_rfl) rfl, z5o⟩, ⟨z06 Tryd.func26 (by kernel_rfl) rfl, zv1⟩, trivial⟩, mixed⟩
@[simp] theorem gx3_ty : gx3.ty = ty := rfl

def zv5 : QSpec := fun vs K => ∃ (a0 : UInt8) (l0 : List UInt8) (m0 : UInt8) (a1 : UInt8) (l1 : List UInt8) (m1 : UInt8) (x : List UInt8), vs = [shpV a0 l0 m0, shpV a1 l1 m1, .c (.ds x.length (.u8s x))] ∧ (l0.length ≤ 9223372036854775807 ∧ l1.length ≤ 9223372036854775807 ∧ x.length ≤ 9223372036854775807) ∧ K (.c (.bool true))
set_option maxHeartbeats 1000000 in
set_option maxRecDepth 4000 in
theorem zo5 : z1b Tryd.prog gl 3 zv5 := by
 refine z1h (Γ := gx3) (N := 93) Tryd.func3 rfl rfl fun vs K h => ?_; obtain ⟨a0, l0, m0, a1, l1, m1, x, rfl, ⟨hl0, hl1, hx⟩, h⟩ := h; refine ⟨_, h, rfl, by simp, fun w I => ?_⟩; obtain ⟨d0, hd0⟩ : ∃ d, madeD a0 l0 m0 = d := ⟨_, rfl⟩
 have g0 : d0.good := hd0 ▸ z77 a0 l0 m0
 have w0 := z2n g0
 have n0 : d0.next.length ≤ 5 := by rw [← hd0, z7r]; exact (z7q a0).2
 obtain ⟨d1, hd1⟩ : ∃ d, madeD a1 l1 m1 = d := ⟨_, rfl⟩
 have g1 : d1.good := hd1 ▸ z77 a1 l1 m1
 have w1 := z2n g1
 have n1 : d1.next.length ≤ 5 := by rw [← hd1, z7r]; exact (z7q a1).2
 obtain ⟨c, p, hcR, wc, hp, hcG⟩ := catC g0 g1; obtain ⟨s, q, hsR, ws, hq, hsG⟩ := staC g0
 have hv8 : (fewL x 8).length ≤ 8 := by rw [z35]; omega
 refine seq_k fun _ hK1 => ?_; refine z00 z14 fun _ hK2 => ?_
 iterate 3 refine z3f ?_
 refine s_nil ?_; apply hK2; apply hK1; refine seq_k fun _ hK3 => ?_; refine z00 z14 fun _ hK4 => ?_
 iterate 2 refine z3f ?_
 refine s_nil ?_; apply hK4; apply hK3; refine z9z (α := Unit) (fun _ => [(2, .c (.ds x.length (.u8s x))), (7, .c (.bool true)), (8, .c (.dp (dfaC d0) 0)), (9, .c (.dp (dfaC d1) 0))]) (fun _ => []) 0 (fun _ => True) ?_ ?_
 ·skip
  refine leW [0, 1] id [(2, .c (.ds x.length (.u8s x))), (3, .c (.dp (.cells [.u8 a0, .ds l0.length (.u8s l0), .u8 m0]) 0)), (4, .c (.dp (.cells [.u8 a1, .ds l1.length (.u8s l1), .u8 m1]) 0)), (7, .c (.bool true))] [] 0 [] ?_ ?_ ?_ ?_ ?_
  ·exact uVo_0
  ·exact uVo_0
  ·exact uVo_0
  ·exact uVo_0
  refine ziw z14 ?_; refine z12 z14 (g := 6) (by kernel_rfl) [(0, true), (2, true)] (by kernel_rfl) fun _ hK6 => ?_
  iterate 2 refine dXVo_2 ?_
  refine d_nil ?_; apply hK6; refine z0w [1, 4, 5] (by kernel_rfl) (by decide) (List.forall_mem_cons.2 ⟨?_, List.forall_mem_cons.2 ⟨?_, List.forall_mem_cons.2 ⟨?_, fun _ h => by cases h⟩⟩⟩)
  ·skip
   refine z03 z14 ?_; refine DVo_0 ?_; refine ⟨a0, l0, m0, rfl, hl0, ?_⟩; rw [hd0]; refine DVo_0 ?_
   first | refine exI ?_ | (intro cap1 hcap1; refine exI ?_)
   refine z0w [3, 4, 5] (by kernel_rfl) (by decide) (List.forall_mem_cons.2 ⟨?_, List.forall_mem_cons.2 ⟨?_, List.forall_mem_cons.2 ⟨?_, fun _ h => by cases h⟩⟩⟩)
   ·skip
    refine z03 z14 ?_; refine DVo_0 ?_; refine ⟨a1, l1, m1, rfl, hl1, ?_⟩; rw [hd1]; refine DVo_0 ?_
    first | refine exI ?_ | (intro cap3 hcap3; refine exI ?_)
    refine z0w [4, 5] (by kernel_rfl) (by decide) (List.forall_mem_cons.2 ⟨?_, List.forall_mem_cons.2 ⟨?_, fun _ h => by cases h⟩⟩)
    ·skip
     refine z03 z14 ?_; refine DVo_0 ?_; refine exI ?_; refine z12 z14 (g := 0) (by kernel_rfl) [(5, false), (6, false), (7, false)] (by kernel_rfl) fun _ hK7 => ?_; refine zjv ?_
     iterate 2 refine z69 ?_
     refine d_nil ?_; apply hK7; refine z0s (by kernel_rfl) ?_; refine dnS [0, 1] id () trivial [] ?_ ?_ ?_ ?_
     ·exact uVo_0
     ·exact uVo_0
     ·exact uVo_0
     ·exact uVo_0
    ·skip
     refine z03 z14 ?_; refine DVo_0 ?_; refine exI ?_; refine z12 z14 (g := 0) (by kernel_rfl) [(4, false), (6, false), (7, false)] (by kernel_rfl) fun _ hK8 => ?_; refine zjv ?_
     iterate 2 refine z69 ?_
     refine d_nil ?_; apply hK8; refine z0s (by kernel_rfl) ?_; refine dnS [0, 1] id () trivial [] ?_ ?_ ?_ ?_
     ·exact uVo_0
     ·exact uVo_0
     ·exact uVo_0
     ·exact uVo_0
   ·skip
    refine z03 z14 ?_; refine DVo_0 ?_; refine exI ?_; refine z0w [3, 5] (by kernel_rfl) (by decide) (List.forall_mem_cons.2 ⟨?_, List.forall_mem_cons.2 ⟨?_, fun _ h => by cases h⟩⟩)
    ·skip
     refine z03 z14 ?_; refine DVo_0 ?_; refine ⟨a1, l1, m1, rfl, hl1, ?_⟩; rw [hd1]; refine DVo_0 ?_
     first | refine exI ?_ | (intro cap3 hcap3; refine exI ?_)
     refine z12 z14 (g := 0) (by kernel_rfl) [(5, false), (6, false), (7, false)] (by kernel_rfl) fun _ hK9 => ?_; refine zjv ?_
     iterate 2 refine z69 ?_
     refine d_nil ?_; apply hK9; refine z0s (by kernel_rfl) ?_; refine dnS [0, 1] id () trivial [] ?_ ?_ ?_ ?_
     ·exact uVo_0
     ·exact uVo_0
     ·exact uVo_0
     ·exact uVo_0
    ·skip
     refine z03 z14 ?_; refine DVo_0 ?_; refine exI ?_; refine z12 z14 (g := 0) (by kernel_rfl) [(3, false), (6, false), (7, false)] (by kernel_rfl) fun _ hK10 => ?_; refine zam ?_; refine ⟨a1, l1, m1, rfl, hl1, ?_⟩; rw [hd1]; refine DVo_0 ?_
     first | refine exI ?_ | (intro cap3 hcap3; refine exI ?_)
     iterate 2 refine z69 ?_
     refine d_nil ?_; apply hK10; refine z0s (by kernel_rfl) ?_; refine dnS [0, 1] id () trivial [] ?_ ?_ ?_ ?_
     ·exact uVo_0
     ·exact uVo_0
     ·exact uVo_0
     ·exact uVo_0
   ·skip
    refine z03 z14 ?_; refine DVo_0 ?_; refine exI ?_; refine z0w [3, 4] (by kernel_rfl) (by decide) (List.forall_mem_cons.2 ⟨?_, List.forall_mem_cons.2 ⟨?_, fun _ h => by cases h⟩⟩)
    ·skip
     refine z03 z14 ?_; refine DVo_0 ?_; refine ⟨a1, l1, m1, rfl, hl1, ?_⟩; rw [hd1]; refine DVo_0 ?_
     first | refine exI ?_ | (intro cap3 hcap3; refine exI ?_)
     refine z12 z14 (g := 0) (by kernel_rfl) [(4, false), (6, false), (7, false)] (by kernel_rfl) fun _ hK11 => ?_; refine zjv ?_
     iterate 2 refine z69 ?_
     refine d_nil ?_; apply hK11; refine z0s (by kernel_rfl) ?_; refine dnS [0, 1] id () trivial [] ?_ ?_ ?_ ?_
     ·exact uVo_0
     ·exact uVo_0
     ·exact uVo_0
     ·exact uVo_0
    ·skip
     refine z03 z14 ?_; refine DVo_0 ?_; refine exI ?_; refine z12 z14 (g := 0) (by kernel_rfl) [(3, false), (6, false), (7, false)] (by kernel_rfl) fun _ hK12 => ?_; refine zam ?_; refine ⟨a1, l1, m1, rfl, hl1, ?_⟩; rw [hd1]; refine DVo_0 ?_
     first | refine exI ?_ | (intro cap3 hcap3; refine exI ?_)
     iterate 2 refine z69 ?_
     refine d_nil ?_; apply hK12; refine z0s (by kernel_rfl) ?_; refine dnS [0, 1] id () trivial [] ?_ ?_ ?_ ?_
     ·exact uVo_0
     ·exact uVo_0
     ·exact uVo_0
     ·exact uVo_0
  ·skip
   refine z03 z14 ?_; refine DVo_0 ?_; refine exI ?_; refine z0w [1, 5] (by kernel_rfl) (by decide) (List.forall_mem_cons.2 ⟨?_, List.forall_mem_cons.2 ⟨?_, fun _ h => by cases h⟩⟩)
   ·skip
    refine z03 z14 ?_; refine DVo_0 ?_; refine ⟨a0, l0, m0, rfl, hl0, ?_⟩; rw [hd0]; refine DVo_0 ?_
    first | refine exI ?_ | (intro cap1 hcap1; refine exI ?_)
    refine z0w [3, 5] (by kernel_rfl) (by decide) (List.forall_mem_cons.2 ⟨?_, List.forall_mem_cons.2 ⟨?_, fun _ h => by cases h⟩⟩)
    ·skip
     refine z03 z14 ?_; refine DVo_0 ?_; refine ⟨a1, l1, m1, rfl, hl1, ?_⟩; rw [hd1]; refine DVo_0 ?_
     first | refine exI ?_ | (intro cap3 hcap3; refine exI ?_)
     refine z12 z14 (g := 0) (by kernel_rfl) [(5, false), (6, false), (7, false)] (by kernel_rfl) fun _ hK13 => ?_; refine zjv ?_
     iterate 2 refine z69 ?_
     refine d_nil ?_; apply hK13; refine z0s (by kernel_rfl) ?_; refine dnS [0, 1] id () trivial [] ?_ ?_ ?_ ?_
     ·exact uVo_0
     ·exact uVo_0
     ·exact uVo_0
     ·exact uVo_0
    ·skip
     refine z03 z14 ?_; refine DVo_0 ?_; refine exI ?_; refine z12 z14 (g := 0) (by kernel_rfl) [(3, false), (6, false), (7, false)] (by kernel_rfl) fun _ hK14 => ?_; refine zam ?_; refine ⟨a1, l1, m1, rfl, hl1, ?_⟩; rw [hd1]; refine DVo_0 ?_
     first | refine exI ?_ | (intro cap3 hcap3; refine exI ?_)
     iterate 2 refine z69 ?_
     refine d_nil ?_; apply hK14; refine z0s (by kernel_rfl) ?_; refine dnS [0, 1] id () trivial [] ?_ ?_ ?_ ?_
     ·exact uVo_0
     ·exact uVo_0
     ·exact uVo_0
     ·exact uVo_0
   ·skip
    refine z03 z14 ?_; refine DVo_0 ?_; refine exI ?_; refine z12 z14 (g := 0) (by kernel_rfl) [(1, false), (3, false), (6, false), (7, false)] (by kernel_rfl) fun _ hK15 => ?_; refine zam ?_; refine ⟨a0, l0, m0, rfl, hl0, ?_⟩; rw [hd0]; refine DVo_0 ?_
    first | refine exI ?_ | (intro cap1 hcap1; refine exI ?_)
    refine zam ?_; refine ⟨a1, l1, m1, rfl, hl1, ?_⟩; rw [hd1]; refine DVo_0 ?_
    first | refine exI ?_ | (intro cap3 hcap3; refine exI ?_)
    iterate 2 refine z69 ?_
    refine d_nil ?_; apply hK15; refine z0s (by kernel_rfl) ?_; refine dnS [0, 1] id () trivial [] ?_ ?_ ?_ ?_
    ·exact uVo_0
    ·exact uVo_0
    ·exact uVo_0
    ·exact uVo_0
  ·skip
   refine z03 z14 ?_; refine DVo_0 ?_; refine exI ?_; refine z0w [1, 4] (by kernel_rfl) (by decide) (List.forall_mem_cons.2 ⟨?_, List.forall_mem_cons.2 ⟨?_, fun _ h => by cases h⟩⟩)
   ·skip
    refine z03 z14 ?_; refine DVo_0 ?_; refine ⟨a0, l0, m0, rfl, hl0, ?_⟩; rw [hd0]; refine DVo_0 ?_
    first | refine exI ?_ | (intro cap1 hcap1; refine exI ?_)
    refine z0w [3, 4] (by kernel_rfl) (by decide) (List.forall_mem_cons.2 ⟨?_, List.forall_mem_cons.2 ⟨?_, fun _ h => by cases h⟩⟩)
    ·skip
     refine z03 z14 ?_; refine DVo_0 ?_; refine ⟨a1, l1, m1, rfl, hl1, ?_⟩; rw [hd1]; refine DVo_0 ?_
     first | refine exI ?_ | (intro cap3 hcap3; refine exI ?_)
     refine z12 z14 (g := 0) (by kernel_rfl) [(4, false), (6, false), (7, false)] (by kernel_rfl) fun _ hK16 => ?_; refine zjv ?_
     iterate 2 refine z69 ?_
     refine d_nil ?_; apply hK16; refine z0s (by kernel_rfl) ?_; refine dnS [0, 1] id () trivial [] ?_ ?_ ?_ ?_
     ·exact uVo_0
     ·exact uVo_0
     ·exact uVo_0
     ·exact uVo_0
    ·skip
     refine z03 z14 ?_; refine DVo_0 ?_; refine exI ?_; refine z12 z14 (g := 0) (by kernel_rfl) [(3, false), (6, false), (7, false)] (by kernel_rfl) fun _ hK17 => ?_; refine zam ?_; refine ⟨a1, l1, m1, rfl, hl1, ?_⟩; rw [hd1]; refine DVo_0 ?_
     first | refine exI ?_ | (intro cap3 hcap3; refine exI ?_)
     iterate 2 refine z69 ?_
     refine d_nil ?_; apply hK17; refine z0s (by kernel_rfl) ?_; refine dnS [0, 1] id () trivial [] ?_ ?_ ?_ ?_
     ·exact uVo_0
     ·exact uVo_0
     ·exact uVo_0
     ·exact uVo_0
   ·skip
    refine z03 z14 ?_; refine DVo_0 ?_; refine exI ?_; refine z12 z14 (g := 0) (by kernel_rfl) [(1, false), (3, false), (6, false), (7, false)] (by kernel_rfl) fun _ hK18 => ?_; refine zam ?_; refine ⟨a0, l0, m0, rfl, hl0, ?_⟩; rw [hd0]; refine DVo_0 ?_
    first | refine exI ?_ | (intro cap1 hcap1; refine exI ?_)
    refine zam ?_; refine ⟨a1, l1, m1, rfl, hl1, ?_⟩; rw [hd1]; refine DVo_0 ?_
    first | refine exI ?_ | (intro cap3 hcap3; refine exI ?_)
    iterate 2 refine z69 ?_
    refine d_nil ?_; apply hK18; refine z0s (by kernel_rfl) ?_; refine dnS [0, 1] id () trivial [] ?_ ?_ ?_ ?_
    ·exact uVo_0
    ·exact uVo_0
    ·exact uVo_0
    ·exact uVo_0
 ·intro u hu
  clear hu; refine seq_k fun _ hK19 => ?_; refine z00 z14 fun _ hK20 => ?_; refine z3f ?_; refine z9j ?_; refine ⟨x, 8, rfl, ⟨hx, by omega⟩, ?_⟩; refine DVo_0 ?_
  first | refine exI ?_ | (intro cap1 hcap1; refine exI ?_)
  refine z3f ?_; refine s_nil ?_; apply hK20; apply hK19; refine seq_k fun _ hK21 => ?_; refine z00 z14 fun _ hK22 => ?_
  iterate 2 refine z3f ?_
  refine z9j ?_; refine ⟨d0, d1, rfl, ⟨w0, w1⟩, ?_⟩; rw [hcR]; refine DVo_0 ?_
  first | refine exI ?_ | (intro cap2 hcap2; refine exI ?_)
  iterate 4 refine z3f ?_
  refine y0o ?_; refine z3f ?_; refine s_nil ?_; apply hK22; apply hK21; refine seq_k fun _ hK23 => ?_; refine z00 z14 fun _ hK24 => ?_; refine z3f ?_; refine z9j ?_; refine ⟨d0, rfl, w0, ?_⟩; rw [hsR]; refine DVo_0 ?_
  first | refine exI ?_ | (intro cap1 hcap1; refine exI ?_)
  iterate 4 refine z3f ?_
  refine y0o ?_; refine z3f ?_; refine s_nil ?_; apply hK24; apply hK23; refine seq_k fun _ hK25 => ?_; refine z9z (α := Unit) (fun _ => [(7, .c (.bool true)), (8, .c (.dp (dfaC d0) 0)), (9, .c (.dp (dfaC d1) 0)), (10, .c (.ds (fewL x 8).length (.u8s (fewL x 8)))), (11, .c (.ptr 0 0)), (12, .c (.int .i64 (p : Nat))), (13, .c (.ptr 1 0)), (14, .c (.int .i64 (q : Nat))), (48, .c (.bool false))]) (fun _ => [(0, .own 30 (dfaC c) 3), (1, .own 30 (dfaC s) 3)]) 2 (fun _ => True) ?_ ?_
  ·skip
   refine z00 z14 fun _ hK26 => ?_
   iterate 2 refine z3f ?_
   refine z9j ?_; refine exB (fun hb2 => ?_) (fun hb2 => ?_)
   ·skip
    try simp only [dQ, if_true, if_false, reduceIte] at hb2
    refine z78 ?_; refine z8l ?_; refine exA (.c (.bool (false))) (as_eq (congrArg (fun v => SV.c (Cell.bool v)) (by simp; omega))) ?_; refine z3f ?_; refine z9j ?_; refine exB (fun hb6 => ?_) (fun hb6 => ?_)
    ·exfalso; first | exact absurd hb6 (by decide) | exact hb6 rfl | (simp at hb6; done) | omega
    iterate 2 refine z78 ?_
    refine z8l ?_; refine exB (fun hb9 => ?_) (fun hb9 => ?_)
    ·skip
     try simp only [dQ, if_true, if_false, reduceIte] at hb9
     refine z78 ?_; refine z8l ?_; refine exA (.c (.bool (false))) (as_eq (congrArg (fun v => SV.c (Cell.bool v)) (by simp; omega))) ?_; refine z78 ?_; refine z3f ?_; refine s_nil ?_; apply hK26; refine dnS [] id () trivial [0, 1] ?_ ?_ ?_ ?_
     ·exact uVo_0
     ·exact uVo_0
     ·exact uVo_0
     ·exact uVo_0
    ·skip
     try simp only [dQ, if_true, if_false, reduceIte] at hb9
     iterate 2 refine sN ?_
     refine z78 ?_; refine z3f ?_; refine s_nil ?_; apply hK26; refine dnS [] id () trivial [0, 1] ?_ ?_ ?_ ?_
     ·exact uVo_0
     ·exact uVo_0
     ·exact uVo_0
     ·exact uVo_0
   ·skip
    try simp only [dQ, if_true, if_false, reduceIte] at hb2
    iterate 2 refine sN ?_
    refine z3f ?_; refine z9j ?_; refine exB (fun hb6 => ?_) (fun hb6 => ?_)
    ·exfalso; first | exact absurd hb6 (by decide) | exact hb6 rfl | (simp at hb6; done) | omega
    iterate 2 refine z78 ?_
    refine z8l ?_; refine exB (fun hb9 => ?_) (fun hb9 => ?_)
    ·skip
     try simp only [dQ, if_true, if_false, reduceIte] at hb9
     refine z78 ?_; refine z8l ?_; refine exA (.c (.bool (false))) (as_eq (congrArg (fun v => SV.c (Cell.bool v)) (by simp; omega))) ?_; refine z78 ?_; refine z3f ?_; refine s_nil ?_; apply hK26; refine dnS [] id () trivial [0, 1] ?_ ?_ ?_ ?_
     ·exact uVo_0
     ·exact uVo_0
     ·exact uVo_0
     ·exact uVo_0
    ·skip
     try simp only [dQ, if_true, if_false, reduceIte] at hb9
     iterate 2 refine sN ?_
     refine z78 ?_; refine z3f ?_; refine s_nil ?_; apply hK26; refine dnS [] id () trivial [0, 1] ?_ ?_ ?_ ?_
     ·exact uVo_0
     ·exact uVo_0
     ·exact uVo_0
     ·exact uVo_0
  ·intro u hu
   clear hu; refine z08 (b := _) rfl (fun h_t48 => ?_) (fun _ => ?_)
   ·exfalso; first | exact absurd h_t48 (by decide) | (simp at h_t48; done) | cases h_t48
   refine z0c ?_; apply hK25; refine seq_k fun _ hK27 => ?_; refine z00 z14 fun _ hK28 => ?_; refine z3f ?_; refine s_nil ?_; apply hK28; apply hK27; refine seq_k fun _ hK29 => ?_; refine seq_k fun _ hK30 => ?_; refine z00 z14 fun _ hK31 => ?_; refine z3f ?_; refine s_nil ?_; apply hK31; apply hK30; refine z09 ?_; refine z10 (α := Nat) (fun k => [(7, .c (.bool true)), (8, .c (.dp (dfaC d0) 0)), (9, .c (.dp (dfaC d1) 0)), (10, .c (.ds (fewL x 8).length (.u8s (fewL x 8)))), (11, .c (.ptr 0 0)), (12, .c (.int .i64 (p : Nat))), (13, .c (.ptr 1 0)), (14, .c (.int .i64 (q : Nat))), (15, .c (.bool (splK d0 d1 (fewL x 8) k))), (16, .c (.int .i64 (k : Nat)))]) (fun k => [(0, .own 30 (dfaC c) 3), (1, .own 30 (dfaC s) 3)]) 2 (fun k => k ≤ (fewL x 8).length + 1) (fun k => (fewL x 8).length + 1 - k) ?_ ?_
   ·refine dnS [] id 0 (Nat.zero_le _) [0, 1] ?_ ?_ ?_ ?_
    ·exact uVo_1
    ·exact uVo_1
    ·exact uVo_1
    ·exact uVo_1
   ·intro k hk
    refine seq_k fun _ hK32 => ?_; refine seq_k fun _ hK33 => ?_; refine z00 z14 fun _ hK34 => ?_
    iterate 4 refine z3f ?_
    refine s_nil ?_; apply hK34; apply hK33; refine z08 (b := _) rfl (fun h_t52 => ?_) (fun h_t52 => ?_)
    ·try simp only [dQ, if_true, if_false, reduceIte] at h_t52
     refine z0c ?_; apply hK32; refine seq_k fun _ hK35 => ?_; refine z09 ?_
     have hkv : k ≤ (fewL x 8).length := by omega
     refine z2m z14 (by kernel_rfl) fun _ hK36 => ?_; refine z7s ?_; refine z9k ?_; refine exB (fun hb1 => ?_) (fun hb1 => ?_)
     ·skip
      try simp only [dQ, if_true, if_false, reduceIte] at hb1
      iterate 6 refine qN ?_
      iterate 5 refine qU ?_
      refine qN ?_
      iterate 2 refine z7s ?_
      refine q_nil ?_; apply hK36; refine z0b ?_; apply hK35; refine z00 z14 fun _ hK37 => ?_
      iterate 3 refine z3f ?_
      refine s_nil ?_; apply hK37; refine dnS [] id (k + 1) ⟨by omega, by omega⟩ [0, 1] ?_ ?_ ?_ ?_
      ·exact uVo_2
      ·exact uVo_2
      ·exact uVo_2
      ·exact uVo_2
     ·skip
      try simp only [dQ, if_true, if_false, reduceIte] at hb1
      iterate 4 refine z5c ?_
      refine z79 ?_; refine ⟨d0, (fewL x 8).take k, by first | rfl | (simp; done) | (simp only [z35] at hkv; simp; exact ⟨by omega, rfl⟩), ⟨w0, by simp only [List.length_take]; omega⟩, ?_⟩; refine DVo_0 ?_
      first | refine exI ?_ | (intro cap6 hcap6; refine exI ?_)
      refine z79 ?_; refine exB (fun hb7 => ?_) (fun hb7 => ?_)
      ·skip
       try simp only [dQ, if_true, if_false, reduceIte] at hb7
       iterate 4 refine z5c ?_
       refine z79 ?_; refine ⟨d1, (fewL x 8).drop k, by first | rfl | (simp; done) | (simp; rfl), ⟨w1, by simp only [List.length_drop]; omega⟩, ?_⟩; refine DVo_0 ?_
       first | refine exI ?_ | (intro cap12 hcap12; refine exI ?_)
       refine z5c ?_
       iterate 2 refine z7s ?_
       refine q_nil ?_; apply hK36; refine z0b ?_; apply hK35; refine z00 z14 fun _ hK38 => ?_
       iterate 3 refine z3f ?_
       refine s_nil ?_; apply hK38; refine dnS [] id (k + 1) ⟨by omega, by omega⟩ [0, 1] ?_ ?_ ?_ ?_
       ·exact uVo_2
       ·exact uVo_2
       ·exact uVo_2
       ·exact uVo_2
      ·skip
       try simp only [dQ, if_true, if_false, reduceIte] at hb7
       iterate 5 refine qN ?_
       refine z5c ?_
       iterate 2 refine z7s ?_
       refine q_nil ?_; apply hK36; refine z0b ?_; apply hK35; refine z00 z14 fun _ hK39 => ?_
       iterate 3 refine z3f ?_
       refine s_nil ?_; apply hK39; refine dnS [] id (k + 1) ⟨by omega, by omega⟩ [0, 1] ?_ ?_ ?_ ?_
       ·exact uVo_2
       ·exact uVo_2
       ·exact uVo_2
       ·exact uVo_2
    ·try simp only [dQ, if_true, if_false, reduceIte] at h_t52
     refine z0v ?_; refine z07 ?_; refine z07 ?_; refine z0m ?_; apply hK29; refine seq_k fun _ hK40 => ?_; refine seq_k fun _ hK41 => ?_
     obtain rfl : k = (fewL x 8).length + 1 := by omega
     refine z00 z14 fun _ hK42 => ?_
     iterate 2 refine z3f ?_
     refine z9j ?_; refine exB (fun hb2 => ?_) (fun hb2 => ?_)
     ·skip
      try simp only [dQ, if_true, if_false, reduceIte] at hb2
      iterate 2 refine z78 ?_
      refine z8l ?_; refine ⟨c, fewL x 8, rfl, ⟨wc, by omega⟩, ?_⟩; refine DVo_0 ?_
      first | refine exA (.c (.bool (splK d0 d1 (fewL x 8) ((fewL x 8).length + 1)))) (as_eq (congrArg (fun v => SV.c (Cell.bool v)) (by rw [zth g0 g1, accG (hcG (by omega)).1, (hcG (by omega)).2 _ (zb9 _)]))) ?_ | (intro cap5 hcap5; refine exA (.c (.bool (splK d0 d1 (fewL x 8) ((fewL x 8).length + 1)))) (as_eq (congrArg (fun v => SV.c (Cell.bool v)) (by rw [zth g0 g1, accG (hcG (by omega)).1, (hcG (by omega)).2 _ (zb9 _)]))) ?_)
      iterate 2 refine z78 ?_
      refine z3f ?_; refine s_nil ?_; apply hK42; apply hK41; refine z08 (b := _) rfl (fun h_t78 => ?_) (fun _ => ?_)
      ·exfalso; first | exact absurd h_t78 (by decide) | (simp at h_t78; done) | cases h_t78
      refine z0c ?_; apply hK40; refine seq_k fun _ hK43 => ?_; refine z2m z14 (by kernel_rfl) fun _ hK44 => ?_
      iterate 2 refine z7s ?_
      refine z9k ?_; refine exB (fun hb2 => ?_) (fun hb2 => ?_)
      ·skip
       try simp only [dQ, if_true, if_false, reduceIte] at hb2
       iterate 7 refine qN ?_
       refine z7s ?_; refine z9k ?_; refine exB (fun hb11 => ?_) (fun hb11 => ?_)
       rotate_left 1
       ·exfalso; first | exact absurd hb11 (by decide) | exact hb11 rfl | (simp at hb11; done) | omega
       refine z5c ?_
       iterate 2 refine z7s ?_
       refine q_nil ?_; apply hK44; apply hK43; refine z0e (z0a z14 (fun _ _ h => h) (by first | rfl | assumption) [.tmp 6] rfl ?_); refine rtD ?_
       rfl
      ·skip
       try simp only [dQ, if_true, if_false, reduceIte] at hb2
       iterate 2 refine z5c ?_
       refine z79 ?_; refine ⟨s, fewL x 8, rfl, ⟨ws, by omega⟩, ?_⟩; refine DVo_0 ?_
       first | refine exA (.c (.bool (gd (partF d0 (fewL x 8)) (fewL x 8).length))) (as_eq (congrArg (fun v => SV.c (Cell.bool v)) qVo1)) ?_ | (intro cap5 hcap5; refine exA (.c (.bool (gd (partF d0 (fewL x 8)) (fewL x 8).length))) (as_eq (congrArg (fun v => SV.c (Cell.bool v)) qVo1)) ?_)
       iterate 2 refine z5c ?_
       refine z79 ?_; refine ⟨d0, fewL x 8, rfl, ⟨w0, by omega⟩, ?_⟩; refine DVo_0 ?_
       first | refine exI ?_ | (intro cap8 hcap8; refine exI ?_)
       refine z5c ?_; refine z7s ?_; refine z9k ?_; refine exB (fun hb11 => ?_) (fun hb11 => ?_)
       rotate_left 1
       ·exfalso; first | exact absurd hb11 (by decide) | exact hb11 rfl | (simp at hb11; done) | omega
       refine z5c ?_
       iterate 2 refine z7s ?_
       refine q_nil ?_; apply hK44; apply hK43; refine z0e (z0a z14 (fun _ _ h => h) (by first | rfl | assumption) [.tmp 6] rfl ?_); refine rtD ?_
       rfl
     ·skip
      try simp only [dQ, if_true, if_false, reduceIte] at hb2
      iterate 5 refine sN ?_
      refine z3f ?_; refine s_nil ?_; apply hK42; apply hK41; refine z08 (b := _) rfl (fun h_t78 => ?_) (fun _ => ?_)
      ·exfalso; first | exact absurd h_t78 (by decide) | (simp at h_t78; done) | cases h_t78
      refine z0c ?_; apply hK40; refine seq_k fun _ hK45 => ?_; refine z2m z14 (by kernel_rfl) fun _ hK46 => ?_
      iterate 2 refine z7s ?_
      refine z9k ?_; refine exB (fun hb2 => ?_) (fun hb2 => ?_)
      ·skip
       try simp only [dQ, if_true, if_false, reduceIte] at hb2
       iterate 7 refine qN ?_
       refine z7s ?_; refine z9k ?_; refine exB (fun hb11 => ?_) (fun hb11 => ?_)
       rotate_left 1
       ·exfalso; first | exact absurd hb11 (by decide) | exact hb11 rfl | (simp at hb11; done) | omega
       refine z5c ?_
       iterate 2 refine z7s ?_
       refine q_nil ?_; apply hK46; apply hK45; refine z0e (z0a z14 (fun _ _ h => h) (by first | rfl | assumption) [.tmp 6] rfl ?_); refine rtD ?_
       rfl
      ·skip
       try simp only [dQ, if_true, if_false, reduceIte] at hb2
       iterate 2 refine z5c ?_
       refine z79 ?_; refine ⟨s, fewL x 8, rfl, ⟨ws, by omega⟩, ?_⟩; refine DVo_0 ?_
       first | refine exA (.c (.bool (gd (partF d0 (fewL x 8)) (fewL x 8).length))) (as_eq (congrArg (fun v => SV.c (Cell.bool v)) qVo1)) ?_ | (intro cap5 hcap5; refine exA (.c (.bool (gd (partF d0 (fewL x 8)) (fewL x 8).length))) (as_eq (congrArg (fun v => SV.c (Cell.bool v)) qVo1)) ?_)
       iterate 2 refine z5c ?_
       refine z79 ?_; refine ⟨d0, fewL x 8, rfl, ⟨w0, by omega⟩, ?_⟩; refine DVo_0 ?_
       first | refine exI ?_ | (intro cap8 hcap8; refine exI ?_)
       refine z5c ?_; refine z7s ?_; refine z9k ?_; refine exB (fun hb11 => ?_) (fun hb11 => ?_)
       rotate_left 1
       ·exfalso; first | exact absurd hb11 (by decide) | exact hb11 rfl | (simp at hb11; done) | omega
       refine z5c ?_
       iterate 2 refine z7s ?_
       refine q_nil ?_; apply hK46; apply hK45; refine z0e (z0a z14 (fun _ _ h => h) (by first | rfl | assumption) [.tmp 6] rfl ?_); refine rtD ?_
       rfl


end Go.Proofs.YtppmnaoollkboaaDoor
