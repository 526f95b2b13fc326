/- The law of minimal automata. -/
import Derived.Test.YtppmnaoollkboaaDoorWVw
import Derived.Test.YtppmnaoollkboaaDoorQp
namespace Go.Proofs.YtppmnaoollkboaaDoor
set_option linter.all false
open Go.Ab Go.RowKit

theorem qVx0 {a : Prop} (h : a := by first | exact vcA | (simp <;> omega) | exact ⟨by omega, by omega⟩ | (simp only [z1b]; omega) | (simp only [z62]; omega) | (show (clsAt _ _).length = 4; exact hcd) | exact hcd | (simp only [z2m]; omega) | (simp only [z2m, hrow _ hjn]; omega) | exact vcB) : a := h
theorem uVx_0 {a : Prop} (h : a := by
    repeat' (first | exact pT  | exact trivial | refine aI ?_ ?_ | exact cC0 | refine low_cons' ?_ ?_ | exact cC1 | fail)
    all_goals first | omega | exact z1f _ | (show (_ : Bool) = _; first | exact (zin _ _ _).symm | exact zin _ _ _ | (simp [ztk, hb1]; done)) | (simp; done)| (show (0 : Nat) < (z02 _ _ _ _).length; rw [z01 hcl]; decide) | (simp [-List.reduceReplicate]; done) | (simp [-List.reduceReplicate] <;> omega) | skip) : a := h
theorem DVx_0 {a b : Prop} (kZ : b) (h : HidB b → a := by intro kZ; (repeat first | refine aI qVx0 ?_ | refine z06 qVx0 ?_ | refine z04 qVx0 ?_ | refine z0k qVx0 ?_ | refine z0a ?_); exact kZ.out) : a := h ⟨kZ⟩
theorem z1u {a b : Prop} (kZ : b) (h : HidB b → a := by intro kZ; refine sX ?_; refine DVx_0 ?_; refine exI ?_; exact kZ.out) : a := h ⟨kZ⟩
theorem zz3 {a b : Prop} (kZ : b) (h : HidB b → a := by intro kZ; refine sX0 ?_; refine DVx_0 ?_; refine exI ?_; exact kZ.out) : a := h ⟨kZ⟩
theorem z9u {a b : Prop} (kZ : b) (h : HidB b → a := by intro kZ; refine sXT ?_; refine DVx_0 ?_; refine exI ?_; exact kZ.out) : a := h ⟨kZ⟩
theorem zz4 {a b : Prop} (kZ : b) (h : HidB b → a := by intro kZ; refine dX ?_; refine DVx_0 ?_; refine exI ?_; exact kZ.out) : a := h ⟨kZ⟩
theorem zz5 {a b : Prop} (kZ : b) (h : HidB b → a := by intro kZ; refine qX ?_; refine DVx_0 ?_; refine exI ?_; exact kZ.out) : a := h ⟨kZ⟩
theorem zhe {a b : Prop} (kZ : b) (h : HidB b → a := by intro kZ; refine qXT ?_; refine DVx_0 ?_; refine exI ?_; exact kZ.out) : a := h ⟨kZ⟩
theorem zba {a b : Prop} (kZ : b) (h : HidB b → a := by intro kZ; refine sX ?_; refine DVx_0 ?_; exact kZ.out) : a := h ⟨kZ⟩
theorem zf0 {a b : Prop} (kZ : b) (h : HidB b → a := by intro kZ; refine sXT ?_; refine DVx_0 ?_; exact kZ.out) : a := h ⟨kZ⟩
theorem zp8 {a b : Prop} (kZ : b) (h : HidB b → a := by intro kZ; refine gX ?_; refine DVx_0 ?_; exact kZ.out) : a := h ⟨kZ⟩
theorem dXEVx_10 {a b : Prop} (kZ : b) (h : HidB b → a := by intro kZ; refine dX ?_; refine DVx_0 ?_; exact kZ.out) : a := h ⟨kZ⟩
theorem qXEVx_11 {a b : Prop} (kZ : b) (h : HidB b → a := by intro kZ; refine qX ?_; refine DVx_0 ?_; exact kZ.out) : a := h ⟨kZ⟩
theorem zcc {a b : Prop} (kZ : b) (h : HidB b → a := by intro kZ; refine qXT ?_; refine DVx_0 ?_; exact kZ.out) : a := h ⟨kZ⟩

open Go.Aut
theorem zin (c : Dfa) (i k : Nat) : sameK c i k 0 = true := rfl
theorem noB_zero (c : Dfa) (k : Nat) : noB c k 0 := fun x hx => absurd hx (Nat.not_lt_zero x)
theorem noB_succ {c : Dfa} {k b : Nat} (h : noB c k b) (hb : hasC c.cls k b = false) : noB c k (b + 1) := fun x hx => by
  rcases Nat.lt_succ_iff_lt_or_eq.1 hx with h1 | h1
  · exact h x h1
  · rw [h1]; exact hb
attribute [local irreducible] z0q z1z zl z02 z18 putB madeD z5n sameK
noncomputable def gx6 : Ctx := { P := Tryd.prog, ty := ty, glob := gl, fs := [(20, .flat zp4), (21, .data madeS), (30, .data zx4), (28, .flat sameS), (32, .flat zru), (33, .data movedS), (31, .data zox), (34, .flat zp5)] }
theorem z2d : gx6.OK := ⟨tyOK, ⟨⟨z07 Tryd.func20 (by kernel_rfl) rfl, zmk⟩, ⟨z07 Tryd.func21 (by kernel_rfl) rfl, zya⟩, ⟨z07 Tryd.func30 (by kernel_rfl) rfl, zr0⟩, ⟨z07 Tryd.func28 (by kernel_rfl) rfl, zk8⟩, ⟨z07 Tryd.func32 (by kernel_rfl) rfl, zti⟩, ⟨z07 Tryd.func33 (by kernel_rfl) rfl, moved_ok⟩, ⟨z07 Tryd.func31 (by kernel_rfl) rfl, zmd⟩, ⟨z07 Tryd.func34 (by kernel_rfl) rfl, zmn⟩, trivial⟩, mixed⟩
@[simp] theorem gx6_ty : gx6.ty = ty := rfl

def zp9 : QSpec := fun vs K => ∃ (a0 : UInt8) (l0 : List UInt8) (m0 : UInt8), vs = [shpV a0 l0 m0] ∧ l0.length ≤ 9223372036854775807 ∧ K (.c (.bool true))
set_option maxHeartbeats 4000000 in
set_option maxRecDepth 4000 in
theorem zkd : z16 Tryd.prog gl 6 zp9 := by
 refine z1a (Γ := gx6) (N := 130) Tryd.func6 rfl rfl fun vs K h => ?_; obtain ⟨a0, l0, m0, rfl, hl0, h⟩ := h; refine ⟨_, h, rfl, by simp, fun w I => ?_⟩; obtain ⟨d0, hd0⟩ : ∃ d, madeD a0 l0 m0 = d := ⟨_, rfl⟩
 have g0 : d0.good := hd0 ▸ zca a0 l0 m0
 have w0 := z2v g0
 have n0 : d0.next.length ≤ 5 := by rw [← hd0, zc9]; exact (zc8 a0).2
 have gc0 := z42 g0
 have hcan0 := (zjc g0.1).2.1
 obtain ⟨c, hcE⟩ : ∃ c, canD (langD d0) = c := ⟨_, rfl⟩; rw [hcE] at gc0 hcan0
 have gc := gc0.1
 have hcan : IsCanon (macD c) (langD d0) := hcan0
 have hcc : canD (langD c) = c := (z1n gc0.2).trans hcE
 have wc := z2v gc
 have hok := gc.1
 have hn64 := gc.2
 have hnc := hok.cmax
 have hcl4 := hok.clen
 have hrow : ∀ i, i < c.next.length → (c.next.getD i []).length = c.nc := fun i hi => (hok.rows _ (z2i (d := []) hi)).1
 refine seq_k fun _ hK1 => ?_; refine z00 z2d fun _ hK2 => ?_
 iterate 2 refine z1u ?_
 refine s_nil ?_; apply hK2; apply hK1; refine seq_k fun _ hK3 => ?_; refine z00 z2d fun _ hK4 => ?_
 iterate 2 refine z1u ?_
 refine s_nil ?_; apply hK4; apply hK3; refine seq_k fun _ hK5 => ?_; refine z00 z2d fun _ hK6 => ?_; refine z1u ?_; refine zba ?_; refine ⟨a0, l0, m0, rfl, hl0, ?_⟩; rw [hd0]; refine DVx_0 ?_
 first | refine exI ?_ | (intro cap1 hcap1; refine exI ?_)
 refine zba ?_; refine ⟨d0, rfl, w0, ?_⟩; rw [canR g0, hcE]; refine DVx_0 ?_
 first | refine exI ?_ | (intro cap2 hcap2; refine exI ?_)
 iterate 4 refine z1u ?_
 refine zz3 ?_; refine z1u ?_; refine s_nil ?_; apply hK6; apply hK5; refine seq_k fun _ hK7 => ?_; refine z00 z2d fun _ hK8 => ?_; refine z1u ?_; refine zba ?_; refine ⟨c, rfl, wc, ?_⟩; rw [canR gc, hcc]; refine DVx_0 ?_
 first | refine exI ?_ | (intro cap1 hcap1; refine exI ?_)
 iterate 4 refine z1u ?_
 refine zz3 ?_; refine z1u ?_; refine s_nil ?_; apply hK8; apply hK7; refine seq_k fun _ hK9 => ?_; refine seq_k fun _ hK10 => ?_; refine z00 z2d fun _ hK11 => ?_
 iterate 2 refine z1u ?_
 refine zba ?_; refine exB (fun hb2 => ?_) (fun hb2 => ?_)
 ·exfalso; first | exact absurd hb2 (by decide) | exact hb2 rfl | (simp at hb2; done) | omega
 iterate 2 refine z9u ?_
 refine z1u ?_; refine zba ?_; refine exB (fun hb6 => ?_) (fun hb6 => ?_)
 ·exfalso; first | exact absurd hb6 (by decide) | exact hb6 rfl | (simp at hb6; done) | omega
 iterate 2 refine z9u ?_
 refine zf0 ?_; refine ⟨c, c, rfl, ⟨wc, wc⟩, ?_⟩; refine DVx_0 ?_
 first | refine exA (.c (.bool (true))) (as_eq (congrArg (fun v => SV.c (Cell.bool v)) (z2h.2 rfl))) ?_ | (intro cap9 hcap9; refine exA (.c (.bool (true))) (as_eq (congrArg (fun v => SV.c (Cell.bool v)) (z2h.2 rfl))) ?_)
 refine z9u ?_; refine z1u ?_; refine zba ?_; refine exB (fun hb12 => ?_) (fun hb12 => ?_)
 ·exfalso; first | exact absurd hb12 (by decide) | exact hb12 rfl | (simp at hb12; done) | omega
 refine z9u ?_; refine zf0 ?_; refine ⟨c, rfl, wc, ?_⟩; refine DVx_0 ?_
 first | refine exA (.c (.bool (true))) (as_eq (congrArg (fun v => SV.c (Cell.bool v)) (zhc gc))) ?_ | (intro cap14 hcap14; refine exA (.c (.bool (true))) (as_eq (congrArg (fun v => SV.c (Cell.bool v)) (zhc gc))) ?_)
 refine z9u ?_; refine z1u ?_; refine s_nil ?_; apply hK11; apply hK10; refine z08 (b := _) rfl (fun h_t46 => ?_) (fun _ => ?_)
 ·exfalso; first | exact absurd h_t46 (by decide) | (simp at h_t46; done) | cases h_t46
 refine z0c ?_; apply hK9; refine seq_k fun _ hK12 => ?_; refine seq_k fun _ hK13 => ?_; refine z00 z2d fun _ hK14 => ?_; refine z1u ?_; refine s_nil ?_; apply hK14; apply hK13; refine z09 ?_; refine leW [0, 1, 2] id [(3, .c (.bool true)), (4, .c (.dp (dfaC c) 0)), (8, .c (.int .i64 (((0 : Nat) : Int))))] [] 0 [] uVx_0 uVx_0 uVx_0 uVx_0 ?_; refine z0t (α := Nat) (fun s => [(3, .c (.bool true)), (4, .c (.dp (dfaC c) 0)), (8, .c (.int .i64 ((s : Nat))))]) (fun s => []) 0 (fun s => s ≤ c.next.length) (fun s => c.next.length - s) ?_ ?_
 ·refine dnS [] id 0 (Nat.zero_le _) [] uVx_0 uVx_0 uVx_0 uVx_0
 ·intro s hs
  refine seq_k fun _ hK15 => ?_; refine seq_k fun _ hK16 => ?_; refine z00 z2d fun _ hK17 => ?_
  iterate 5 refine z1u ?_
  refine s_nil ?_; apply hK17; apply hK16; refine z08 (b := _) rfl (fun h_t51 => ?_) (fun h_t51 => ?_)
  ·try simp only [dQ, if_true, if_false, reduceIte] at h_t51
   refine z0c ?_; apply hK15; refine seq_k fun _ hK18 => ?_; refine z09 ?_; refine seq_k fun _ hK19 => ?_; refine z00 z2d fun _ hK20 => ?_; refine z1u ?_; refine s_nil ?_; apply hK20; apply hK19; refine z09 ?_; refine z0t (α := Nat) (fun t => [(3, .c (.bool true)), (4, .c (.dp (dfaC c) 0)), (8, .c (.int .i64 ((s : Nat)))), (9, .c (.int .i64 ((t : Nat))))]) (fun t => []) 0 (fun t => t ≤ s) (fun t => s - t) ?_ ?_
   ·refine dnS [] id 0 (Nat.zero_le _) [] uVx_0 uVx_0 uVx_0 uVx_0
   ·intro t ht
    refine seq_k fun _ hK21 => ?_; refine seq_k fun _ hK22 => ?_; refine z00 z2d fun _ hK23 => ?_
    iterate 3 refine z1u ?_
    refine s_nil ?_; apply hK23; apply hK22; refine z08 (b := _) rfl (fun h_t56 => ?_) (fun h_t56 => ?_)
    ·try simp only [dQ, if_true, if_false, reduceIte] at h_t56
     refine z0c ?_; apply hK21; refine seq_k fun _ hK24 => ?_; refine z09 ?_; refine seq_k fun _ hK25 => ?_
     have hsn : s < c.next.length := by omega
     have hts : t < s := by omega
     have htn : t < c.next.length := by omega
     have vS := z2v (zdl gc hsn)
     have vT := z2v (zdl gc htn)
     refine z3l z2d [(0, true), (1, true), (3, true), (4, true), (2, false), (5, false), (6, false), (7, true), (8, true), (9, true), (10, true), (11, true)] rfl (by kernel_rfl) (by kernel_rfl) fun _ hK26 => ?_
     iterate 4 refine zz4 ?_
     refine zp8 ?_; refine ⟨c, s, rfl, ⟨gc, hsn⟩, ?_⟩; refine DVx_0 ?_
     first | refine exI ?_ | (intro cap2 hcap2; refine exI ?_)
     refine zp8 ?_; refine ⟨c, t, rfl, ⟨gc, htn⟩, ?_⟩; refine DVx_0 ?_
     first | refine exI ?_ | (intro cap5 hcap5; refine exI ?_)
     refine zp8 ?_; refine ⟨z5n c s, z5n c t, rfl, ⟨vS, vT⟩, ?_⟩; refine DVx_0 ?_
     first | refine exI ?_ | (intro cap6 hcap6; refine exI ?_)
     iterate 2 refine zz4 ?_
     refine dXEVx_10 ?_; refine exA (.c (.bool (true))) (as_eq (congrArg (fun v => SV.c (Cell.bool v)) (mv_apart gc hcan hsn hts))) ?_
     iterate 2 refine zz4 ?_
     refine d_nil ?_; apply hK26; apply hK25; refine seq_k fun _ hK27 => ?_; refine z00 z2d fun _ hK28 => ?_
     iterate 2 refine z1u ?_
     refine s_nil ?_; apply hK28; apply hK27; refine z08 (b := _) rfl (fun h_t70 => ?_) (fun _ => ?_)
     ·exfalso; first | exact absurd h_t70 (by decide) | (simp at h_t70; done) | cases h_t70
     refine z0c ?_; refine z0b ?_; apply hK24; refine z00 z2d fun _ hK29 => ?_
     iterate 3 refine z1u ?_
     refine s_nil ?_; apply hK29; refine dnS [] id (t + 1) ⟨by omega, by omega⟩ [] uVx_0 uVx_0 uVx_0 uVx_0
    ·try simp only [dQ, if_true, if_false, reduceIte] at h_t56
     refine z0r ?_; refine z05 ?_; refine z05 ?_; refine z0m ?_; refine z0b ?_; apply hK18; refine z00 z2d fun _ hK30 => ?_
     iterate 3 refine z1u ?_
     refine s_nil ?_; apply hK30; refine dnS [] id (s + 1) ⟨by omega, by omega⟩ [] uVx_0 uVx_0 uVx_0 uVx_0
  ·try simp only [dQ, if_true, if_false, reduceIte] at h_t51
   refine z0r ?_; refine z05 ?_; refine z05 ?_; refine z0m ?_; apply hK12; refine seq_k fun _ hK31 => ?_; refine z00 z2d fun _ hK32 => ?_; refine z1u ?_; refine s_nil ?_; apply hK32; apply hK31; refine seq_k fun _ hK33 => ?_; refine seq_k fun _ hK34 => ?_; refine z00 z2d fun _ hK35 => ?_; refine z1u ?_; refine s_nil ?_; apply hK35; apply hK34; refine z09 ?_; refine z0t (α := Nat × Int) (fun g => [(3, .c (.bool true)), (4, .c (.dp (dfaC c) 0)), (12, .c (.int .i64 (g.2))), (13, .c (.int .i64 ((g.1 : Nat))))]) (fun g => []) 0 (fun g => g.1 ≤ c.nc ∧ ((g.1 = 0 ∧ g.2 = -1) ∨ ∃ a : Nat, 0 < g.1 ∧ g.2 = (a : Int) ∧ zmo c (g.1 - 1) a)) (fun g => c.nc - g.1) ?_ ?_
   ·refine dnS [] id (0, -1) ⟨Nat.zero_le _, .inl ⟨rfl, rfl⟩⟩ [] uVx_0 uVx_0 uVx_0 uVx_0
   ·intro g hg
    refine seq_k fun _ hK36 => ?_; refine seq_k fun _ hK37 => ?_; refine z00 z2d fun _ hK38 => ?_
    iterate 5 refine z1u ?_
    refine s_nil ?_; apply hK38; apply hK37; refine z08 (b := _) rfl (fun h_t75 => ?_) (fun h_t75 => ?_)
    ·try simp only [dQ, if_true, if_false, reduceIte] at h_t75
     refine z0c ?_; apply hK36; refine seq_k fun _ hK39 => ?_; refine z09 ?_; refine seq_k fun _ hK40 => ?_; refine z00 z2d fun _ hK41 => ?_; refine z1u ?_; refine s_nil ?_; apply hK41; apply hK40; refine zbm (α := Nat) (fun b => [(3, .c (.bool true)), (4, .c (.dp (dfaC c) 0)), (12, .c (.int .i64 (g.2))), (13, .c (.int .i64 ((g.1 : Nat)))), (14, .c (.int .i64 ((b : Nat))))]) (fun b => []) 0 (fun b => zmo c g.1 b) ?_ ?_
     ·refine z09 ?_
      refine z0t (α := Nat) (fun b => [(3, .c (.bool true)), (4, .c (.dp (dfaC c) 0)), (12, .c (.int .i64 (g.2))), (13, .c (.int .i64 ((g.1 : Nat)))), (14, .c (.int .i64 ((b : Nat))))]) (fun b => []) 0 (fun b => b ≤ 255 ∧ noB c g.1 b) (fun b => 255 - b) ?_ ?_
      ·refine dnS [] id 0 ⟨by omega, noB_zero _ _⟩ [] uVx_0 uVx_0 uVx_0 uVx_0
      ·intro b hb
       refine seq_k fun _ hK42 => ?_; refine seq_k fun _ hK43 => ?_
       have hgk : g.1 < c.nc := by omega
       have hcd := z24 hcl4 hgk
       refine z00 z2d fun _ hK44 => ?_
       iterate 2 refine z1u ?_
       refine zba ?_; refine exB (fun hb2 => ?_) (fun hb2 => ?_)
       ·try simp only [dQ, if_true, if_false, reduceIte] at hb2
        iterate 4 refine z9u ?_
        refine zf0 ?_; refine exA (.agg (.u64s (clsAt c.cls g.1))) (as_eq rfl) ?_; refine z9u ?_; refine zf0 ?_; refine ⟨clsAt c.cls g.1, b, rfl, ⟨hcd, by omega⟩, ?_⟩; refine DVx_0 ?_
        first | refine exA (.c (.bool (hasC c.cls g.1 b))) (as_eq (congrArg (fun v => SV.c (Cell.bool v)) (zkb (by omega)))) ?_ | (intro cap9 hcap9; refine exA (.c (.bool (hasC c.cls g.1 b))) (as_eq (congrArg (fun v => SV.c (Cell.bool v)) (zkb (by omega)))) ?_)
        refine z9u ?_; refine z1u ?_; refine s_nil ?_; apply hK44; apply hK43; refine z08 (b := _) rfl (fun h_t89 => ?_) (fun h_t89 => ?_)
        ·try simp only [dQ, if_true, if_false, reduceIte] at h_t89
         refine z0c ?_; apply hK42; refine z09 ?_; refine z00 z2d fun _ hK45 => ?_
         iterate 3 refine z1u ?_
         refine s_nil ?_; apply hK45; refine z0b ?_; refine dnS [] id (b + 1) ⟨⟨by omega, noB_succ hb.2 (by simpa using h_t89)⟩, by omega⟩ [] uVx_0 uVx_0 uVx_0 uVx_0
        ·try simp only [dQ, if_true, if_false, reduceIte] at h_t89
         refine z0r ?_; refine z05 ?_; refine z05 ?_; refine z0m ?_; refine dnS [] id b (zmp hok hgk hb.2 (by omega) (by first | exact .inl (by omega) | exact .inr (by simpa using h_t89))) [] uVx_0 uVx_0 uVx_0 uVx_0
       ·try simp only [dQ, if_true, if_false, reduceIte] at hb2
        iterate 8 refine sN ?_
        refine z1u ?_; refine s_nil ?_; apply hK44; apply hK43; refine z08 (b := _) rfl (fun h_t89 => ?_) (fun _ => ?_)
        ·exfalso; simp at h_t89
        refine z0r ?_; refine z05 ?_; refine z05 ?_; refine z0m ?_; refine dnS [] id b (zmp hok hgk hb.2 (by omega) (by first | exact .inl (by omega) | exact .inr (by simpa using h_t89))) [] uVx_0 uVx_0 uVx_0 uVx_0
     ·intro b hb
      have hgk : g.1 < c.nc := by omega
      have hlt : g.2 < (b : Int) := by
       rcases hg.2 with ⟨_, e⟩ | ⟨a, h0, e, hl⟩
       ·omega
       ·have := least_lt hok hcan (k := g.1 - 1) (by omega) hl (by rw [Nat.sub_add_cancel h0]; exact hb)
        omega
      have hb255 := hb.1
      refine seq_k fun _ hK46 => ?_; refine seq_k fun _ hK47 => ?_; refine z00 z2d fun _ hK48 => ?_
      iterate 3 refine z1u ?_
      refine s_nil ?_; apply hK48; apply hK47; refine z08 (b := _) rfl (fun h_t94 => ?_) (fun _ => ?_)
      ·exfalso; (have h9 := of_decide_eq_true h_t94; omega)
      refine z0c ?_; apply hK46; refine seq_k fun _ hK49 => ?_; refine z00 z2d fun _ hK50 => ?_
      iterate 2 refine z1u ?_
      refine s_nil ?_; apply hK50; apply hK49; refine seq_k fun _ hK51 => ?_; refine z00 z2d fun _ hK52 => ?_; refine z1u ?_; refine s_nil ?_; apply hK52; apply hK51; refine z09 ?_; refine z0t (α := Nat) (fun i => [(3, .c (.bool true)), (4, .c (.dp (dfaC c) 0)), (12, .c (.int .i64 ((b : Nat)))), (13, .c (.int .i64 ((g.1 : Nat)))), (15, .c (.int .i64 ((i : Nat))))]) (fun i => []) 0 (fun i => i ≤ g.1) (fun i => g.1 - i) ?_ ?_
      ·refine dnS [] id 0 (Nat.zero_le _) [] uVx_0 uVx_0 uVx_0 uVx_0
      ·intro i hi
       refine seq_k fun _ hK53 => ?_; refine seq_k fun _ hK54 => ?_; refine z00 z2d fun _ hK55 => ?_
       iterate 3 refine z1u ?_
       refine s_nil ?_; apply hK55; apply hK54; refine z08 (b := _) rfl (fun h_t98 => ?_) (fun h_t98 => ?_)
       ·try simp only [dQ, if_true, if_false, reduceIte] at h_t98
        refine z0c ?_; apply hK53; refine seq_k fun _ hK56 => ?_; refine z09 ?_; refine seq_k fun _ hK57 => ?_; refine z00 z2d fun _ hK58 => ?_; refine z1u ?_; refine s_nil ?_; apply hK58; apply hK57; refine seq_k fun _ hK59 => ?_; refine seq_k fun _ hK60 => ?_; refine z00 z2d fun _ hK61 => ?_; refine z1u ?_; refine s_nil ?_; apply hK61; apply hK60; refine z09 ?_; refine z0t (α := Nat) (fun j => [(3, .c (.bool true)), (4, .c (.dp (dfaC c) 0)), (12, .c (.int .i64 ((b : Nat)))), (13, .c (.int .i64 ((g.1 : Nat)))), (15, .c (.int .i64 ((i : Nat)))), (16, .c (.bool (sameK c i g.1 j))), (17, .c (.int .i64 ((j : Nat))))]) (fun j => []) 0 (fun j => j ≤ c.next.length) (fun j => c.next.length - j) ?_ ?_
        ·refine dnS [] id 0 (Nat.zero_le _) [] uVx_0 uVx_0 uVx_0 uVx_0
        ·intro j hj
         refine seq_k fun _ hK62 => ?_; refine seq_k fun _ hK63 => ?_; refine z00 z2d fun _ hK64 => ?_
         iterate 5 refine z1u ?_
         refine s_nil ?_; apply hK64; apply hK63; refine z08 (b := _) rfl (fun h_t105 => ?_) (fun h_t105 => ?_)
         ·try simp only [dQ, if_true, if_false, reduceIte] at h_t105
          refine z0c ?_; apply hK62; refine seq_k fun _ hK65 => ?_; refine z09 ?_
          have hjn : j < c.next.length := by omega
          have hik : i < c.nc := by omega
          have hrj := hrow _ hjn
          refine z75 z2d (by kernel_rfl) fun _ hK66 => ?_; refine zz5 ?_; refine qXEVx_11 ?_; refine exB (fun hb1 => ?_) (fun hb1 => ?_)
          ·try simp only [dQ, if_true, if_false, reduceIte] at hb1
           iterate 4 refine zhe ?_
           refine zcc ?_; refine exA (.c (.ds (c.next.getD j []).length (.ints .i64 (c.next.getD j [])))) (as_eq (congrArg SV.c (z6y ⟨hjn, by omega⟩))) ?_
           iterate 2 refine zhe ?_
           refine zcc ?_; refine exA (.c (.int .i64 ((c.next.getD j []).getD i 0))) (as_eq (congrArg (fun v => SV.c (Cell.int IntKind.i64 v)) (congrArg (fun x => (c.next.getD j []).getD x 0) (by omega)))) ?_
           iterate 4 refine zhe ?_
           refine zcc ?_; refine exA (.c (.ds (c.next.getD j []).length (.ints .i64 (c.next.getD j [])))) (as_eq (congrArg SV.c (z6y ⟨hjn, by omega⟩))) ?_
           iterate 2 refine zhe ?_
           refine zcc ?_; refine exA (.c (.int .i64 ((c.next.getD j []).getD g.1 0))) (as_eq (congrArg (fun v => SV.c (Cell.int IntKind.i64 v)) (congrArg (fun x => (c.next.getD j []).getD x 0) (by omega)))) ?_; refine zhe ?_
           iterate 2 refine zz5 ?_
           refine q_nil ?_; apply hK66; refine z0b ?_; apply hK65; refine z00 z2d fun _ hK67 => ?_
           iterate 3 refine z1u ?_
           refine s_nil ?_; apply hK67; refine dnS [] id (j + 1) ⟨by omega, by omega⟩ [] uVx_0 uVx_0 uVx_0 uVx_0
          ·try simp only [dQ, if_true, if_false, reduceIte] at hb1
           iterate 17 refine qN ?_
           iterate 2 refine zz5 ?_
           refine q_nil ?_; apply hK66; refine z0b ?_; apply hK65; refine z00 z2d fun _ hK68 => ?_
           iterate 3 refine z1u ?_
           refine s_nil ?_; apply hK68; refine dnS [] id (j + 1) ⟨by omega, by omega⟩ [] uVx_0 uVx_0 uVx_0 uVx_0
         ·try simp only [dQ, if_true, if_false, reduceIte] at h_t105
          refine z0r ?_; refine z05 ?_; refine z05 ?_; refine z0m ?_; apply hK59; refine seq_k fun _ hK69 => ?_
          obtain rfl : j = c.next.length := by omega
          have hsn := same_no hok hcan (i := i) (k := g.1) (by omega) hgk
          refine z00 z2d fun _ hK70 => ?_; refine z1u ?_; refine s_nil ?_; apply hK70; apply hK69; refine z08 (b := _) rfl (fun h_t128 => ?_) (fun _ => ?_)
          ·exfalso; rw [hsn] at h_t128; cases h_t128
          refine z0c ?_; refine z0b ?_; apply hK56; refine z00 z2d fun _ hK71 => ?_
          iterate 3 refine z1u ?_
          refine s_nil ?_; apply hK71; refine dnS [] id (i + 1) ⟨by omega, by omega⟩ [] uVx_0 uVx_0 uVx_0 uVx_0
       ·try simp only [dQ, if_true, if_false, reduceIte] at h_t98
        refine z0r ?_; refine z05 ?_; refine z05 ?_; refine z0m ?_; refine z0b ?_; apply hK39; refine z00 z2d fun _ hK72 => ?_
        iterate 3 refine z1u ?_
        refine s_nil ?_; apply hK72; refine dnS [] id (g.1 + 1, (b : Int)) ⟨⟨by omega, .inr ⟨b, Nat.succ_pos _, rfl, hb⟩⟩, by omega⟩ [] uVx_0 uVx_0 uVx_0 uVx_0
    ·try simp only [dQ, if_true, if_false, reduceIte] at h_t75
     refine z0r ?_; refine z05 ?_; refine z05 ?_; refine z0m ?_; apply hK33; refine seq_k fun _ hK73 => ?_; refine z00 z2d fun _ hK74 => ?_
     iterate 2 refine z1u ?_
     refine s_nil ?_; apply hK74; apply hK73; refine z0f (z0d z2d (fun _ _ h => h) (by first | rfl | assumption) [.tmp 2] rfl ?_); refine rtD ?_
     rfl


end Go.Proofs.YtppmnaoollkboaaDoor
