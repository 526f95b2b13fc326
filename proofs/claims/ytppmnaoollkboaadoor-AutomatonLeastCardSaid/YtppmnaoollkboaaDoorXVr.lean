/- The law of least words. -/
import Derived.Test.YtppmnaoollkboaaDoorPo
import Derived.Test.YtppmnaoollkboaaDoorPp
namespace Go.Proofs.YtppmnaoollkboaaDoor
set_option linter.all false
open Go.Ab Go.RowKit

theorem qVr0 {a : Prop} (h : a := by first | exact vcA | (simp <;> omega) | exact ⟨by omega, by omega⟩ | (show _ < c.acc.length; omega) | exact vcB) : a := h
theorem uVr_0 {a : Prop} (h : a := by
    repeat' (first | exact pT  | exact trivial | refine aI ?_ ?_ | exact cC0 | refine low_cons' ?_ ?_ | exact cC1 | fail)
    all_goals first | omega | exact z1e _ | exact z19 _ | (simp; done) | (show Cont.u8s _ = _; simp; done)| (show (0 : Nat) < (z02 _ _ _ _).length; rw [z01 hcl]; decide) | (simp [-List.reduceReplicate]; done) | (simp [-List.reduceReplicate] <;> omega) | skip) : a := h
theorem DVr_0 {a b : Prop} (kZ : b) (h : HidB b → a := by intro kZ; (repeat first | refine aI qVr0 ?_ | refine z05 qVr0 ?_ | refine z04 qVr0 ?_ | refine z0i qVr0 ?_ | refine z0d ?_); exact kZ.out) : a := h ⟨kZ⟩
theorem z2t {a b : Prop} (kZ : b) (h : HidB b → a := by intro kZ; refine sX ?_; refine DVr_0 ?_; refine exI ?_; exact kZ.out) : a := h ⟨kZ⟩
theorem y0q {a b : Prop} (kZ : b) (h : HidB b → a := by intro kZ; refine sX0 ?_; refine DVr_0 ?_; refine exI ?_; exact kZ.out) : a := h ⟨kZ⟩
theorem z7a {a b : Prop} (kZ : b) (h : HidB b → a := by intro kZ; refine sXT ?_; refine DVr_0 ?_; refine exI ?_; exact kZ.out) : a := h ⟨kZ⟩
theorem y0r {a b : Prop} (kZ : b) (h : HidB b → a := by intro kZ; refine qX ?_; refine DVr_0 ?_; refine exI ?_; exact kZ.out) : a := h ⟨kZ⟩
theorem y0s {a b : Prop} (kZ : b) (h : HidB b → a := by intro kZ; refine qXT ?_; refine DVr_0 ?_; refine exI ?_; exact kZ.out) : a := h ⟨kZ⟩
theorem z4u {a b : Prop} (kZ : b) (h : HidB b → a := by intro kZ; refine sX ?_; refine DVr_0 ?_; exact kZ.out) : a := h ⟨kZ⟩
theorem zd8 {a b : Prop} (kZ : b) (h : HidB b → a := by intro kZ; refine sXT ?_; refine DVr_0 ?_; exact kZ.out) : a := h ⟨kZ⟩
theorem zqp {a b : Prop} (kZ : b) (h : HidB b → a := by intro kZ; refine qX ?_; refine DVr_0 ?_; exact kZ.out) : a := h ⟨kZ⟩
theorem zti {a b : Prop} (kZ : b) (h : HidB b → a := by intro kZ; refine qXT ?_; refine DVr_0 ?_; exact kZ.out) : a := h ⟨kZ⟩

open Go.Aut
attribute [local irreducible] z0p z1v zl z02 z1f putB madeD prW
noncomputable def gx7 : Ctx := { P := Tryd.prog, ty := ty, glob := gl, fs := [(20, .flat zej), (21, .data madeS), (22, .data fewS), (30, .data zym), (25, .flat z7h), (29, .data zli), (35, .flat lessRS)] }
theorem z5d : gx7.OK := ⟨tyOK, ⟨⟨z06 Tryd.func20 (by kernel_rfl) rfl, zal⟩, ⟨z06 Tryd.func21 (by kernel_rfl) rfl, zll⟩, ⟨z06 Tryd.func22 (by kernel_rfl) rfl, zzu⟩, ⟨z06 Tryd.func30 (by kernel_rfl) rfl, zsf⟩, ⟨z06 Tryd.func25 (by kernel_rfl) rfl, z5o⟩, ⟨z06 Tryd.func29 (by kernel_rfl) rfl, zi3⟩, ⟨z06 Tryd.func35 (by kernel_rfl) rfl, lessR_ok⟩, trivial⟩, mixed⟩
@[simp] theorem gx7_ty : gx7.ty = ty := rfl

def y0t : QSpec := fun vs K => ∃ (a0 : UInt8) (l0 : List UInt8) (m0 : UInt8) (x : List UInt8), vs = [shpV a0 l0 m0, .c (.ds x.length (.u8s x))] ∧ (l0.length ≤ 9223372036854775807 ∧ x.length ≤ 9223372036854775807) ∧ K (.c (.bool true))
set_option maxHeartbeats 1000000 in
set_option maxRecDepth 4000 in
theorem zqq : z1b Tryd.prog gl 7 y0t := by
 refine z1h (Γ := gx7) (N := 108) Tryd.func7 rfl rfl fun vs K h => ?_; obtain ⟨a0, l0, m0, x, rfl, ⟨hl0, hx⟩, h⟩ := h; refine ⟨_, h, rfl, by simp, fun w I => ?_⟩; obtain ⟨d0, hd0⟩ : ∃ d, madeD a0 l0 m0 = d := ⟨_, rfl⟩
 have g0 : d0.good := hd0 ▸ z77 a0 l0 m0
 have w0 := z2n g0
 have n0 : d0.next.length ≤ 5 := by rw [← hd0, z7r]; exact (z7q a0).2
 obtain ⟨ha1, ha2, ha3⟩ := y0l g0
 have gc := z49 g0
 obtain ⟨c, hcE⟩ : ∃ c, canD (langD d0) = c := ⟨_, rfl⟩; rw [hcE] at gc ha2
 have wc := z2n gc.1
 have hcn := gc.1.1.npos
 have hca := gc.1.1.alen
 obtain ⟨o, hoE⟩ : ∃ o, lstR d0 = o := ⟨_, rfl⟩; rw [hoE] at ha1 ha2 ha3; refine seq_k fun _ hK1 => ?_; refine z00 z5d fun _ hK2 => ?_
 iterate 2 refine z2t ?_
 refine s_nil ?_; apply hK2; apply hK1; refine seq_k fun _ hK3 => ?_; refine z00 z5d fun _ hK4 => ?_
 iterate 2 refine z2t ?_
 refine s_nil ?_; apply hK4; apply hK3; refine seq_k fun _ hK5 => ?_; refine z00 z5d fun _ hK6 => ?_; refine z2t ?_; refine z4u ?_; refine ⟨a0, l0, m0, rfl, hl0, ?_⟩; rw [hd0]; refine DVr_0 ?_
 first | refine exI ?_ | (intro cap1 hcap1; refine exI ?_)
 refine z2t ?_; refine y0q ?_; refine s_nil ?_; apply hK6; apply hK5; refine seq_k fun _ hK7 => ?_; refine z00 z5d fun _ hK8 => ?_; refine z2t ?_; refine z4u ?_; refine ⟨d0, rfl, w0, ?_⟩; rw [hoE]; refine DVr_0 ?_
 first | refine exI ?_ | (intro cap1 hcap1; refine exI ?_)
 iterate 5 refine z2t ?_
 refine s_nil ?_; apply hK8; apply hK7; refine seq_k fun _ hK9 => ?_; refine z00 z5d fun _ hK10 => ?_; refine z2t ?_; refine z4u ?_; refine ⟨d0, rfl, w0, ?_⟩; rw [canR g0, hcE]; refine DVr_0 ?_
 first | refine exI ?_ | (intro cap1 hcap1; refine exI ?_)
 iterate 4 refine z2t ?_
 refine y0q ?_; refine z2t ?_; refine s_nil ?_; apply hK10; apply hK9; refine seq_k fun _ hK11 => ?_; refine seq_k fun _ hK12 => ?_; refine z00 z5d fun _ hK13 => ?_
 iterate 2 refine z2t ?_
 refine z4u ?_; refine exB (fun hb2 => ?_) (fun hb2 => ?_)
 ·exfalso; first | exact absurd hb2 (by decide) | exact hb2 rfl | (simp at hb2; done) | omega
 iterate 3 refine z7a ?_
 refine z2t ?_; refine z4u ?_; refine exB (fun hb7 => ?_) (fun hb7 => ?_)
 ·skip
  try simp only [dQ, if_true, if_false, reduceIte] at hb7
  iterate 4 refine sN ?_
  refine z2t ?_; refine s_nil ?_; apply hK13; apply hK12; refine z08 (b := _) rfl (fun _ => ?_) (fun h_t38 => ?_)
  rotate_left 1
  ·exfalso; simp at h_t38
  refine seq_k fun _ hK14 => ?_; refine z00 z5d fun _ hK15 => ?_
  iterate 2 refine z2t ?_
  refine z4u ?_; refine exB (fun hb2 => ?_) (fun hb2 => ?_)
  rotate_left 1
  ·exfalso; first | exact absurd hb2 (by decide) | exact hb2 rfl | (simp at hb2; done) | omega
  iterate 3 refine z7a ?_
  refine zd8 ?_; refine exA (.c (.bool (true))) (as_eq (congrArg (fun v => SV.c (Cell.bool v)) (by first | exact decide_eq_true (by omega) | (simp; omega)))) ?_; refine z2t ?_; refine z4u ?_; refine exB (fun hb8 => ?_) (fun hb8 => ?_)
  rotate_left 1
  ·exfalso; first | exact absurd hb8 (by decide) | exact hb8 rfl | (simp at hb8; done) | omega
  refine z7a ?_
  iterate 2 refine z2t ?_
  refine s_nil ?_; apply hK15; apply hK14; refine z0e (z0a z5d (fun _ _ h => h) (by first | rfl | assumption) [.tmp 4] rfl ?_); refine rtD ?_
  rfl
 ·skip
  try simp only [dQ, if_true, if_false, reduceIte] at hb7
  iterate 3 refine z7a ?_
  refine zd8 ?_; refine exA (.c (.bool (false))) (as_eq (congrArg (fun v => SV.c (Cell.bool v)) (by show decide ((c.acc.length : Int) = 0) = false; exact decide_eq_false (by omega)))) ?_; refine z2t ?_; refine s_nil ?_; apply hK13; apply hK12; refine z08 (b := _) rfl (fun h_t38 => ?_) (fun _ => ?_)
  ·exfalso; first | exact absurd h_t38 (by decide) | (simp at h_t38; done) | cases h_t38
  refine z0c ?_; apply hK11; refine seq_k fun _ hK16 => ?_; refine seq_k fun _ hK17 => ?_
  have hx1 : x.length ≤ 1000 := by omega
  refine z00 z5d fun _ hK18 => ?_
  iterate 2 refine z2t ?_
  refine s_nil ?_; apply hK18; apply hK17; refine z08 (b := _) rfl (fun h_t51 => ?_) (fun h_t51 => ?_)
  ·try simp only [dQ, if_true, if_false, reduceIte] at h_t51
   refine seq_k fun _ hK19 => ?_
   have hon : o.isSome = false := by simpa using h_t51
   obtain ⟨hn1, hn2, hn3⟩ := ha2 hon; refine z00 z5d fun _ hK20 => ?_
   iterate 3 refine z2t ?_
   refine z4u ?_; refine exA (.c (.bool (true))) (as_eq (congrArg (fun v => SV.c (Cell.bool v)) (by first | exact decide_eq_true (by omega) | (simp; omega)))) ?_; refine z4u ?_; refine exB (fun hb4 => ?_) (fun hb4 => ?_)
   rotate_left 1
   ·exfalso; first | exact absurd hb4 (by decide) | exact hb4 rfl | (simp at hb4; done) | omega
   iterate 3 refine z7a ?_
   refine zd8 ?_; refine exA (.c (.bool (false))) (as_eq (congrArg (fun v => SV.c (Cell.bool v)) (hn2))) ?_; refine z7a ?_; refine z2t ?_; refine z4u ?_; refine exB (fun hb11 => ?_) (fun hb11 => ?_)
   rotate_left 1
   ·exfalso; first | exact absurd hb11 (by decide) | exact hb11 rfl | (simp at hb11; done) | omega
   iterate 2 refine z7a ?_
   refine zd8 ?_; refine ⟨d0, x, rfl, ⟨w0, by omega⟩, ?_⟩; refine DVr_0 ?_
   first | refine exA (.c (.bool (false))) (as_eq (congrArg (fun v => SV.c (Cell.bool v)) (hn3 x))) ?_ | (intro cap14 hcap14; refine exA (.c (.bool (false))) (as_eq (congrArg (fun v => SV.c (Cell.bool v)) (hn3 x))) ?_)
   refine z7a ?_; refine z2t ?_; refine z4u ?_; refine exB (fun hb17 => ?_) (fun hb17 => ?_)
   rotate_left 1
   ·exfalso; first | exact absurd hb17 (by decide) | exact hb17 rfl | (simp at hb17; done) | omega
   refine z7a ?_
   iterate 2 refine z2t ?_
   refine s_nil ?_; apply hK20; apply hK19; refine z0e (z0a z5d (fun _ _ h => h) (by first | rfl | assumption) [.tmp 4] rfl ?_); refine rtD ?_
   rfl
  ·try simp only [dQ, if_true, if_false, reduceIte] at h_t51
   refine z0c ?_; apply hK16; refine seq_k fun _ hK21 => ?_
   have hos : o.isSome = true := by simpa using h_t51
   obtain ⟨hs1, hs2, hs3⟩ := ha3 hos; refine z00 z5d fun _ hK22 => ?_
   iterate 2 refine z2t ?_
   refine z4u ?_; refine ⟨x, 4, rfl, ⟨hx, by omega⟩, ?_⟩; refine DVr_0 ?_
   first | refine exI ?_ | (intro cap2 hcap2; refine exI ?_)
   iterate 2 refine z2t ?_
   refine s_nil ?_; apply hK22; apply hK21; refine seq_k fun _ hK23 => ?_; refine seq_k fun _ hK24 => ?_; refine z00 z5d fun _ hK25 => ?_; refine z2t ?_; refine s_nil ?_; apply hK25; apply hK24; refine z09 ?_; refine z10 (α := Nat) (fun i => [(1, .c (.ds x.length (.u8s x))), (5, .c (.bool true)), (6, .c (.dp (dfaC d0) 0)), (7, .c (.ds (lsB o).length (.u8s (lsB o)))), (11, .c (.ds 2 (.cells [.ds x.length (.u8s x), .ds (fewL x 4).length (.u8s (fewL x 4))]))), (12, .c (.int .i64 (i : Nat)))]) (fun i => []) 0 (fun i => i ≤ 2) (fun i => 2 - i) ?_ ?_
   ·refine dnS [0, 1, 2, 3] id 0 (Nat.zero_le _) [] ?_ ?_ ?_ ?_
    ·exact uVr_0
    ·exact uVr_0
    ·exact uVr_0
    ·exact uVr_0
   ·intro i hi
    refine seq_k fun _ hK26 => ?_; refine seq_k fun _ hK27 => ?_; refine z00 z5d fun _ hK28 => ?_
    iterate 2 refine z2t ?_
    refine s_nil ?_; apply hK28; apply hK27; refine z08 (b := _) rfl (fun h_t77 => ?_) (fun h_t77 => ?_)
    ·try simp only [dQ, if_true, if_false, reduceIte] at h_t77
     refine z0c ?_; apply hK26; refine seq_k fun _ hK29 => ?_; refine z09 ?_; refine seq_k fun _ hK30 => ?_
     have hi2 : i = 0 ∨ i = 1 := by omega
     have hpl : (prW x (fewL x 4) i).length ≤ 1000 := zqn hx1 (by rw [z35]; omega)
     refine z2m z5d (by kernel_rfl) fun _ hK31 => ?_
     iterate 4 refine y0r ?_
     refine zqp ?_; refine exA (.c (.ds (prW x (fewL x 4) i).length (.u8s (prW x (fewL x 4) i)))) (as_eq (congrArg SV.c (y0m hi2 (by omega)))) ?_; refine zqp ?_; refine ⟨d0, (prW x (fewL x 4) i), rfl, ⟨w0, by omega⟩, ?_⟩; refine DVr_0 ?_
     first | refine exI ?_ | (intro cap5 hcap5; refine exI ?_)
     refine zqp ?_; refine exB (fun hb6 => ?_) (fun hb6 => ?_)
     ·skip
      try simp only [dQ, if_true, if_false, reduceIte] at hb6
      iterate 3 refine y0s ?_
      refine zti ?_; refine exA (.c (.ds (prW x (fewL x 4) i).length (.u8s (prW x (fewL x 4) i)))) (as_eq (congrArg SV.c (y0m hi2 (by omega)))) ?_; refine y0s ?_; refine zti ?_; refine ⟨(prW x (fewL x 4) i), lsB o, rfl, ⟨by omega, by omega⟩, ?_⟩; refine DVr_0 ?_
      first | refine exA (.c (.bool (false))) (as_eq (congrArg (fun v => SV.c (Cell.bool v)) (hs3 _ hb6))) ?_ | (intro cap12 hcap12; refine exA (.c (.bool (false))) (as_eq (congrArg (fun v => SV.c (Cell.bool v)) (hs3 _ hb6))) ?_)
      refine y0r ?_; refine q_nil ?_; apply hK31; apply hK30; refine z08 (b := _) rfl (fun h_t93 => ?_) (fun _ => ?_)
      ·exfalso; first | exact absurd h_t93 (by decide) | (simp at h_t93; done) | cases h_t93
      refine z0c ?_; refine z0b ?_; apply hK29; refine z00 z5d fun _ hK32 => ?_
      iterate 3 refine z2t ?_
      refine s_nil ?_; apply hK32; refine dnS [] id (i + 1) ⟨by omega, by omega⟩ [] ?_ ?_ ?_ ?_
      ·exact uVr_0
      ·exact uVr_0
      ·exact uVr_0
      ·exact uVr_0
     ·skip
      try simp only [dQ, if_true, if_false, reduceIte] at hb6
      iterate 6 refine qN ?_
      refine y0r ?_; refine q_nil ?_; apply hK31; apply hK30; refine z08 (b := _) rfl (fun h_t93 => ?_) (fun _ => ?_)
      ·exfalso; first | exact absurd h_t93 (by decide) | (simp at h_t93; done) | cases h_t93
      refine z0c ?_; refine z0b ?_; apply hK29; refine z00 z5d fun _ hK33 => ?_
      iterate 3 refine z2t ?_
      refine s_nil ?_; apply hK33; refine dnS [] id (i + 1) ⟨by omega, by omega⟩ [] ?_ ?_ ?_ ?_
      ·exact uVr_0
      ·exact uVr_0
      ·exact uVr_0
      ·exact uVr_0
    ·try simp only [dQ, if_true, if_false, reduceIte] at h_t77
     refine z0v ?_; refine z07 ?_; refine z07 ?_; refine z0m ?_; apply hK23; refine seq_k fun _ hK34 => ?_; refine z00 z5d fun _ hK35 => ?_
     iterate 2 refine z2t ?_
     refine z4u ?_; refine ⟨d0, lsB o, rfl, ⟨w0, by omega⟩, ?_⟩; refine DVr_0 ?_
     first | refine exA (.c (.bool (true))) (as_eq (congrArg (fun v => SV.c (Cell.bool v)) (hs1))) ?_ | (intro cap2 hcap2; refine exA (.c (.bool (true))) (as_eq (congrArg (fun v => SV.c (Cell.bool v)) (hs1))) ?_)
     refine z4u ?_; refine exB (fun hb3 => ?_) (fun hb3 => ?_)
     rotate_left 1
     ·exfalso; first | exact absurd hb3 (by decide) | exact hb3 rfl | (simp at hb3; done) | omega
     iterate 5 refine z7a ?_
     refine zd8 ?_; refine exA (.c (.bool (true))) (as_eq (congrArg (fun v => SV.c (Cell.bool v)) (by first | exact decide_eq_true (by omega) | (simp; omega)))) ?_; refine z2t ?_; refine z4u ?_; refine exB (fun hb11 => ?_) (fun hb11 => ?_)
     rotate_left 1
     ·exfalso; first | exact absurd hb11 (by decide) | exact hb11 rfl | (simp at hb11; done) | omega
     refine z7a ?_
     iterate 2 refine z2t ?_
     refine s_nil ?_; apply hK35; apply hK34; refine z0e (z0a z5d (fun _ _ h => h) (by first | rfl | assumption) [.tmp 4] rfl ?_); refine rtD ?_
     rfl


end Go.Proofs.YtppmnaoollkboaaDoor
