/- Numerals: the law of ranges. -/
import Derived.Test.YtppmnaoollkboaaDoorPo
namespace Go.Proofs.YtppmnaoollkboaaDoor
set_option linter.all false
open Go.Ab Go.RowKit

theorem qRv0 {a : Prop} (h : a := by first | exact vcA | (simp <;> omega) | exact ⟨by omega, by omega⟩ | exact ⟨by omega, by omega, by omega⟩ | decide | (show _ < _; decide) | exact vcB) : a := h
theorem qRv1 {a : Prop} (h : a := by first | (simp_all; done) | (have w5 : r.over = 0 := (by omega); simp [w5])) : a := h
theorem uRv_0 {a : Prop} (h : a := by
    repeat' (first | exact pT  | exact trivial | refine aI ?_ ?_ | exact cC0 | refine low_cons' ?_ ?_ | exact cC1 | fail)
    all_goals first | omega | exact z3u _ | exact z1y _ | (simp; done) | (show Cont.u8s _ = _; simp; done)| (show (0 : Nat) < (z07 _ _ _ _).length; rw [z06 hcl]; decide) | (simp [-List.reduceReplicate]; done) | (simp [-List.reduceReplicate] <;> omega) | skip) : a := h
theorem DRv_0 {a b : Prop} (kZ : b) (h : HidB b → a := by intro kZ; (repeat first | refine aI qRv0 ?_ | refine z09 qRv0 ?_ | refine z04 qRv0 ?_ | refine z0h qRv0 ?_ | refine z0c ?_); exact kZ.out) : a := h ⟨kZ⟩
theorem z29 {a b : Prop} (kZ : b) (h : HidB b → a := by intro kZ; refine sX ?_; refine DRv_0 ?_; refine exI ?_; exact kZ.out) : a := h ⟨kZ⟩
theorem sX0Rv_2 {a b : Prop} (kZ : b) (h : HidB b → a := by intro kZ; refine sX0 ?_; refine DRv_0 ?_; refine exI ?_; exact kZ.out) : a := h ⟨kZ⟩
theorem dXRv_3 {a b : Prop} (kZ : b) (h : HidB b → a := by intro kZ; refine dX ?_; refine DRv_0 ?_; refine exI ?_; exact kZ.out) : a := h ⟨kZ⟩
theorem z1s {a b : Prop} (kZ : b) (h : HidB b → a := by intro kZ; refine sXT ?_; refine DRv_0 ?_; refine exI ?_; exact kZ.out) : a := h ⟨kZ⟩
theorem z2a {a b : Prop} (kZ : b) (h : HidB b → a := by intro kZ; refine sX ?_; refine DRv_0 ?_; exact kZ.out) : a := h ⟨kZ⟩
theorem dXERv_6 {a b : Prop} (kZ : b) (h : HidB b → a := by intro kZ; refine dX ?_; refine DRv_0 ?_; exact kZ.out) : a := h ⟨kZ⟩
theorem zvw {a b : Prop} (kZ : b) (h : HidB b → a := by intro kZ; refine gX ?_; refine DRv_0 ?_; exact kZ.out) : a := h ⟨kZ⟩
theorem z26 {a b : Prop} (kZ : b) (h : HidB b → a := by intro kZ; refine sXT ?_; refine DRv_0 ?_; exact kZ.out) : a := h ⟨kZ⟩

open Go.Aut
attribute [local irreducible] z0j z1t zl z07 z0w putB canD
noncomputable def gnr4 : Ctx := { P := Tryd.prog, ty := ty, glob := gl, fs := [(53, .flat z8h), (54, .data zga), (56, .data num9S), (55, .data zg9), (57, .data zi4)] }
theorem z27 : gnr4.OK := ⟨tyOK, ⟨⟨z03 Tryd.func53 (by kernel_rfl) rfl, z6h⟩, ⟨z03 Tryd.func54 (by kernel_rfl) rfl, zac⟩, ⟨z03 Tryd.func56 (by kernel_rfl) rfl, zhs⟩, ⟨z03 Tryd.func55 (by kernel_rfl) rfl, zab⟩, ⟨z03 Tryd.func57 (by kernel_rfl) rfl, zf3⟩, trivial⟩, mixed⟩
@[simp] theorem gnr4_ty : gnr4.ty = ty := rfl

def zvx : QSpec := fun vs K => ∃ (a b : UInt8) (n : Int) (l : List UInt8), vs = [.agg (.u8s [a, b]), .c (.ds l.length (.u8s l)), .c (.int .i64 n)] ∧ l.length ≤ 9223372036854775807 ∧ K (.c (.bool true))
set_option maxHeartbeats 1000000 in
set_option maxRecDepth 4000 in
theorem zms : z1k Tryd.prog gl 12 zvx := by
 refine z1l (Γ := gnr4) (N := 92) Tryd.func12 rfl rfl fun vs K h => ?_; obtain ⟨a, b, n, l, rfl, hl, h⟩ := h; refine ⟨_, h, rfl, by simp, fun w I => ?_⟩; refine srR z27 fun _ hK2 => ?_
 iterate 2 refine z29 ?_
 refine s_nil ?_; apply hK2; refine srR z27 fun _ hK4 => ?_
 iterate 2 refine z29 ?_
 refine s_nil ?_; apply hK4; refine seq_k fun _ hK5 => ?_; refine srR z27 fun _ hK7 => ?_
 iterate 3 refine z29 ?_
 refine s_nil ?_; apply hK7; refine z02 (b := _) rfl (fun h_t18 => ?_) (fun h_t18 => ?_)
 ·try simp only [dQ, if_true, if_false, reduceIte] at h_t18
  refine srR z27 fun _ hK9 => ?_
  iterate 2 refine z29 ?_
  refine s_nil ?_; apply hK9; refine z0d (z08 z27 (fun _ _ h => h) (by first | rfl | assumption) [.tmp 6] rfl ?_); refine rtD ?_
  rfl
 ·try simp only [dQ, if_true, if_false, reduceIte] at h_t18
  refine z0a ?_; apply hK5; obtain ⟨r, hr9⟩ : ∃ r, made9 a b = r := ⟨_, rfl⟩
  have hr : r.ok := hr9 ▸ z58 a b
  have ht1 := hr.t1
  have ht2 := hr.t2
  have hd1 := hr.d1
  have hd2 := hr.d2
  refine srR z27 fun _ hK11 => ?_; refine z29 ?_; refine z2a ?_; refine ⟨a, b, rfl, ?_⟩; rw [hr9]; refine DRv_0 ?_
  first | refine exI ?_ | (intro cap1 hcap1; refine exI ?_)
  refine z29 ?_; refine sX0Rv_2 ?_; refine s_nil ?_; apply hK11; refine srD z27 [(0, true), (1, true), (2, true), (3, true), (4, false), (5, false), (6, true), (7, true), (8, true), (9, true), (10, true)] rfl (by kernel_rfl) (by kernel_rfl) fun _ hK13 => ?_; refine dXERv_6 ?_; refine exA (rulV r) (SV.as_refl _) ?_
  iterate 3 refine dXRv_3 ?_
  refine zvw ?_; refine ⟨r.base, l, rfl, by omega, ?_⟩; obtain ⟨t, ht⟩ : ∃ t, t = numF r.base l 9 := ⟨_, rfl⟩
  have htl : t.length ≤ 9 := by rw [ht, z3g]; omega
  rw [← ht]; refine DRv_0 ?_
  first | refine exI ?_ | (intro cap4 hcap4; refine exI ?_)
  refine zvw ?_; refine ⟨r, t, rfl, by omega, ?_⟩; refine DRv_0 ?_
  first | refine exI ?_ | (intro cap5 hcap5; refine exI ?_)
  iterate 5 refine dXRv_3 ?_
  refine d_nil ?_; apply hK13
  have hrg := zqe hr t
  refine z2o (α := Unit) (fun _ => [(2, .c (.int .i64 n)), (7, .c (.bool true)), (8, .c (.dp (rulC r) 0))]) (fun _ => []) 0 (fun _ => True) ?_ ?_
  ·refine srR z27 fun _ hK15 => ?_
   refine z29 ?_; refine z2a ?_; refine exB (fun hb1 => ?_) (fun hb1 => ?_)
   ·try simp only [dQ, if_true, if_false, reduceIte] at hb1
    obtain ⟨v1, v2⟩ := hrg hb1; refine z1s ?_; refine z26 ?_; refine exA (.c (.bool (false))) (as_eq (congrArg (fun v => SV.c (Cell.bool v)) (decide_eq_false (by omega)))) ?_; refine z26 ?_; refine exB (fun hb4 => ?_) (fun hb4 => ?_)
    ·exfalso; first | exact absurd hb4 (by decide) | exact hb4 rfl | (simp at hb4; done) | omega
    iterate 3 refine z1s ?_
    refine z26 ?_; refine exA (.c (.bool (false))) (as_eq (congrArg (fun v => SV.c (Cell.bool v)) (decide_eq_false (by omega)))) ?_; refine z1s ?_; refine z29 ?_; refine s_nil ?_; apply hK15; refine z02 (b := _) rfl (fun h_t41 => ?_) (fun _ => ?_)
    ·exfalso; first | (simp at h_t41; done) | cases h_t41
    refine z0a ?_; refine dnS [1] id () trivial [] uRv_0 uRv_0 uRv_0 uRv_0
   ·try simp only [dQ, if_true, if_false, reduceIte] at hb1
    iterate 3 refine sN ?_
    iterate 4 refine sU ?_
    refine sN ?_; refine z29 ?_; refine s_nil ?_; apply hK15; refine z02 (b := _) rfl (fun h_t41 => ?_) (fun _ => ?_)
    ·exfalso; first | (simp at h_t41; done) | cases h_t41
    refine z0a ?_; refine dnS [1] id () trivial [] uRv_0 uRv_0 uRv_0 uRv_0
  ·intro u hu
   clear hu; refine srR z27 fun _ hK17 => ?_
   iterate 3 refine z29 ?_
   refine s_nil ?_; apply hK17; refine z2o (α := Int) (fun m => [(7, .c (.bool true)), (8, .c (.dp (rulC r) 0)), (11, .c (.int .i64 m))]) (fun m => []) 0 (fun m => 0 ≤ m ∧ m ≤ r.top) ?_ ?_
   ·refine srR z27 fun _ hK19 => ?_
    iterate 2 refine z29 ?_
    refine z2a ?_; refine exB (fun hb2 => ?_) (fun hb2 => ?_)
    ·try simp only [dQ, if_true, if_false, reduceIte] at hb2
     iterate 4 refine z1s ?_
     refine z29 ?_; refine s_nil ?_; apply hK19; refine z02 (b := _) rfl (fun h_t51 => ?_) (fun h_t51 => ?_)
     ·try simp only [dQ, if_true, if_false, reduceIte] at h_t51
      refine z01 z27 fun _ hK20 => ?_
      iterate 2 refine z29 ?_
      refine s_nil ?_; apply hK20; refine dnS [] id n ⟨by omega, by omega⟩ [] uRv_0 uRv_0 uRv_0 uRv_0
     ·try simp only [dQ, if_true, if_false, reduceIte] at h_t51
      refine z0a ?_; refine dnS [] id r.top ⟨by omega, by omega⟩ [] uRv_0 uRv_0 uRv_0 uRv_0
    ·try simp only [dQ, if_true, if_false, reduceIte] at hb2
     iterate 4 refine sN ?_
     refine z29 ?_; refine s_nil ?_; apply hK19; refine z02 (b := _) rfl (fun h_t51 => ?_) (fun _ => ?_)
     ·exfalso; simp at h_t51
     refine z0a ?_; refine dnS [] id r.top ⟨by omega, by omega⟩ [] uRv_0 uRv_0 uRv_0 uRv_0
   ·intro m hm
    refine srR z27 fun _ hK22 => ?_; refine z2a ?_; refine exA (rulV r) (SV.as_refl _) ?_; refine z29 ?_; refine z2a ?_; refine ⟨r, m, rfl, ?_⟩; obtain ⟨o, ho⟩ : ∃ o, o = z6g r m := ⟨_, rfl⟩; rw [← ho]; refine DRv_0 ?_
    first | refine exI ?_ | (intro cap2 hcap2; refine exI ?_)
    iterate 5 refine z29 ?_
    refine s_nil ?_; apply hK22
    have hlaw : o.isSome = false → ¬ m < r.base ∧ ¬ 1 < r.digits ∧ r.over ≠ 2 ∧ (m < r.top ∨ r.over = 0) := fun e => zvo hr hm.1 hm.2 (ho ▸ e)
    skip
    refine srR z27 fun _ hK24 => ?_
    iterate 4 refine z29 ?_
    refine z2a ?_; refine exB (fun hb4 => ?_) (fun hb4 => ?_)
    ·try simp only [dQ, if_true, if_false, reduceIte] at hb4
     iterate 3 refine sN ?_
     iterate 2 refine z29 ?_
     refine s_nil ?_; apply hK24; refine srR z27 fun _ hK26 => ?_; refine z29 ?_; refine z2a ?_; refine exB (fun hb1 => ?_) (fun hb1 => ?_)
     ·try simp only [dQ, if_true, if_false, reduceIte] at hb1
      iterate 3 refine sN ?_
      iterate 3 refine sU ?_
      iterate 2 refine sN ?_
      iterate 9 refine sU ?_
      refine sN ?_; refine z2a ?_; refine exA (.c (.bool (true))) (as_eq (congrArg (fun v => SV.c (Cell.bool v)) (by simp_all))) ?_; refine z2a ?_; refine exB (fun hb21 => ?_) (fun hb21 => ?_)
      rotate_left 1
      ·exfalso; first | exact absurd hb21 (by decide) | exact hb21 rfl | (simp at hb21; done) | omega
      refine z1s ?_
      iterate 2 refine z29 ?_
      refine s_nil ?_; apply hK26; refine z0d (z08 z27 (fun _ _ h => h) (by first | rfl | assumption) [.tmp 6] rfl ?_); refine rtD ?_
      rfl
     ·try simp only [dQ, if_true, if_false, reduceIte] at hb1
      obtain ⟨w1, w2, w3, w4⟩ := hlaw hb1; refine z1s ?_; refine z26 ?_; refine exA (.c (.bool (true))) (as_eq (congrArg (fun v => SV.c (Cell.bool v)) (by simp_all))) ?_; refine z26 ?_; refine exB (fun hb4 => ?_) (fun hb4 => ?_)
      rotate_left 1
      ·exfalso; first | exact absurd hb4 (by decide) | exact hb4 rfl | (simp at hb4; done) | omega
      iterate 2 refine z1s ?_
      refine z26 ?_; refine exA (.c (.bool (true))) (as_eq (congrArg (fun v => SV.c (Cell.bool v)) (by simp [w3]))) ?_; refine z1s ?_; refine z26 ?_; refine exB (fun hb9 => ?_) (fun hb9 => ?_)
      rotate_left 1
      ·exfalso; first | exact absurd hb9 (by decide) | exact hb9 rfl | (simp at hb9; done) | omega
      iterate 4 refine z1s ?_
      refine z26 ?_; refine exB (fun hb14 => ?_) (fun hb14 => ?_)
      ·try simp only [dQ, if_true, if_false, reduceIte] at hb14
       iterate 3 refine sN ?_
       refine z26 ?_; refine exA (.c (.bool (true))) (as_eq (congrArg (fun v => SV.c (Cell.bool v)) qRv1)) ?_; refine z1s ?_; refine z2a ?_; refine exA (.c (.bool (true))) (as_eq (congrArg (fun v => SV.c (Cell.bool v)) (by simp_all))) ?_; refine z2a ?_; refine exB (fun hb21 => ?_) (fun hb21 => ?_)
       rotate_left 1
       ·exfalso; first | exact absurd hb21 (by decide) | exact hb21 rfl | (simp at hb21; done) | omega
       refine z1s ?_
       iterate 2 refine z29 ?_
       refine s_nil ?_; apply hK26; refine z0d (z08 z27 (fun _ _ h => h) (by first | rfl | assumption) [.tmp 6] rfl ?_); refine rtD ?_
       rfl
      ·try simp only [dQ, if_true, if_false, reduceIte] at hb14
       iterate 3 refine z1s ?_
       refine z26 ?_; refine exA (.c (.bool (true))) (as_eq (congrArg (fun v => SV.c (Cell.bool v)) qRv1)) ?_; refine z1s ?_; refine z2a ?_; refine exA (.c (.bool (true))) (as_eq (congrArg (fun v => SV.c (Cell.bool v)) (by simp_all))) ?_; refine z2a ?_; refine exB (fun hb21 => ?_) (fun hb21 => ?_)
       rotate_left 1
       ·exfalso; first | exact absurd hb21 (by decide) | exact hb21 rfl | (simp at hb21; done) | omega
       refine z1s ?_
       iterate 2 refine z29 ?_
       refine s_nil ?_; apply hK26; refine z0d (z08 z27 (fun _ _ h => h) (by first | rfl | assumption) [.tmp 6] rfl ?_); refine rtD ?_
       rfl
    ·try simp only [dQ, if_true, if_false, reduceIte] at hb4
     iterate 3 refine z1s ?_
     iterate 2 refine z29 ?_
     refine s_nil ?_; apply hK24; refine srR z27 fun _ hK28 => ?_; refine z29 ?_; refine z2a ?_; refine exB (fun hb1 => ?_) (fun hb1 => ?_)
     ·try simp only [dQ, if_true, if_false, reduceIte] at hb1
      iterate 3 refine sN ?_
      iterate 3 refine sU ?_
      iterate 2 refine sN ?_
      iterate 9 refine sU ?_
      refine sN ?_; refine z2a ?_; refine exA (.c (.bool (true))) (as_eq (congrArg (fun v => SV.c (Cell.bool v)) (by simp_all))) ?_; refine z2a ?_; refine exB (fun hb21 => ?_) (fun hb21 => ?_)
      rotate_left 1
      ·exfalso; first | exact absurd hb21 (by decide) | exact hb21 rfl | (simp at hb21; done) | omega
      refine z1s ?_
      iterate 2 refine z29 ?_
      refine s_nil ?_; apply hK28; refine z0d (z08 z27 (fun _ _ h => h) (by first | rfl | assumption) [.tmp 6] rfl ?_); refine rtD ?_
      rfl
     ·try simp only [dQ, if_true, if_false, reduceIte] at hb1
      obtain ⟨w1, w2, w3, w4⟩ := hlaw hb1; refine z1s ?_; refine z26 ?_; refine exA (.c (.bool (true))) (as_eq (congrArg (fun v => SV.c (Cell.bool v)) (by simp_all))) ?_; refine z26 ?_; refine exB (fun hb4 => ?_) (fun hb4 => ?_)
      rotate_left 1
      ·exfalso; first | exact absurd hb4 (by decide) | exact hb4 rfl | (simp at hb4; done) | omega
      iterate 2 refine z1s ?_
      refine z26 ?_; refine exA (.c (.bool (true))) (as_eq (congrArg (fun v => SV.c (Cell.bool v)) (by simp [w3]))) ?_; refine z1s ?_; refine z26 ?_; refine exB (fun hb9 => ?_) (fun hb9 => ?_)
      rotate_left 1
      ·exfalso; first | exact absurd hb9 (by decide) | exact hb9 rfl | (simp at hb9; done) | omega
      iterate 4 refine z1s ?_
      refine z26 ?_; refine exB (fun hb14 => ?_) (fun hb14 => ?_)
      ·try simp only [dQ, if_true, if_false, reduceIte] at hb14
       iterate 3 refine sN ?_
       refine z26 ?_; refine exA (.c (.bool (true))) (as_eq (congrArg (fun v => SV.c (Cell.bool v)) qRv1)) ?_; refine z1s ?_; refine z2a ?_; refine exA (.c (.bool (true))) (as_eq (congrArg (fun v => SV.c (Cell.bool v)) (by simp_all))) ?_; refine z2a ?_; refine exB (fun hb21 => ?_) (fun hb21 => ?_)
       rotate_left 1
       ·exfalso; first | exact absurd hb21 (by decide) | exact hb21 rfl | (simp at hb21; done) | omega
       refine z1s ?_
       iterate 2 refine z29 ?_
       refine s_nil ?_; apply hK28; refine z0d (z08 z27 (fun _ _ h => h) (by first | rfl | assumption) [.tmp 6] rfl ?_); refine rtD ?_
       rfl
      ·try simp only [dQ, if_true, if_false, reduceIte] at hb14
       iterate 3 refine z1s ?_
       refine z26 ?_; refine exA (.c (.bool (true))) (as_eq (congrArg (fun v => SV.c (Cell.bool v)) qRv1)) ?_; refine z1s ?_; refine z2a ?_; refine exA (.c (.bool (true))) (as_eq (congrArg (fun v => SV.c (Cell.bool v)) (by simp_all))) ?_; refine z2a ?_; refine exB (fun hb21 => ?_) (fun hb21 => ?_)
       rotate_left 1
       ·exfalso; first | exact absurd hb21 (by decide) | exact hb21 rfl | (simp at hb21; done) | omega
       refine z1s ?_
       iterate 2 refine z29 ?_
       refine s_nil ?_; apply hK28; refine z0d (z08 z27 (fun _ _ h => h) (by first | rfl | assumption) [.tmp 6] rfl ?_); refine rtD ?_
       rfl


end Go.Proofs.YtppmnaoollkboaaDoor
