/- Numerals: the law of round trips. -/
import Derived.Test.YtppmnaoollkboaaDoorPo
namespace Go.Proofs.YtppmnaoollkboaaDoor
set_option linter.all false
open Go.Ab Go.RowKit

theorem qRt0 {a : Prop} (h : a := by first | exact vcA | (simp <;> omega) | exact ⟨by omega, by omega⟩ | exact ⟨by omega, by omega, by omega⟩ | decide | (show _ < _; decide) | exact vcB) : a := h
theorem DRt_0 {a b : Prop} (kZ : b) (h : HidB b → a := by intro kZ; (repeat first | refine aI qRt0 ?_ | refine z09 qRt0 ?_ | refine z04 qRt0 ?_ | refine z0h qRt0 ?_ | refine z0c ?_); exact kZ.out) : a := h ⟨kZ⟩
theorem z25 {a b : Prop} (kZ : b) (h : HidB b → a := by intro kZ; refine sX ?_; refine DRt_0 ?_; refine exI ?_; exact kZ.out) : a := h ⟨kZ⟩
theorem sX0Rt_2 {a b : Prop} (kZ : b) (h : HidB b → a := by intro kZ; refine sX0 ?_; refine DRt_0 ?_; refine exI ?_; exact kZ.out) : a := h ⟨kZ⟩
theorem z34 {a b : Prop} (kZ : b) (h : HidB b → a := by intro kZ; refine sXT ?_; refine DRt_0 ?_; refine exI ?_; exact kZ.out) : a := h ⟨kZ⟩
theorem z28 {a b : Prop} (kZ : b) (h : HidB b → a := by intro kZ; refine sX ?_; refine DRt_0 ?_; exact kZ.out) : a := h ⟨kZ⟩
theorem z4f {a b : Prop} (kZ : b) (h : HidB b → a := by intro kZ; refine sXT ?_; refine DRt_0 ?_; exact kZ.out) : a := h ⟨kZ⟩

open Go.Aut
attribute [local irreducible] z0j z1t zl z07 z0w putB canD
theorem zvu {r : Rul} (hr : r.ok) {P : Int × Bool → Bool} {w : List Nat} (h : z1v (langN r P) = some w) : (lsB (some w)).length ≤ 64 := by
  have hg := z5r hr P
  have h1 : z1v (langD (canD (langN r P))) = some w := (z5k hg.2).trans h
  have h2 := zly hg.1.1 (ze1 h1)
  have h3 := hg.1.2
  rw [lsB_len]; omega
noncomputable def gnr2 : Ctx := { P := Tryd.prog, ty := ty, glob := gl, fs := [(53, .flat z8h), (54, .data zga), (57, .data zi4), (56, .data num9S), (55, .data zg9), (35, .flat lessRS)] }
theorem z35 : gnr2.OK := ⟨tyOK, ⟨⟨z03 Tryd.func53 (by kernel_rfl) rfl, z6h⟩, ⟨z03 Tryd.func54 (by kernel_rfl) rfl, zac⟩, ⟨z03 Tryd.func57 (by kernel_rfl) rfl, zf3⟩, ⟨z03 Tryd.func56 (by kernel_rfl) rfl, zhs⟩, ⟨z03 Tryd.func55 (by kernel_rfl) rfl, zab⟩, ⟨z03 Tryd.func35 (by kernel_rfl) rfl, lessR_ok⟩, trivial⟩, mixed⟩
@[simp] theorem gnr2_ty : gnr2.ty = ty := rfl

def zib : QSpec := fun vs K => ∃ (a b n : UInt8) (l : List UInt8), vs = [.agg (.u8s [a, b]), .c (.u8 n), .c (.ds l.length (.u8s l))] ∧ l.length ≤ 9223372036854775807 ∧ K (.c (.bool true))
set_option maxHeartbeats 1000000 in
set_option maxRecDepth 4000 in
theorem zf5 : z1k Tryd.prog gl 13 zib := by
 refine z1l (Γ := gnr2) (N := 88) Tryd.func13 rfl rfl fun vs K h => ?_; obtain ⟨a, b, n, l, rfl, hl, h⟩ := h; refine ⟨_, h, rfl, by simp, fun w I => ?_⟩; refine srR z35 fun _ hK2 => ?_
 iterate 2 refine z25 ?_
 refine s_nil ?_; apply hK2; refine srR z35 fun _ hK4 => ?_
 iterate 2 refine z25 ?_
 refine s_nil ?_; apply hK4; obtain ⟨r, hr9⟩ : ∃ r, made9 a b = r := ⟨_, rfl⟩
 have hr : r.ok := hr9 ▸ z58 a b
 have ht1 := hr.t1
 have ht2 := hr.t2
 have hd1 := hr.d1
 have hd2 := hr.d2
 have hn9 := n.toNat_lt
 have hm := zmp hr n
 refine srR z35 fun _ hK6 => ?_; refine z25 ?_; refine z28 ?_; refine ⟨a, b, rfl, ?_⟩; rw [hr9]; refine DRt_0 ?_
 first | refine exI ?_ | (intro cap1 hcap1; refine exI ?_)
 refine z25 ?_; refine sX0Rt_2 ?_; refine s_nil ?_; apply hK6; refine srR z35 fun _ hK8 => ?_
 iterate 7 refine z25 ?_
 refine s_nil ?_; apply hK8; refine srR z35 fun _ hK10 => ?_; refine z28 ?_; refine exA (rulV r) (SV.as_refl _) ?_; refine z25 ?_; refine z28 ?_; refine ⟨r, ((n.toNat : Int) % (r.top + 1)), rfl, ?_⟩; rw [zos hr hm.1 hm.2]; obtain ⟨o, ho⟩ : ∃ o, o = (z1v (langN r (Pn ((n.toNat : Int) % (r.top + 1))))) := ⟨_, rfl⟩; rw [← ho]; refine DRt_0 ?_
 first | refine exI ?_ | (intro cap2 hcap2; refine exI ?_)
 iterate 5 refine z25 ?_
 refine s_nil ?_; apply hK10; refine srR z35 fun _ hK12 => ?_
 iterate 3 refine z25 ?_
 refine z28 ?_; refine ⟨r.base, l, rfl, hl, ?_⟩; obtain ⟨t, ht⟩ : ∃ t, t = (numF r.base l 9) := ⟨_, rfl⟩
 have htl : t.length ≤ 9 := by rw [ht, z3g]; omega
 rw [← ht]; refine DRt_0 ?_
 first | refine exI ?_ | (intro cap3 hcap3; refine exI ?_)
 refine z25 ?_; refine s_nil ?_; apply hK12; refine srR z35 fun _ hK14 => ?_; refine z28 ?_; refine exA (rulV r) (SV.as_refl _) ?_; refine z25 ?_; refine z28 ?_; refine ⟨r, t, rfl, by omega, ?_⟩; refine DRt_0 ?_
 first | refine exI ?_ | (intro cap2 hcap2; refine exI ?_)
 iterate 5 refine z25 ?_
 refine s_nil ?_; apply hK14; refine seq_k fun _ hK15 => ?_; refine srR z35 fun _ hK17 => ?_
 iterate 2 refine z25 ?_
 refine s_nil ?_; apply hK17; refine z02 (b := _) rfl (fun h_t43 => ?_) (fun h_t43 => ?_)
 ·try simp only [dQ, if_true, if_false, reduceIte] at h_t43
  obtain rfl : o = none := by
   cases o
   ·rfl
   ·simp at h_t43
  have hno9 := zc8 hr ho.symm t
  have hno : (readN r t).2 = true → ¬ (readN r t).1 = ((n.toNat : Int) % (r.top + 1)) := fun e1 e2 => hno9 (Prod.ext e2 e1)
  refine srR z35 fun _ hK19 => ?_; refine z25 ?_; refine z28 ?_; refine exB (fun hb1 => ?_) (fun hb1 => ?_)
  ·try simp only [dQ, if_true, if_false, reduceIte] at hb1
   iterate 3 refine z34 ?_
   refine z25 ?_; refine z28 ?_; refine exA (.c (.bool (true))) (as_eq (congrArg (fun v => SV.c (Cell.bool v)) (by by_cases e9 : (readN r t).1 = ((n.toNat : Int) % (r.top + 1)) <;> simp_all))) ?_; refine z28 ?_; refine exB (fun hb7 => ?_) (fun hb7 => ?_)
   rotate_left 1
   ·exfalso; first | exact absurd hb7 (by decide) | exact hb7 rfl | (simp at hb7; done) | omega
   iterate 2 refine z34 ?_
   refine z4f ?_; refine exA (.c (.bool (true))) (as_eq (congrArg (fun v => SV.c (Cell.bool v)) (rfl))) ?_; refine z25 ?_; refine z28 ?_; refine exB (fun hb12 => ?_) (fun hb12 => ?_)
   rotate_left 1
   ·exfalso; first | exact absurd hb12 (by decide) | exact hb12 rfl | (simp at hb12; done) | omega
   refine z34 ?_
   iterate 2 refine z25 ?_
   refine s_nil ?_; apply hK19; refine z0d (z08 z35 (fun _ _ h => h) (by first | rfl | assumption) [.tmp 6] rfl ?_); refine rtD ?_
   rfl
  ·try simp only [dQ, if_true, if_false, reduceIte] at hb1
   iterate 3 refine sN ?_
   refine z25 ?_; refine z28 ?_; refine exA (.c (.bool (true))) (as_eq (congrArg (fun v => SV.c (Cell.bool v)) (by by_cases e9 : (readN r t).1 = ((n.toNat : Int) % (r.top + 1)) <;> simp_all))) ?_; refine z28 ?_; refine exB (fun hb7 => ?_) (fun hb7 => ?_)
   rotate_left 1
   ·exfalso; first | exact absurd hb7 (by decide) | exact hb7 rfl | (simp at hb7; done) | omega
   iterate 2 refine z34 ?_
   refine z4f ?_; refine exA (.c (.bool (true))) (as_eq (congrArg (fun v => SV.c (Cell.bool v)) (rfl))) ?_; refine z25 ?_; refine z28 ?_; refine exB (fun hb12 => ?_) (fun hb12 => ?_)
   rotate_left 1
   ·exfalso; first | exact absurd hb12 (by decide) | exact hb12 rfl | (simp at hb12; done) | omega
   refine z34 ?_
   iterate 2 refine z25 ?_
   refine s_nil ?_; apply hK19; refine z0d (z08 z35 (fun _ _ h => h) (by first | rfl | assumption) [.tmp 6] rfl ?_); refine rtD ?_
   rfl
 ·try simp only [dQ, if_true, if_false, reduceIte] at h_t43
  refine z0a ?_; apply hK15
  obtain ⟨w, rfl⟩ : ∃ w, o = some w := by
   cases o
   ·simp at h_t43
   ·exact ⟨_, rfl⟩
  obtain ⟨f1, f2, f3⟩ := zkn hr ho.symm
  have hwl := zvu hr ho.symm
  refine srR z35 fun _ hK21 => ?_; refine z28 ?_; refine exA (rulV r) (SV.as_refl _) ?_; refine z25 ?_; refine z28 ?_; refine ⟨r, (lsB (some w)), rfl, by omega, ?_⟩; rw [f1]; refine DRt_0 ?_
  first | refine exI ?_ | (intro cap2 hcap2; refine exI ?_)
  iterate 5 refine z25 ?_
  refine s_nil ?_; apply hK21; refine srR z35 fun _ hK23 => ?_; refine z25 ?_; refine z28 ?_; refine exB (fun hb1 => ?_) (fun hb1 => ?_)
  rotate_left 1
  ·exfalso; first | exact absurd hb1 (by decide) | exact hb1 rfl | (simp at hb1; done) | omega
  iterate 2 refine z34 ?_
  refine z4f ?_; refine exA (.c (.bool (true))) (as_eq (congrArg (fun v => SV.c (Cell.bool v)) (decide_eq_true rfl))) ?_; refine z25 ?_; refine z28 ?_; refine exB (fun hb6 => ?_) (fun hb6 => ?_)
  rotate_left 1
  ·exfalso; first | exact absurd hb6 (by decide) | exact hb6 rfl | (simp at hb6; done) | omega
  refine z34 ?_; refine z4f ?_; refine exB (fun hb8 => ?_) (fun hb8 => ?_)
  ·try simp only [dQ, if_true, if_false, reduceIte] at hb8
   iterate 4 refine z34 ?_
   refine z4f ?_; refine exB (fun hb13 => ?_) (fun hb13 => ?_)
   ·try simp only [dQ, if_true, if_false, reduceIte] at hb13
    iterate 2 refine z34 ?_
    refine z4f ?_; refine ⟨t, (lsB (some w)), rfl, ⟨by omega, by omega⟩, ?_⟩; refine DRt_0 ?_
    first | refine exA (.c (.bool (false))) (as_eq (congrArg (fun v => SV.c (Cell.bool v)) (f3 t (Prod.ext hb13 hb8)))) ?_ | (intro cap16 hcap16; refine exA (.c (.bool (false))) (as_eq (congrArg (fun v => SV.c (Cell.bool v)) (f3 t (Prod.ext hb13 hb8)))) ?_)
    refine z34 ?_; refine z4f ?_; refine exA (.c (.bool (true))) (as_eq (congrArg (fun v => SV.c (Cell.bool v)) (by simp_all))) ?_; refine z25 ?_; refine z28 ?_; refine exB (fun hb20 => ?_) (fun hb20 => ?_)
    rotate_left 1
    ·exfalso; first | exact absurd hb20 (by decide) | exact hb20 rfl | (simp at hb20; done) | omega
    refine z34 ?_
    iterate 2 refine z25 ?_
    refine s_nil ?_; apply hK23; refine z0d (z08 z35 (fun _ _ h => h) (by first | rfl | assumption) [.tmp 6] rfl ?_); refine rtD ?_
    rfl
   ·try simp only [dQ, if_true, if_false, reduceIte] at hb13
    iterate 3 refine sN ?_
    refine z34 ?_; refine z4f ?_; refine exA (.c (.bool (true))) (as_eq (congrArg (fun v => SV.c (Cell.bool v)) (by simp_all))) ?_; refine z25 ?_; refine z28 ?_; refine exB (fun hb20 => ?_) (fun hb20 => ?_)
    rotate_left 1
    ·exfalso; first | exact absurd hb20 (by decide) | exact hb20 rfl | (simp at hb20; done) | omega
    refine z34 ?_
    iterate 2 refine z25 ?_
    refine s_nil ?_; apply hK23; refine z0d (z08 z35 (fun _ _ h => h) (by first | rfl | assumption) [.tmp 6] rfl ?_); refine rtD ?_
    rfl
  ·try simp only [dQ, if_true, if_false, reduceIte] at hb8
   iterate 3 refine sN ?_
   refine z34 ?_; refine z4f ?_; refine exB (fun hb13 => ?_) (fun hb13 => ?_)
   ·exfalso; simp at hb13
   iterate 3 refine sN ?_
   refine z34 ?_; refine z4f ?_; refine exA (.c (.bool (true))) (as_eq (congrArg (fun v => SV.c (Cell.bool v)) (by simp_all))) ?_; refine z25 ?_; refine z28 ?_; refine exB (fun hb20 => ?_) (fun hb20 => ?_)
   rotate_left 1
   ·exfalso; first | exact absurd hb20 (by decide) | exact hb20 rfl | (simp at hb20; done) | omega
   refine z34 ?_
   iterate 2 refine z25 ?_
   refine s_nil ?_; apply hK23; refine z0d (z08 z35 (fun _ _ h => h) (by first | rfl | assumption) [.tmp 6] rfl ?_); refine rtD ?_
   rfl


end Go.Proofs.YtppmnaoollkboaaDoor
