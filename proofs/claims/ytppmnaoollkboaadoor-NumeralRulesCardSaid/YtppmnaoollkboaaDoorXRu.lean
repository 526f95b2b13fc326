/- Numerals: the law of rules. -/
import Derived.Test.YtppmnaoollkboaaDoorPo
namespace Go.Proofs.YtppmnaoollkboaaDoor
set_option linter.all false
open Go.Ab Go.RowKit

theorem qRu0 {a : Prop} (h : a := by first | exact vcA | (simp <;> omega) | exact ⟨by omega, by omega⟩ | exact ⟨by omega, by omega, by omega⟩ | decide | (show _ < _; decide) | exact vcB) : a := h
theorem uRu_0 {a : Prop} (h : a := by
    repeat' (first | exact pT  | exact trivial | refine aI ?_ ?_ | exact cC0 | refine low_cons' ?_ ?_ | exact cC1 | fail)
    all_goals first | omega | exact z3u _ | exact z1y _ | (simp; done) | (show Cont.u8s _ = _; simp; done)| (show (0 : Nat) < (z07 _ _ _ _).length; rw [z06 hcl]; decide) | (simp [-List.reduceReplicate]; done) | (simp [-List.reduceReplicate] <;> omega) | skip) : a := h
theorem DRu_0 {a b : Prop} (kZ : b) (h : HidB b → a := by intro kZ; (repeat first | refine aI qRu0 ?_ | refine z09 qRu0 ?_ | refine z04 qRu0 ?_ | refine z0h qRu0 ?_ | refine z0c ?_); exact kZ.out) : a := h ⟨kZ⟩
theorem z16 {a b : Prop} (kZ : b) (h : HidB b → a := by intro kZ; refine sX ?_; refine DRu_0 ?_; refine exI ?_; exact kZ.out) : a := h ⟨kZ⟩
theorem zf6 {a b : Prop} (kZ : b) (h : HidB b → a := by intro kZ; refine sX0 ?_; refine DRu_0 ?_; refine exI ?_; exact kZ.out) : a := h ⟨kZ⟩
theorem z4c {a b : Prop} (kZ : b) (h : HidB b → a := by intro kZ; refine sXT ?_; refine DRu_0 ?_; refine exI ?_; exact kZ.out) : a := h ⟨kZ⟩
theorem z1z {a b : Prop} (kZ : b) (h : HidB b → a := by intro kZ; refine sX ?_; refine DRu_0 ?_; exact kZ.out) : a := h ⟨kZ⟩
theorem z4v {a b : Prop} (kZ : b) (h : HidB b → a := by intro kZ; refine sXT ?_; refine DRu_0 ?_; exact kZ.out) : a := h ⟨kZ⟩

open Go.Aut
attribute [local irreducible] z0j z1t zl z07 z0w putB canD
noncomputable def gnr3 : Ctx := { P := Tryd.prog, ty := ty, glob := gl, fs := [(53, .flat z8h), (54, .data zga), (56, .data num9S), (55, .data zg9)] }
theorem z1b : gnr3.OK := ⟨tyOK, ⟨⟨z03 Tryd.func53 (by kernel_rfl) rfl, z6h⟩, ⟨z03 Tryd.func54 (by kernel_rfl) rfl, zac⟩, ⟨z03 Tryd.func56 (by kernel_rfl) rfl, zhs⟩, ⟨z03 Tryd.func55 (by kernel_rfl) rfl, zab⟩, trivial⟩, mixed⟩
@[simp] theorem gnr3_ty : gnr3.ty = ty := rfl

def zvv : QSpec := fun vs K => ∃ (a b : UInt8) (l : List UInt8), vs = [.agg (.u8s [a, b]), .c (.ds l.length (.u8s l))] ∧ l.length ≤ 9223372036854775807 ∧ K (.c (.bool true))
set_option maxHeartbeats 1000000 in
set_option maxRecDepth 4000 in
theorem zmr : z1k Tryd.prog gl 14 zvv := by
 refine z1l (Γ := gnr3) (N := 98) Tryd.func14 rfl rfl fun vs K h => ?_; obtain ⟨a, b, l, rfl, hl, h⟩ := h; refine ⟨_, h, rfl, by simp, fun w I => ?_⟩; refine srR z1b fun _ hK2 => ?_
 iterate 2 refine z16 ?_
 refine s_nil ?_; apply hK2; refine srR z1b fun _ hK4 => ?_
 iterate 2 refine z16 ?_
 refine s_nil ?_; apply hK4; obtain ⟨r, hr9⟩ : ∃ r, made9 a b = r := ⟨_, rfl⟩
 have hr : r.ok := hr9 ▸ z58 a b
 have ht1 := hr.t1
 have ht2 := hr.t2
 have hd1 := hr.d1
 have hd2 := hr.d2
 refine srR z1b fun _ hK6 => ?_; refine z16 ?_; refine z1z ?_; refine ⟨a, b, rfl, ?_⟩; rw [hr9]; refine DRu_0 ?_
 first | refine exI ?_ | (intro cap1 hcap1; refine exI ?_)
 refine z16 ?_; refine zf6 ?_; refine s_nil ?_; apply hK6; refine srR z1b fun _ hK8 => ?_
 iterate 3 refine z16 ?_
 refine z1z ?_; refine ⟨r.base, l, rfl, hl, ?_⟩; obtain ⟨t, ht⟩ : ∃ t, t = numF r.base l 9 := ⟨_, rfl⟩
 have htl : t.length ≤ 9 := by rw [ht, z3g]; omega
 rw [← ht]; refine DRu_0 ?_
 first | refine exI ?_ | (intro cap3 hcap3; refine exI ?_)
 refine z16 ?_; refine s_nil ?_; apply hK8; refine srR z1b fun _ hK10 => ?_
 iterate 2 refine z16 ?_
 refine zf6 ?_; refine s_nil ?_; apply hK10; refine srR z1b fun _ hK12 => ?_; refine z16 ?_; refine zf6 ?_; refine s_nil ?_; apply hK12; refine srR z1b fun _ hK14 => ?_; refine z1z ?_; refine exA (rulV (z12 r)) (SV.as_refl _) ?_; refine z16 ?_; refine z1z ?_; refine ⟨(z12 r), t, rfl, by first | omega | (rw [List.length_cons]; omega), ?_⟩; refine DRu_0 ?_
 first | refine exI ?_ | (intro cap2 hcap2; refine exI ?_)
 iterate 5 refine z16 ?_
 refine s_nil ?_; apply hK14; refine srR z1b fun _ hK16 => ?_
 iterate 2 refine z16 ?_
 refine zf6 ?_; refine s_nil ?_; apply hK16; refine srR z1b fun _ hK18 => ?_; refine z16 ?_; refine zf6 ?_; refine s_nil ?_; apply hK18; refine srR z1b fun _ hK20 => ?_; refine z1z ?_; refine exA (rulV r) (SV.as_refl _) ?_; refine z16 ?_; refine z1z ?_; refine ⟨r, t, rfl, by first | omega | (rw [List.length_cons]; omega), ?_⟩; refine DRu_0 ?_
 first | refine exI ?_ | (intro cap2 hcap2; refine exI ?_)
 iterate 5 refine z16 ?_
 refine s_nil ?_; apply hK20; refine srR z1b fun _ hK22 => ?_; refine z1z ?_; refine exA (rulV (z2e r)) (SV.as_refl _) ?_; refine z16 ?_; refine z1z ?_; refine ⟨(z2e r), t, rfl, by first | omega | (rw [List.length_cons]; omega), ?_⟩; refine DRu_0 ?_
 first | refine exI ?_ | (intro cap2 hcap2; refine exI ?_)
 iterate 5 refine z16 ?_
 refine s_nil ?_; apply hK22; refine seq_k fun _ hK23 => ?_; refine srR z1b fun _ hK25 => ?_; refine z16 ?_; refine z1z ?_; refine exB (fun hb1 => ?_) (fun hb1 => ?_)
 ·try simp only [dQ, if_true, if_false, reduceIte] at hb1
  obtain ⟨e1, e2⟩ := zqf hr t hb1; refine z4c ?_; refine z4v ?_; refine exA (.c (.bool (false))) (as_eq (congrArg (fun v => SV.c (Cell.bool v)) (by rw [e1, hb1]; rfl))) ?_; refine z4v ?_; refine exB (fun hb4 => ?_) (fun hb4 => ?_)
  ·exfalso; first | exact absurd hb4 (by decide) | exact hb4 rfl | (simp at hb4; done) | omega
  iterate 2 refine z4c ?_
  refine z4v ?_; refine exA (.c (.bool (false))) (as_eq (congrArg (fun v => SV.c (Cell.bool v)) (by rw [e1]; simp))) ?_; refine z4c ?_; refine z4v ?_; refine exB (fun hb9 => ?_) (fun hb9 => ?_)
  ·exfalso; first | exact absurd hb9 (by decide) | exact hb9 rfl | (simp at hb9; done) | omega
  refine z4c ?_; refine z4v ?_; refine exA (.c (.bool (false))) (as_eq (congrArg (fun v => SV.c (Cell.bool v)) (by rw [e2, hb1]; rfl))) ?_; refine z4c ?_; refine z4v ?_; refine exB (fun hb13 => ?_) (fun hb13 => ?_)
  ·exfalso; first | exact absurd hb13 (by decide) | exact hb13 rfl | (simp at hb13; done) | omega
  iterate 2 refine z4c ?_
  refine z4v ?_; refine exA (.c (.bool (false))) (as_eq (congrArg (fun v => SV.c (Cell.bool v)) (by rw [e2]; simp))) ?_; refine z4c ?_; refine z16 ?_; refine s_nil ?_; apply hK25; refine z02 (b := _) rfl (fun h_t66 => ?_) (fun _ => ?_)
  ·exfalso; first | (simp at h_t66; done) | cases h_t66
  refine z0a ?_; apply hK23; refine srR z1b fun _ hK27 => ?_
  iterate 2 refine z16 ?_
  refine z1z ?_; intro cap2 hcap2; refine exI ?_; refine z16 ?_; refine s_nil ?_; apply hK27; refine leW [1, 3, 5] id [(5, .c (.bool true)), (6, .c (.dp (rulC r) 0)), (7, .c (.ds t.length (.u8s t))), (11, .c (.dp (rulC (z2e r)) 0)), (14, .c (.int .i64 (readN (z2e r) t).1)), (15, .c (.bool (readN (z2e r) t).2)), (16, .c (.ds (t.length + 1) (.u8s (48 :: t))))] [] 0 [] uRu_0 uRu_0 uRu_0 uRu_0 ?_; refine srR z1b fun _ hK29 => ?_; refine z1z ?_; refine exA (rulV (z2e r)) (SV.as_refl _) ?_; refine z16 ?_; refine z1z ?_; refine ⟨(z2e r), (48 :: t), rfl, by first | omega | (rw [List.length_cons]; omega), ?_⟩; refine DRu_0 ?_
  first | refine exI ?_ | (intro cap2 hcap2; refine exI ?_)
  iterate 5 refine z16 ?_
  refine s_nil ?_; apply hK29; refine seq_k fun _ hK30 => ?_; refine srR z1b fun _ hK32 => ?_
  iterate 5 refine z16 ?_
  refine z1z ?_; refine exB (fun hb5 => ?_) (fun hb5 => ?_)
  ·try simp only [dQ, if_true, if_false, reduceIte] at hb5
   iterate 3 refine sN ?_
   refine z16 ?_; refine s_nil ?_; apply hK32; refine z02 (b := _) rfl (fun _ => ?_) (fun h_t85 => ?_)
   rotate_left 1
   ·exfalso; simp at h_t85
   refine srR z1b fun _ hK34 => ?_
   iterate 2 refine z16 ?_
   refine s_nil ?_; apply hK34; refine z0d (z08 z1b (fun _ _ h => h) (by first | rfl | assumption) [.tmp 4] rfl ?_); refine rtD ?_
   rfl
  ·try simp only [dQ, if_true, if_false, reduceIte] at hb5
   iterate 3 refine z4c ?_
   refine z16 ?_; refine s_nil ?_; apply hK32; refine z02 (b := _) rfl (fun h_t85 => ?_) (fun h_t85 => ?_)
   ·try simp only [dQ, if_true, if_false, reduceIte] at h_t85
    refine srR z1b fun _ hK36 => ?_
    iterate 2 refine z16 ?_
    refine s_nil ?_; apply hK36; refine z0d (z08 z1b (fun _ _ h => h) (by first | rfl | assumption) [.tmp 4] rfl ?_); refine rtD ?_
    rfl
   ·try simp only [dQ, if_true, if_false, reduceIte] at h_t85
    refine z0a ?_; apply hK30
    have htn : t ≠ [] := by
     rintro rfl
     simp_all
    have hzl : readN (z2e r) (48 :: t) = readN (z2e r) t := zou (zia hr) rfl htn (by show t.length + 1 ≤ r.digits; omega)
    refine srR z1b fun _ hK38 => ?_
    iterate 2 refine z16 ?_
    refine z1z ?_; refine exA (.c (.bool (true))) (as_eq (congrArg (fun v => SV.c (Cell.bool v)) (by rw [hzl]; simp))) ?_; refine z1z ?_; refine exB (fun hb3 => ?_) (fun hb3 => ?_)
    rotate_left 1
    ·exfalso; first | exact absurd hb3 (by decide) | exact hb3 rfl | (simp at hb3; done) | omega
    iterate 2 refine z4c ?_
    refine z4v ?_; refine exA (.c (.bool (true))) (as_eq (congrArg (fun v => SV.c (Cell.bool v)) (by rw [hzl]; simp))) ?_; refine z16 ?_; refine z1z ?_; refine exB (fun hb8 => ?_) (fun hb8 => ?_)
    rotate_left 1
    ·exfalso; first | exact absurd hb8 (by decide) | exact hb8 rfl | (simp at hb8; done) | omega
    refine z4c ?_
    iterate 2 refine z16 ?_
    refine s_nil ?_; apply hK38; refine z0d (z08 z1b (fun _ _ h => h) (by first | rfl | assumption) [.tmp 4] rfl ?_); refine rtD ?_
    rfl
 ·try simp only [dQ, if_true, if_false, reduceIte] at hb1
  iterate 3 refine sN ?_
  iterate 3 refine sU ?_
  iterate 2 refine sN ?_
  iterate 2 refine sU ?_
  iterate 2 refine sN ?_
  iterate 3 refine sU ?_
  refine sN ?_; refine z16 ?_; refine s_nil ?_; apply hK25; refine z02 (b := _) rfl (fun h_t66 => ?_) (fun _ => ?_)
  ·exfalso; first | (simp at h_t66; done) | cases h_t66
  refine z0a ?_; apply hK23; refine srR z1b fun _ hK40 => ?_
  iterate 2 refine z16 ?_
  refine z1z ?_; intro cap2 hcap2; refine exI ?_; refine z16 ?_; refine s_nil ?_; apply hK40; refine leW [1, 3, 5] id [(5, .c (.bool true)), (6, .c (.dp (rulC r) 0)), (7, .c (.ds t.length (.u8s t))), (11, .c (.dp (rulC (z2e r)) 0)), (14, .c (.int .i64 (readN (z2e r) t).1)), (15, .c (.bool (readN (z2e r) t).2)), (16, .c (.ds (t.length + 1) (.u8s (48 :: t))))] [] 0 [] uRu_0 uRu_0 uRu_0 uRu_0 ?_; refine srR z1b fun _ hK42 => ?_; refine z1z ?_; refine exA (rulV (z2e r)) (SV.as_refl _) ?_; refine z16 ?_; refine z1z ?_; refine ⟨(z2e r), (48 :: t), rfl, by first | omega | (rw [List.length_cons]; omega), ?_⟩; refine DRu_0 ?_
  first | refine exI ?_ | (intro cap2 hcap2; refine exI ?_)
  iterate 5 refine z16 ?_
  refine s_nil ?_; apply hK42; refine seq_k fun _ hK43 => ?_; refine srR z1b fun _ hK45 => ?_
  iterate 5 refine z16 ?_
  refine z1z ?_; refine exB (fun hb5 => ?_) (fun hb5 => ?_)
  ·try simp only [dQ, if_true, if_false, reduceIte] at hb5
   iterate 3 refine sN ?_
   refine z16 ?_; refine s_nil ?_; apply hK45; refine z02 (b := _) rfl (fun _ => ?_) (fun h_t85 => ?_)
   rotate_left 1
   ·exfalso; simp at h_t85
   refine srR z1b fun _ hK47 => ?_
   iterate 2 refine z16 ?_
   refine s_nil ?_; apply hK47; refine z0d (z08 z1b (fun _ _ h => h) (by first | rfl | assumption) [.tmp 4] rfl ?_); refine rtD ?_
   rfl
  ·try simp only [dQ, if_true, if_false, reduceIte] at hb5
   iterate 3 refine z4c ?_
   refine z16 ?_; refine s_nil ?_; apply hK45; refine z02 (b := _) rfl (fun h_t85 => ?_) (fun h_t85 => ?_)
   ·try simp only [dQ, if_true, if_false, reduceIte] at h_t85
    refine srR z1b fun _ hK49 => ?_
    iterate 2 refine z16 ?_
    refine s_nil ?_; apply hK49; refine z0d (z08 z1b (fun _ _ h => h) (by first | rfl | assumption) [.tmp 4] rfl ?_); refine rtD ?_
    rfl
   ·try simp only [dQ, if_true, if_false, reduceIte] at h_t85
    refine z0a ?_; apply hK43
    have htn : t ≠ [] := by
     rintro rfl
     simp_all
    have hzl : readN (z2e r) (48 :: t) = readN (z2e r) t := zou (zia hr) rfl htn (by show t.length + 1 ≤ r.digits; omega)
    refine srR z1b fun _ hK51 => ?_
    iterate 2 refine z16 ?_
    refine z1z ?_; refine exA (.c (.bool (true))) (as_eq (congrArg (fun v => SV.c (Cell.bool v)) (by rw [hzl]; simp))) ?_; refine z1z ?_; refine exB (fun hb3 => ?_) (fun hb3 => ?_)
    rotate_left 1
    ·exfalso; first | exact absurd hb3 (by decide) | exact hb3 rfl | (simp at hb3; done) | omega
    iterate 2 refine z4c ?_
    refine z4v ?_; refine exA (.c (.bool (true))) (as_eq (congrArg (fun v => SV.c (Cell.bool v)) (by rw [hzl]; simp))) ?_; refine z16 ?_; refine z1z ?_; refine exB (fun hb8 => ?_) (fun hb8 => ?_)
    rotate_left 1
    ·exfalso; first | exact absurd hb8 (by decide) | exact hb8 rfl | (simp at hb8; done) | omega
    refine z4c ?_
    iterate 2 refine z16 ?_
    refine s_nil ?_; apply hK51; refine z0d (z08 z1b (fun _ _ h => h) (by first | rfl | assumption) [.tmp 4] rfl ?_); refine rtD ?_
    rfl


end Go.Proofs.YtppmnaoollkboaaDoor
