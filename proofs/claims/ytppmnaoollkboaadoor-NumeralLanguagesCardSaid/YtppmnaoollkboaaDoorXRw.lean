/- Numerals: the law of languages. -/
import Derived.Test.YtppmnaoollkboaaDoorPo
namespace Go.Proofs.YtppmnaoollkboaaDoor
set_option linter.all false
open Go.Ab Go.RowKit

theorem qRw0 {a : Prop} (h : a := by first | exact vcA | (simp <;> omega) | exact ⟨by omega, by omega⟩ | exact ⟨by omega, by omega, by omega⟩ | decide | (show _ < _; decide) | exact vcB) : a := h
theorem uRw_0 {a : Prop} (h : a := by
    repeat' (first | exact pT  | exact trivial | refine aI ?_ ?_ | exact cC0 | refine low_cons' ?_ ?_ | exact cC1 | fail)
    all_goals first | omega | exact z3u _ | exact z1y _ | (simp; done) | (show Cont.u8s _ = _; simp; done)| (show (0 : Nat) < (z07 _ _ _ _).length; rw [z06 hcl]; decide) | (simp [-List.reduceReplicate]; done) | (simp [-List.reduceReplicate] <;> omega) | skip) : a := h
theorem DRw_0 {a b : Prop} (kZ : b) (h : HidB b → a := by intro kZ; (repeat first | refine aI qRw0 ?_ | refine z09 qRw0 ?_ | refine z04 qRw0 ?_ | refine z0h qRw0 ?_ | refine z0c ?_); exact kZ.out) : a := h ⟨kZ⟩
theorem z39 {a b : Prop} (kZ : b) (h : HidB b → a := by intro kZ; refine sX ?_; refine DRw_0 ?_; refine exI ?_; exact kZ.out) : a := h ⟨kZ⟩
theorem zmt {a b : Prop} (kZ : b) (h : HidB b → a := by intro kZ; refine sX0 ?_; refine DRw_0 ?_; refine exI ?_; exact kZ.out) : a := h ⟨kZ⟩
theorem sXTRw_3 {a b : Prop} (kZ : b) (h : HidB b → a := by intro kZ; refine sXT ?_; refine DRw_0 ?_; refine exI ?_; exact kZ.out) : a := h ⟨kZ⟩
theorem dXRw_4 {a b : Prop} (kZ : b) (h : HidB b → a := by intro kZ; refine dX ?_; refine DRw_0 ?_; refine exI ?_; exact kZ.out) : a := h ⟨kZ⟩
theorem zov {a b : Prop} (kZ : b) (h : HidB b → a := by intro kZ; refine qX ?_; refine DRw_0 ?_; refine exI ?_; exact kZ.out) : a := h ⟨kZ⟩
theorem zic {a b : Prop} (kZ : b) (h : HidB b → a := by intro kZ; refine qXT ?_; refine DRw_0 ?_; refine exI ?_; exact kZ.out) : a := h ⟨kZ⟩
theorem z98 {a b : Prop} (kZ : b) (h : HidB b → a := by intro kZ; refine sX ?_; refine DRw_0 ?_; exact kZ.out) : a := h ⟨kZ⟩
theorem zvy {a b : Prop} (kZ : b) (h : HidB b → a := by intro kZ; refine dX ?_; refine DRw_0 ?_; exact kZ.out) : a := h ⟨kZ⟩
theorem gXERw_9 {a b : Prop} (kZ : b) (h : HidB b → a := by intro kZ; refine gX ?_; refine DRw_0 ?_; exact kZ.out) : a := h ⟨kZ⟩
theorem zah {a b : Prop} (kZ : b) (h : HidB b → a := by intro kZ; refine qX ?_; refine DRw_0 ?_; exact kZ.out) : a := h ⟨kZ⟩
theorem z6i {a b : Prop} (kZ : b) (h : HidB b → a := by intro kZ; refine qXT ?_; refine DRw_0 ?_; exact kZ.out) : a := h ⟨kZ⟩

open Go.Aut
attribute [local irreducible] z0j z1t zl z07 z0w putB canD
def wd2 (l t : List UInt8) (i : Nat) : List UInt8 := if i = 0 then l else t
theorem wd2_len {l t : List UInt8} {i k : Nat} (hl : l.length ≤ k) (ht : t.length ≤ k) : (wd2 l t i).length ≤ k := by unfold wd2; split <;> assumption
theorem zvz {l t : List UInt8} {i j : Nat} (h : i < 2) (hj : j = i) : (Cont.cells [.ds l.length (.u8s l), .ds t.length (.u8s t)]).get j = .ds (wd2 l t i).length (.u8s (wd2 l t i)) := by
  subst hj
  match j, h with
  | 0, _ => rfl
  | 1, _ => rfl
noncomputable def gnr5 : Ctx := { P := Tryd.prog, ty := ty, glob := gl, fs := [(53, .flat z8h), (54, .data zga), (56, .data num9S), (55, .data zg9), (60, .data zbs), (62, .data zi3), (25, .flat zo1)] }
theorem z2i : gnr5.OK := ⟨tyOK, ⟨⟨z03 Tryd.func53 (by kernel_rfl) rfl, z6h⟩, ⟨z03 Tryd.func54 (by kernel_rfl) rfl, zac⟩, ⟨z03 Tryd.func56 (by kernel_rfl) rfl, zhs⟩, ⟨z03 Tryd.func55 (by kernel_rfl) rfl, zab⟩, ⟨z03 Tryd.func60 (by kernel_rfl) rfl, zc7⟩, ⟨z03 Tryd.func62 (by kernel_rfl) rfl, zf2⟩, ⟨z03 Tryd.func25 (by kernel_rfl) rfl, zq4⟩, trivial⟩, mixed⟩
@[simp] theorem gnr5_ty : gnr5.ty = ty := rfl

def zid : QSpec := fun vs K => ∃ (a b n : UInt8) (l : List UInt8), vs = [.agg (.u8s [a, b]), .c (.u8 n), .c (.ds l.length (.u8s l))] ∧ l.length ≤ 9223372036854775807 ∧ K (.c (.bool true))
set_option maxHeartbeats 1000000 in
set_option maxRecDepth 4000 in
theorem zf7 : z1k Tryd.prog gl 17 zid := by
 refine z1l (Γ := gnr5) (N := 91) Tryd.func17 rfl rfl fun vs K h => ?_; obtain ⟨a, b, n, l, rfl, hl, h⟩ := h; refine ⟨_, h, rfl, by simp, fun w I => ?_⟩; refine srR z2i fun _ hK2 => ?_
 iterate 2 refine z39 ?_
 refine s_nil ?_; apply hK2; refine srR z2i fun _ hK4 => ?_
 iterate 2 refine z39 ?_
 refine s_nil ?_; apply hK4; refine seq_k fun _ hK5 => ?_; refine srR z2i fun _ hK7 => ?_
 iterate 3 refine z39 ?_
 refine s_nil ?_; apply hK7; refine z02 (b := _) rfl (fun h_t21 => ?_) (fun h_t21 => ?_)
 ·try simp only [dQ, if_true, if_false, reduceIte] at h_t21
  refine srR z2i fun _ hK9 => ?_
  iterate 2 refine z39 ?_
  refine s_nil ?_; apply hK9; refine z0d (z08 z2i (fun _ _ h => h) (by first | rfl | assumption) [.tmp 6] rfl ?_); refine rtD ?_
  rfl
 ·try simp only [dQ, if_true, if_false, reduceIte] at h_t21
  refine z0a ?_; apply hK5; obtain ⟨r, hr9⟩ : ∃ r, made9 a b = r := ⟨_, rfl⟩
  have hr : r.ok := hr9 ▸ z58 a b
  have ht1 := hr.t1
  have ht2 := hr.t2
  have hd1 := hr.d1
  have hd2 := hr.d2
  have hn9 := n.toNat_lt
  have hm := zmp hr n
  have wA := zkm hr Pa
  have wT := zkm hr (Pn ((n.toNat : Int) % (r.top + 1)))
  refine srR z2i fun _ hK11 => ?_; refine z39 ?_; refine z98 ?_; refine ⟨a, b, rfl, ?_⟩; rw [hr9]; refine DRw_0 ?_
  first | refine exI ?_ | (intro cap1 hcap1; refine exI ?_)
  refine z39 ?_; refine zmt ?_; refine s_nil ?_; apply hK11; refine srR z2i fun _ hK13 => ?_
  iterate 7 refine z39 ?_
  refine s_nil ?_; apply hK13; refine srR z2i fun _ hK15 => ?_; refine z98 ?_; refine exA (rulV r) (SV.as_refl _) ?_; refine z98 ?_; refine ⟨r, rfl, ?_⟩; rw [all_ok hr]; refine DRw_0 ?_
  first | refine exI ?_ | (intro cap1 hcap1; refine exI ?_)
  iterate 4 refine z39 ?_
  refine zmt ?_; refine z39 ?_; refine s_nil ?_; apply hK15; refine srR z2i fun _ hK17 => ?_; refine z98 ?_; refine exA (rulV r) (SV.as_refl _) ?_; refine z39 ?_; refine z98 ?_; refine ⟨r, ((n.toNat : Int) % (r.top + 1)), rfl, ?_⟩; rw [zi5 hr hm.1 hm.2]; refine DRw_0 ?_
  first | refine exI ?_ | (intro cap2 hcap2; refine exI ?_)
  iterate 4 refine z39 ?_
  refine zmt ?_; refine z39 ?_; refine s_nil ?_; apply hK17; refine seq_k fun _ hK18 => ?_; refine srR z2i fun _ hK20 => ?_
  iterate 2 refine z39 ?_
  refine z98 ?_; refine exB (fun hb2 => ?_) (fun hb2 => ?_)
  ·exfalso; first | exact absurd hb2 (by decide) | exact hb2 rfl | (simp at hb2; done) | omega
  iterate 2 refine sXTRw_3 ?_
  refine z39 ?_; refine s_nil ?_; apply hK20; refine z02 (b := _) rfl (fun h_t47 => ?_) (fun _ => ?_)
  ·exfalso; first | (simp at h_t47; done) | cases h_t47
  refine z0a ?_; apply hK18; refine srR z2i fun _ hK22 => ?_
  iterate 4 refine z39 ?_
  refine z98 ?_; refine ⟨r.base, l, rfl, by omega, ?_⟩; obtain ⟨t, ht⟩ : ∃ t, t = numF r.base l 9 := ⟨_, rfl⟩
  have htl : t.length ≤ 9 := by rw [ht, z3g]; omega
  rw [← ht]; refine DRw_0 ?_
  first | refine exI ?_ | (intro cap4 hcap4; refine exI ?_)
  iterate 2 refine z39 ?_
  refine s_nil ?_; apply hK22; refine seq_k fun _ hK23 => ?_; refine leW [1, 2, 3, 4] id [(7, .c (.bool true)), (8, .c (.dp (rulC r) 0)), (9, .c (.int .i64 ((n.toNat : Int) % (r.top + 1)))), (10, .c (.dp (dfaC (canD (langN r Pa))) 0)), (12, .c (.dp (dfaC (canD (langN r (Pn ((n.toNat : Int) % (r.top + 1)))))) 0)), (14, .c (.ds 2 (.cells [.ds l.length (.u8s l), .ds t.length (.u8s t)])))] [] 0 [] uRw_0 uRw_0 uRw_0 uRw_0 ?_; refine srR z2i fun _ hK25 => ?_; refine z39 ?_; refine s_nil ?_; apply hK25; refine z05 ?_; refine z0p (α := Nat) (fun i => [(7, .c (.bool true)), (8, .c (.dp (rulC r) 0)), (9, .c (.int .i64 ((n.toNat : Int) % (r.top + 1)))), (10, .c (.dp (dfaC (canD (langN r Pa))) 0)), (12, .c (.dp (dfaC (canD (langN r (Pn ((n.toNat : Int) % (r.top + 1)))))) 0)), (14, .c (.ds 2 (.cells [.ds l.length (.u8s l), .ds t.length (.u8s t)]))), (15, .c (.int .i64 (i : Nat)))]) (fun i => []) 0 (fun i => i ≤ 2) (fun i => 2 - i) ?_ ?_
  ·refine dnS [] id 0 (Nat.zero_le _) [] uRw_0 uRw_0 uRw_0 uRw_0
  ·intro i hi
   refine seq_k fun _ hK26 => ?_; refine srR z2i fun _ hK28 => ?_
   iterate 2 refine z39 ?_
   refine s_nil ?_; apply hK28; refine z02 (b := _) rfl (fun h_t55 => ?_) (fun h_t55 => ?_)
   ·try simp only [dQ, if_true, if_false, reduceIte] at h_t55
    refine z0a ?_; apply hK26; refine seq_k fun _ hK29 => ?_; refine z05 ?_
    have hi2 : i < 2 := by omega
    have hwl : (wd2 l t i).length ≤ 1000 := wd2_len (by omega) (by omega)
    refine srD z2i [(0, true), (1, true), (2, true), (3, true), (4, true), (5, false), (6, true), (7, true), (8, true), (9, true), (10, true)] rfl (by kernel_rfl) (by kernel_rfl) fun _ hK31 => ?_; refine zvy ?_; refine exA (rulV r) (SV.as_refl _) ?_
    iterate 3 refine dXRw_4 ?_
    refine zvy ?_; refine exA (.c (.ds (wd2 l t i).length (.u8s (wd2 l t i)))) (as_eq (congrArg SV.c (zvz hi2 (by omega)))) ?_; refine gXERw_9 ?_; refine ⟨r, (wd2 l t i), rfl, by omega, ?_⟩; refine DRw_0 ?_
    first | refine exI ?_ | (intro cap5 hcap5; refine exI ?_)
    iterate 5 refine dXRw_4 ?_
    refine d_nil ?_; apply hK31; refine srQ z2i (by kernel_rfl) fun _ hK33 => ?_; refine zah ?_; refine exA (dfaV (canD (langN r Pa))) (SV.as_refl _) ?_
    iterate 3 refine zov ?_
    refine zah ?_; refine exA (.c (.ds (wd2 l t i).length (.u8s (wd2 l t i)))) (as_eq (congrArg SV.c (zvz hi2 (by omega)))) ?_; refine zah ?_; refine ⟨(canD (langN r Pa)), (wd2 l t i), rfl, ⟨wA, by omega⟩, ?_⟩; refine DRw_0 ?_
    first | refine exA (.c (.bool (Pa (readN r (wd2 l t i))))) (as_eq (congrArg (fun v => SV.c (Cell.bool v)) (zi8 hr _ _))) ?_ | (intro cap5 hcap5; refine exA (.c (.bool (Pa (readN r (wd2 l t i))))) (as_eq (congrArg (fun v => SV.c (Cell.bool v)) (zi8 hr _ _))) ?_)
    refine zov ?_; refine zah ?_; refine exA (.c (.bool (false))) (as_eq (congrArg (fun v => SV.c (Cell.bool v)) (by show (!decide (Pa (readN r (wd2 l t i)) = (readN r (wd2 l t i)).2)) = false; unfold Pa; simp))) ?_; refine zah ?_; refine exB (fun hb8 => ?_) (fun hb8 => ?_)
    ·exfalso; first | exact absurd hb8 (by decide) | exact hb8 rfl | (simp at hb8; done) | omega
    refine z6i ?_; refine exA (dfaV (canD (langN r (Pn ((n.toNat : Int) % (r.top + 1)))))) (SV.as_refl _) ?_
    iterate 3 refine zic ?_
    refine z6i ?_; refine exA (.c (.ds (wd2 l t i).length (.u8s (wd2 l t i)))) (as_eq (congrArg SV.c (zvz hi2 (by omega)))) ?_; refine z6i ?_; refine ⟨(canD (langN r (Pn ((n.toNat : Int) % (r.top + 1))))), (wd2 l t i), rfl, ⟨wT, by omega⟩, ?_⟩; refine DRw_0 ?_
    first | refine exA (.c (.bool (Pn ((n.toNat : Int) % (r.top + 1)) (readN r (wd2 l t i))))) (as_eq (congrArg (fun v => SV.c (Cell.bool v)) (zi8 hr _ _))) ?_ | (intro cap14 hcap14; refine exA (.c (.bool (Pn ((n.toNat : Int) % (r.top + 1)) (readN r (wd2 l t i))))) (as_eq (congrArg (fun v => SV.c (Cell.bool v)) (zi8 hr _ _))) ?_)
    refine zic ?_; refine z6i ?_; refine exB (fun hb16 => ?_) (fun hb16 => ?_)
    ·try simp only [dQ, if_true, if_false, reduceIte] at hb16
     iterate 4 refine zic ?_
     refine z6i ?_; refine exA (.c (.bool (false))) (as_eq (congrArg (fun v => SV.c (Cell.bool v)) (by unfold Pn; simp_all))) ?_; refine zov ?_; refine q_nil ?_; apply hK33; refine z02 (b := _) rfl (fun h_t89 => ?_) (fun _ => ?_)
     ·exfalso; first | (simp at h_t89; done) | cases h_t89
     refine z0a ?_; refine z0b ?_; apply hK29; refine z01 z2i fun _ hK34 => ?_
     iterate 3 refine z39 ?_
     refine s_nil ?_; apply hK34; refine dnS [] id (i + 1) ⟨by omega, by omega⟩ [] uRw_0 uRw_0 uRw_0 uRw_0
    ·try simp only [dQ, if_true, if_false, reduceIte] at hb16
     iterate 3 refine qN ?_
     refine zic ?_; refine z6i ?_; refine exA (.c (.bool (false))) (as_eq (congrArg (fun v => SV.c (Cell.bool v)) (by unfold Pn; simp_all))) ?_; refine zov ?_; refine q_nil ?_; apply hK33; refine z02 (b := _) rfl (fun h_t89 => ?_) (fun _ => ?_)
     ·exfalso; first | (simp at h_t89; done) | cases h_t89
     refine z0a ?_; refine z0b ?_; apply hK29; refine z01 z2i fun _ hK35 => ?_
     iterate 3 refine z39 ?_
     refine s_nil ?_; apply hK35; refine dnS [] id (i + 1) ⟨by omega, by omega⟩ [] uRw_0 uRw_0 uRw_0 uRw_0
   ·try simp only [dQ, if_true, if_false, reduceIte] at h_t55
    refine z0k ?_; refine z00 ?_; refine z00 ?_; refine z0f ?_; apply hK23; refine srR z2i fun _ hK37 => ?_
    iterate 2 refine z39 ?_
    refine s_nil ?_; apply hK37; refine z0d (z08 z2i (fun _ _ h => h) (by first | rfl | assumption) [.tmp 6] rfl ?_); refine rtD ?_
    rfl


end Go.Proofs.YtppmnaoollkboaaDoor
