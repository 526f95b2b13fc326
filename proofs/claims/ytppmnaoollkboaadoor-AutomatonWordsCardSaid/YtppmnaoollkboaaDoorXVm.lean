/- The law of words. -/
import Derived.Test.YtppmnaoollkboaaDoorPo
import Derived.Test.YtppmnaoollkboaaDoorPp
namespace Go.Proofs.YtppmnaoollkboaaDoor
set_option linter.all false
open Go.Ab Go.RowKit

theorem qVm0 {a : Prop} (h : a := by first | exact vcA | (simp <;> omega) | exact ⟨by omega, by omega⟩ | exact vcB) : a := h
theorem uVm_0 {a : Prop} (h : a := by
    repeat' (first | exact pT  | exact trivial | refine aI ?_ ?_ | exact cC0 | refine low_cons' ?_ ?_ | exact cC1 | fail)
    all_goals first | omega | exact z1e _ | (simp; done) | (show Cont.u8s _ = _; simp; done)| (show (0 : Nat) < (z02 _ _ _ _).length; rw [z01 hcl]; decide) | (simp [-List.reduceReplicate]; done) | (simp [-List.reduceReplicate] <;> omega) | skip) : a := h
theorem DVm_0 {a b : Prop} (kZ : b) (h : HidB b → a := by intro kZ; (repeat first | refine aI qVm0 ?_ | refine z05 qVm0 ?_ | refine z04 qVm0 ?_ | refine z0i qVm0 ?_ | refine z0d ?_); exact kZ.out) : a := h ⟨kZ⟩
theorem z2f {a b : Prop} (kZ : b) (h : HidB b → a := by intro kZ; refine sX ?_; refine DVm_0 ?_; refine exI ?_; exact kZ.out) : a := h ⟨kZ⟩
theorem zc4 {a b : Prop} (kZ : b) (h : HidB b → a := by intro kZ; refine sXT ?_; refine DVm_0 ?_; refine exI ?_; exact kZ.out) : a := h ⟨kZ⟩
theorem zlq {a b : Prop} (kZ : b) (h : HidB b → a := by intro kZ; refine sX0 ?_; refine DVm_0 ?_; refine exI ?_; exact kZ.out) : a := h ⟨kZ⟩
theorem zju {a b : Prop} (kZ : b) (h : HidB b → a := by intro kZ; refine qX ?_; refine DVm_0 ?_; refine exI ?_; exact kZ.out) : a := h ⟨kZ⟩
theorem zek {a b : Prop} (kZ : b) (h : HidB b → a := by intro kZ; refine qXT ?_; refine DVm_0 ?_; refine exI ?_; exact kZ.out) : a := h ⟨kZ⟩
theorem z5a {a b : Prop} (kZ : b) (h : HidB b → a := by intro kZ; refine sX ?_; refine DVm_0 ?_; exact kZ.out) : a := h ⟨kZ⟩
theorem sXTEVm_7 {a b : Prop} (kZ : b) (h : HidB b → a := by intro kZ; refine sXT ?_; refine DVm_0 ?_; exact kZ.out) : a := h ⟨kZ⟩
theorem zic {a b : Prop} (kZ : b) (h : HidB b → a := by intro kZ; refine qX ?_; refine DVm_0 ?_; exact kZ.out) : a := h ⟨kZ⟩
theorem zg0 {a b : Prop} (kZ : b) (h : HidB b → a := by intro kZ; refine qXT ?_; refine DVm_0 ?_; exact kZ.out) : a := h ⟨kZ⟩

open Go.Aut
attribute [local irreducible] z0p z1v zl z02 z1f putB wD
theorem lsB_wN (x : List UInt8) : lsB (some (wN x)) = x := by
  show (x.map UInt8.toNat).map UInt8.ofNat = x
  rw [List.map_map]; refine (List.map_congr_left fun b _ => ?_).trans (List.map_id x); exact UInt8.ofNat_toNat
noncomputable def gw4 : Ctx := { P := Tryd.prog, ty := ty, glob := gl, fs := [(20, .flat zej), (27, .data wordS), (23, .data zfz), (29, .data zli), (28, .flat sameS), (25, .flat z7h)] }
theorem z5b : gw4.OK := ⟨tyOK, ⟨⟨z06 Tryd.func20 (by kernel_rfl) rfl, zal⟩, ⟨z06 Tryd.func27 (by kernel_rfl) rfl, zyp⟩, ⟨z06 Tryd.func23 (by kernel_rfl) rfl, zeb⟩, ⟨z06 Tryd.func29 (by kernel_rfl) rfl, zi3⟩, ⟨z06 Tryd.func28 (by kernel_rfl) rfl, zqj⟩, ⟨z06 Tryd.func25 (by kernel_rfl) rfl, z5o⟩, trivial⟩, mixed⟩
@[simp] theorem gw4_ty : gw4.ty = ty := rfl

def y0n : QSpec := fun vs K => ∃ u v x : List UInt8, vs = [.c (.ds u.length (.u8s u)), .c (.ds v.length (.u8s v)), .c (.ds x.length (.u8s x))] ∧ (u.length ≤ 9223372036854775807 ∧ v.length ≤ 9223372036854775807 ∧ x.length ≤ 9223372036854775807) ∧ K (.c (.bool true))
set_option maxHeartbeats 1000000 in
set_option maxRecDepth 4000 in
theorem zqo : z1b Tryd.prog gl 4 y0n := by
 refine z1h (Γ := gw4) (N := 118) Tryd.func4 rfl rfl fun vs K h => ?_; obtain ⟨u, v, x, rfl, ⟨h1, h2, h3⟩, h⟩ := h; refine ⟨_, h, rfl, by simp, fun w I => ?_⟩; refine seq_k fun _ hK1 => ?_; refine z00 z5b fun _ hK2 => ?_; refine z2f ?_; refine s_nil ?_; apply hK2; apply hK1; refine seq_k fun _ hK3 => ?_; refine z00 z5b fun _ hK4 => ?_
 iterate 2 refine z2f ?_
 refine s_nil ?_; apply hK4; apply hK3; refine seq_k fun _ hK5 => ?_; refine seq_k fun _ hK6 => ?_; refine z00 z5b fun _ hK7 => ?_
 iterate 3 refine z2f ?_
 refine z5a ?_; refine exB (fun hb3 => ?_) (fun hb3 => ?_)
 ·skip
  try simp only [dQ, if_true, if_false, reduceIte] at hb3
  iterate 3 refine sN ?_
  refine z2f ?_; refine z5a ?_; refine exB (fun hb8 => ?_) (fun hb8 => ?_)
  rotate_left 1
  ·exfalso; simp at hb8
  iterate 3 refine sN ?_
  refine z2f ?_; refine s_nil ?_; apply hK7; apply hK6; refine z08 (b := _) rfl (fun _ => ?_) (fun h_t32 => ?_)
  rotate_left 1
  ·exfalso; simp at h_t32
  refine seq_k fun _ hK8 => ?_; refine z00 z5b fun _ hK9 => ?_
  iterate 2 refine z2f ?_
  refine s_nil ?_; apply hK9; apply hK8; refine z0e (z0a z5b (fun _ _ h => h) (by first | rfl | assumption) [.tmp 6] rfl ?_); refine rtD ?_
  rfl
 ·skip
  try simp only [dQ, if_true, if_false, reduceIte] at hb3
  iterate 3 refine zc4 ?_
  refine z2f ?_; refine z5a ?_; refine exB (fun hb8 => ?_) (fun hb8 => ?_)
  ·skip
   try simp only [dQ, if_true, if_false, reduceIte] at hb8
   iterate 3 refine sN ?_
   refine z2f ?_; refine s_nil ?_; apply hK7; apply hK6; refine z08 (b := _) rfl (fun _ => ?_) (fun h_t32 => ?_)
   rotate_left 1
   ·exfalso; simp at h_t32
   refine seq_k fun _ hK10 => ?_; refine z00 z5b fun _ hK11 => ?_
   iterate 2 refine z2f ?_
   refine s_nil ?_; apply hK11; apply hK10; refine z0e (z0a z5b (fun _ _ h => h) (by first | rfl | assumption) [.tmp 6] rfl ?_); refine rtD ?_
   rfl
  ·skip
   try simp only [dQ, if_true, if_false, reduceIte] at hb8
   iterate 3 refine zc4 ?_
   refine z2f ?_; refine s_nil ?_; apply hK7; apply hK6; refine z08 (b := _) rfl (fun h_t32 => ?_) (fun h_t32 => ?_)
   ·try simp only [dQ, if_true, if_false, reduceIte] at h_t32
    refine seq_k fun _ hK12 => ?_; refine z00 z5b fun _ hK13 => ?_
    iterate 2 refine z2f ?_
    refine s_nil ?_; apply hK13; apply hK12; refine z0e (z0a z5b (fun _ _ h => h) (by first | rfl | assumption) [.tmp 6] rfl ?_); refine rtD ?_
    rfl
   ·try simp only [dQ, if_true, if_false, reduceIte] at h_t32
    refine z0c ?_; apply hK5; refine seq_k fun _ hK14 => ?_
    have hu : u.length ≤ 31 := by omega
    have hv : v.length ≤ 31 := by omega
    have hu2 : u.length ≤ 62 := by omega
    have hv2 : v.length ≤ 62 := by omega
    have huv : (u ++ v).length ≤ 62 := by rw [List.length_append]; omega
    have wu := z2n (zak hu2)
    have wv := z2n (zak hv2)
    have wuv := z2n (zak huv)
    refine z00 z5b fun _ hK15 => ?_; refine z2f ?_; refine z5a ?_; refine ⟨u, rfl, by omega, ?_⟩; rw [zh3 hu2]; refine DVm_0 ?_
    first | refine exI ?_ | (intro cap1 hcap1; refine exI ?_)
    iterate 4 refine z2f ?_
    refine zlq ?_; refine z2f ?_; refine s_nil ?_; apply hK15; apply hK14; refine seq_k fun _ hK16 => ?_; refine z00 z5b fun _ hK17 => ?_; refine z2f ?_; refine z5a ?_; refine ⟨v, rfl, by omega, ?_⟩; rw [zh3 hv2]; refine DVm_0 ?_
    first | refine exI ?_ | (intro cap1 hcap1; refine exI ?_)
    iterate 4 refine z2f ?_
    refine zlq ?_; refine z2f ?_; refine s_nil ?_; apply hK17; apply hK16; refine seq_k fun _ hK18 => ?_; refine z00 z5b fun _ hK19 => ?_
    iterate 2 refine z2f ?_
    refine z5a ?_; intro cap2 hcap2; refine exI ?_; refine z2f ?_; refine s_nil ?_; apply hK19; apply hK18; refine seq_k fun _ hK20 => ?_; refine z00 z5b fun _ hK21 => ?_
    iterate 2 refine z2f ?_
    refine z5a ?_; intro cap2 hcap2; refine exI ?_; refine z2f ?_; refine s_nil ?_; apply hK21; apply hK20; refine seq_k fun _ hK22 => ?_; refine leW [4] id [(0, .c (.ds u.length (.u8s u))), (2, .c (.ds x.length (.u8s x))), (7, .c (.bool true)), (8, .c (.ptr 0 0)), (9, .c (.int .i64 0)), (10, .c (.ptr 1 0)), (11, .c (.int .i64 0)), (12, .c (.ds (u ++ v).length (.u8s (u ++ v))))] [(0, .own 30 (dfaC (wD u)) 3), (1, .own 30 (dfaC (wD v)) 3)] 2 [0, 1] ?_ ?_ ?_ ?_ ?_
    ·exact uVm_0
    ·exact uVm_0
    ·exact uVm_0
    ·exact uVm_0
    refine z00 z5b fun _ hK23 => ?_
    iterate 2 refine z2f ?_
    refine z5a ?_; refine ⟨wD u, wD v, rfl, ⟨wu, wv⟩, ?_⟩; rw [zny hu hv]; refine DVm_0 ?_
    first | refine exI ?_ | (intro cap2 hcap2; refine exI ?_)
    iterate 4 refine z2f ?_
    refine zlq ?_; refine z2f ?_; refine s_nil ?_; apply hK23; apply hK22; refine seq_k fun _ hK24 => ?_; refine z00 z5b fun _ hK25 => ?_; refine z2f ?_; refine z5a ?_; refine ⟨u ++ v, rfl, by omega, ?_⟩; rw [zh3 huv]; refine DVm_0 ?_
    first | refine exI ?_ | (intro cap1 hcap1; refine exI ?_)
    iterate 4 refine z2f ?_
    refine zlq ?_; refine z2f ?_; refine s_nil ?_; apply hK25; apply hK24; refine seq_k fun _ hK26 => ?_; refine seq_k fun _ hK27 => ?_; refine z00 z5b fun _ hK28 => ?_
    iterate 2 refine z2f ?_
    refine z5a ?_; refine exB (fun hb2 => ?_) (fun hb2 => ?_)
    ·exfalso; first | exact absurd hb2 (by decide) | exact hb2 rfl | (simp at hb2; done) | omega
    iterate 2 refine zc4 ?_
    refine z2f ?_; refine z5a ?_; refine exB (fun hb6 => ?_) (fun hb6 => ?_)
    ·exfalso; first | exact absurd hb6 (by decide) | exact hb6 rfl | (simp at hb6; done) | omega
    iterate 2 refine zc4 ?_
    refine z2f ?_; refine z5a ?_; refine exB (fun hb10 => ?_) (fun hb10 => ?_)
    ·exfalso; first | exact absurd hb10 (by decide) | exact hb10 rfl | (simp at hb10; done) | omega
    iterate 2 refine zc4 ?_
    refine z2f ?_; refine z5a ?_; refine exB (fun hb14 => ?_) (fun hb14 => ?_)
    ·exfalso; first | exact absurd hb14 (by decide) | exact hb14 rfl | (simp at hb14; done) | omega
    iterate 2 refine zc4 ?_
    refine sXTEVm_7 ?_; refine ⟨wD (u ++ v), wD (u ++ v), rfl, ⟨wuv, wuv⟩, ?_⟩; refine DVm_0 ?_
    first | refine exA (.c (.bool (true))) (as_eq (congrArg (fun v => SV.c (Cell.bool v)) (z8i.2 rfl))) ?_ | (intro cap17 hcap17; refine exA (.c (.bool (true))) (as_eq (congrArg (fun v => SV.c (Cell.bool v)) (z8i.2 rfl))) ?_)
    refine zc4 ?_; refine z2f ?_; refine s_nil ?_; apply hK28; apply hK27; refine z08 (b := _) rfl (fun h_t80 => ?_) (fun _ => ?_)
    ·exfalso; first | exact absurd h_t80 (by decide) | (simp at h_t80; done) | cases h_t80
    refine z0c ?_; apply hK26; refine seq_k fun _ hK29 => ?_; refine z00 z5b fun _ hK30 => ?_; refine z2f ?_; refine z5a ?_; refine ⟨wD u, rfl, wu, ?_⟩; rw [zv2 hu2]; refine DVm_0 ?_
    first | refine exI ?_ | (intro cap1 hcap1; refine exI ?_)
    iterate 5 refine z2f ?_
    refine s_nil ?_; apply hK30; apply hK29; refine seq_k fun _ hK31 => ?_; refine leW [0, 3] id [(0, .c (.ds u.length (.u8s u))), (2, .c (.ds x.length (.u8s x))), (7, .c (.bool true)), (8, .c (.dp (dfaC (wD u)) 0)), (12, .c (.ds (u ++ v).length (.u8s (u ++ v)))), (15, .c (.dp (dfaC (wD (u ++ v))) 0)), (17, .c (.ds (lsB (some (wN u))).length (.u8s (lsB (some (wN u)))))), (18, .c (.bool true))] [] 0 [] ?_ ?_ ?_ ?_ ?_
    ·exact uVm_0
    ·exact uVm_0
    ·exact uVm_0
    ·exact uVm_0
    refine z2m z5b (by kernel_rfl) fun _ hK32 => ?_; refine zju ?_; refine zic ?_; refine exB (fun hb1 => ?_) (fun hb1 => ?_)
    rotate_left 1
    ·exfalso; first | exact absurd hb1 (by decide) | exact hb1 rfl | (simp at hb1; done) | omega
    iterate 4 refine zek ?_
    refine zg0 ?_; refine exA (.c (.bool (true))) (as_eq (congrArg (fun v => SV.c (Cell.bool v)) (by rw [lsB_wN, decide_eq_true rfl]))) ?_; refine zju ?_; refine zic ?_; refine exB (fun hb8 => ?_) (fun hb8 => ?_)
    rotate_left 1
    ·exfalso; first | exact absurd hb8 (by decide) | exact hb8 rfl | (simp at hb8; done) | omega
    iterate 2 refine zek ?_
    refine zg0 ?_; refine ⟨wD u, u, rfl, ⟨wu, by omega⟩, ?_⟩; refine DVm_0 ?_
    first | refine exA (.c (.bool (true))) (as_eq (congrArg (fun v => SV.c (Cell.bool v)) (by rw [z51 hu2, decide_eq_true rfl]))) ?_ | (intro cap11 hcap11; refine exA (.c (.bool (true))) (as_eq (congrArg (fun v => SV.c (Cell.bool v)) (by rw [z51 hu2, decide_eq_true rfl]))) ?_)
    refine zju ?_; refine zic ?_; refine exB (fun hb13 => ?_) (fun hb13 => ?_)
    rotate_left 1
    ·exfalso; first | exact absurd hb13 (by decide) | exact hb13 rfl | (simp at hb13; done) | omega
    iterate 2 refine zek ?_
    refine zg0 ?_; refine ⟨wD u, x, rfl, ⟨wu, by omega⟩, ?_⟩; refine DVm_0 ?_
    first | refine exA (.c (.bool (decide (x = u)))) (as_eq (congrArg (fun v => SV.c (Cell.bool v)) (z51 hu2 x))) ?_ | (intro cap16 hcap16; refine exA (.c (.bool (decide (x = u)))) (as_eq (congrArg (fun v => SV.c (Cell.bool v)) (z51 hu2 x))) ?_)
    iterate 6 refine zek ?_
    refine zju ?_; refine zic ?_; refine exB (fun hb24 => ?_) (fun hb24 => ?_)
    rotate_left 1
    ·exfalso; first | exact absurd hb24 (by decide) | exact hb24 rfl | (simp at hb24; done) | omega
    iterate 2 refine zek ?_
    refine zg0 ?_; refine ⟨wD (u ++ v), u ++ v, rfl, ⟨wuv, by omega⟩, ?_⟩; refine DVm_0 ?_
    first | refine exA (.c (.bool (true))) (as_eq (congrArg (fun v => SV.c (Cell.bool v)) (by rw [z51 huv, decide_eq_true rfl]))) ?_ | (intro cap27 hcap27; refine exA (.c (.bool (true))) (as_eq (congrArg (fun v => SV.c (Cell.bool v)) (by rw [z51 huv, decide_eq_true rfl]))) ?_)
    refine zju ?_; refine zic ?_; refine exB (fun hb29 => ?_) (fun hb29 => ?_)
    rotate_left 1
    ·exfalso; first | exact absurd hb29 (by decide) | exact hb29 rfl | (simp at hb29; done) | omega
    refine zek ?_
    iterate 2 refine zju ?_
    refine q_nil ?_; apply hK32; apply hK31; refine z0e (z0a z5b (fun _ _ h => h) (by first | rfl | assumption) [.tmp 6] rfl ?_); refine rtD ?_
    rfl


end Go.Proofs.YtppmnaoollkboaaDoor
