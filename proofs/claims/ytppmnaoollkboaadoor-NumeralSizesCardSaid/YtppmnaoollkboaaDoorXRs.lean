/- Numerals: the law of sizes. -/
import Derived.Test.YtppmnaoollkboaaDoorPo
namespace Go.Proofs.YtppmnaoollkboaaDoor
set_option linter.all false
open Go.Ab Go.RowKit

theorem qRs0 {a : Prop} (h : a := by first | exact vcA | (simp <;> omega) | exact ⟨by omega, by omega⟩ | exact ⟨by omega, by omega, by omega⟩ | decide | (show _ < _; decide) | exact vcB) : a := h
theorem uRs_0 {a : Prop} (h : a := by
    repeat' (first | exact pT  | exact trivial | refine aI ?_ ?_ | exact cC0 | refine low_cons' ?_ ?_ | exact cC1 | fail)
    all_goals first | omega | exact z3u _ | exact z1y _ | (simp; done) | (show Cont.u8s _ = _; simp; done)| (show (0 : Nat) < (z07 _ _ _ _).length; rw [z06 hcl]; decide) | (simp [-List.reduceReplicate]; done) | (simp [-List.reduceReplicate] <;> omega) | skip) : a := h
theorem DRs_0 {a b : Prop} (kZ : b) (h : HidB b → a := by intro kZ; (repeat first | refine aI qRs0 ?_ | refine z09 qRs0 ?_ | refine z04 qRs0 ?_ | refine z0h qRs0 ?_ | refine z0c ?_); exact kZ.out) : a := h ⟨kZ⟩
theorem z7x {a b : Prop} (kZ : b) (h : HidB b → a := by intro kZ; refine sX ?_; refine DRs_0 ?_; refine exI ?_; exact kZ.out) : a := h ⟨kZ⟩
theorem zvq {a b : Prop} (kZ : b) (h : HidB b → a := by intro kZ; refine sX0 ?_; refine DRs_0 ?_; refine exI ?_; exact kZ.out) : a := h ⟨kZ⟩
theorem zkp {a b : Prop} (kZ : b) (h : HidB b → a := by intro kZ; refine dX ?_; refine DRs_0 ?_; refine exI ?_; exact kZ.out) : a := h ⟨kZ⟩
theorem gXRs_4 {a b : Prop} (kZ : b) (h : HidB b → a := by intro kZ; refine gX ?_; refine DRs_0 ?_; refine exI ?_; exact kZ.out) : a := h ⟨kZ⟩
theorem zvr {a b : Prop} (kZ : b) (h : HidB b → a := by intro kZ; refine gX0 ?_; refine DRs_0 ?_; refine exI ?_; exact kZ.out) : a := h ⟨kZ⟩
theorem zvs {a b : Prop} (kZ : b) (h : HidB b → a := by intro kZ; refine sXT ?_; refine DRs_0 ?_; refine exI ?_; exact kZ.out) : a := h ⟨kZ⟩
theorem z97 {a b : Prop} (kZ : b) (h : HidB b → a := by intro kZ; refine sX ?_; refine DRs_0 ?_; exact kZ.out) : a := h ⟨kZ⟩
theorem dXERs_8 {a b : Prop} (kZ : b) (h : HidB b → a := by intro kZ; refine dX ?_; refine DRs_0 ?_; exact kZ.out) : a := h ⟨kZ⟩
theorem gXERs_9 {a b : Prop} (kZ : b) (h : HidB b → a := by intro kZ; refine gX ?_; refine DRs_0 ?_; exact kZ.out) : a := h ⟨kZ⟩
theorem zag {a b : Prop} (kZ : b) (h : HidB b → a := by intro kZ; refine sXT ?_; refine DRs_0 ?_; exact kZ.out) : a := h ⟨kZ⟩

open Go.Aut
attribute [local irreducible] z0j z1t zl z07 z0w putB canD
noncomputable def gnr1 : Ctx := { P := Tryd.prog, ty := ty, glob := gl, fs := [(53, .flat z8h), (54, .data zga), (60, .data zbs), (62, .data zi3), (32, .flat zob)] }
theorem z4n : gnr1.OK := ⟨tyOK, ⟨⟨z03 Tryd.func53 (by kernel_rfl) rfl, z6h⟩, ⟨z03 Tryd.func54 (by kernel_rfl) rfl, zac⟩, ⟨z03 Tryd.func60 (by kernel_rfl) rfl, zc7⟩, ⟨z03 Tryd.func62 (by kernel_rfl) rfl, zf2⟩, ⟨z03 Tryd.func32 (by kernel_rfl) rfl, zq9⟩, trivial⟩, mixed⟩
@[simp] theorem gnr1_ty : gnr1.ty = ty := rfl

def zvt : QSpec := fun vs K => ∃ a b n : UInt8, vs = [.agg (.u8s [a, b]), .c (.u8 n)] ∧ K (.c (.bool true))
set_option maxHeartbeats 1000000 in
set_option maxRecDepth 4000 in
theorem zmq : z1k Tryd.prog gl 16 zvt := by
 refine z1l (Γ := gnr1) (N := 47) Tryd.func16 rfl rfl fun vs K h => ?_; obtain ⟨a, b, n, rfl, h⟩ := h; refine ⟨_, h, rfl, by simp, fun w I => ?_⟩; refine srR z4n fun _ hK2 => ?_
 iterate 2 refine z7x ?_
 refine s_nil ?_; apply hK2; refine srR z4n fun _ hK4 => ?_
 iterate 2 refine z7x ?_
 refine s_nil ?_; apply hK4; obtain ⟨r, hr9⟩ : ∃ r, made9 a b = r := ⟨_, rfl⟩
 have hr : r.ok := hr9 ▸ z58 a b
 have ht1 := hr.t1
 have ht2 := hr.t2
 have hd1 := hr.d1
 have hd2 := hr.d2
 have hn9 := n.toNat_lt
 have hm := zmp hr n
 have wA := zkm hr Pa
 have wT := zkm hr (Pn ((n.toNat : Int) % (r.top + 1)))
 refine srR z4n fun _ hK6 => ?_; refine z7x ?_; refine z97 ?_; refine ⟨a, b, rfl, ?_⟩; rw [hr9]; refine DRs_0 ?_
 first | refine exI ?_ | (intro cap1 hcap1; refine exI ?_)
 refine z7x ?_; refine zvq ?_; refine s_nil ?_; apply hK6; refine srR z4n fun _ hK8 => ?_; refine z97 ?_; refine exA (rulV r) (SV.as_refl _) ?_; refine z97 ?_; refine ⟨r, rfl, ?_⟩; rw [all_ok hr]; refine DRs_0 ?_
 first | refine exI ?_ | (intro cap1 hcap1; refine exI ?_)
 iterate 4 refine z7x ?_
 refine zvq ?_; refine z7x ?_; refine s_nil ?_; apply hK8; refine z2o (α := Unit) (fun _ => [(5, .c (.bool true)), (7, .c (.dp (dfaC (canD (langN r Pa))) 0)), (8, .c (.int .i64 0)), (9, .c (.ptr 0 0)), (10, .c (.int .i64 0))]) (fun _ => [(0, .own 30 (dfaC (canD (langN r (Pn ((n.toNat : Int) % (r.top + 1)))))) 3)]) 1 (fun _ => True) ?_ ?_
 ·refine leW [1, 2] id [(1, .c (.u8 n)), (5, .c (.bool true)), (7, .c (.dp (dfaC (canD (langN r Pa))) 0)), (8, .c (.int .i64 0)), (6, .c (.dp (rulC r) 0))] [] 0 [] uRs_0 uRs_0 uRs_0 uRs_0 ?_
  refine ziz z4n ?_; refine z1o z4n (g := 7) (by kernel_rfl) [(0, true), (1, true), (2, true), (3, true), (4, true), (5, true), (6, true)] (by kernel_rfl) fun _ hK10 => ?_; refine dXERs_8 ?_; refine exA (rulV r) (SV.as_refl _) ?_
  iterate 6 refine zkp ?_
  refine d_nil ?_; apply hK10; refine z2w [7, 11] (by kernel_rfl) (by decide) (List.forall_mem_cons.2 ⟨?_, List.forall_mem_cons.2 ⟨?_, fun _ h => by cases h⟩⟩)
  ·refine z0q z4n ?_
   refine DRs_0 ?_; refine ⟨r, ((n.toNat : Int) % (r.top + 1)), rfl, ?_⟩; rw [zi5 hr hm.1 hm.2]; refine DRs_0 ?_
   first | refine exI ?_ | (intro cap7 hcap7; refine exI ?_)
   refine z1o z4n (g := 0) (by kernel_rfl) [(8, true), (9, true), (10, true), (11, false), (12, false), (13, true)] (by kernel_rfl) fun _ hK11 => ?_
   iterate 3 refine zkp ?_
   refine gXRs_4 ?_; refine zvr ?_; refine zkp ?_; refine d_nil ?_; apply hK11; refine z1g (by kernel_rfl) ?_; refine dnS [] id () trivial [0] uRs_0 uRs_0 uRs_0 uRs_0
  ·refine z0q z4n ?_
   refine DRs_0 ?_; refine exI ?_; refine z1o z4n (g := 0) (by kernel_rfl) [(7, false), (8, true), (9, true), (10, true), (12, false), (13, true)] (by kernel_rfl) fun _ hK12 => ?_; refine gXERs_9 ?_; refine ⟨r, ((n.toNat : Int) % (r.top + 1)), rfl, ?_⟩; rw [zi5 hr hm.1 hm.2]; refine DRs_0 ?_
   first | refine exI ?_ | (intro cap7 hcap7; refine exI ?_)
   iterate 3 refine zkp ?_
   refine zvr ?_; refine zkp ?_; refine d_nil ?_; apply hK12; refine z1g (by kernel_rfl) ?_; refine dnS [] id () trivial [0] uRs_0 uRs_0 uRs_0 uRs_0
 ·intro u hu
  clear hu; refine srR z4n fun _ hK14 => ?_
  iterate 2 refine z7x ?_
  refine z97 ?_; refine exB (fun hb2 => ?_) (fun hb2 => ?_)
  rotate_left 1
  ·exfalso; first | exact absurd hb2 (by decide) | exact hb2 rfl | (simp at hb2; done) | omega
  iterate 2 refine zvs ?_
  refine z7x ?_; refine z97 ?_; refine exB (fun hb6 => ?_) (fun hb6 => ?_)
  rotate_left 1
  ·exfalso; first | exact absurd hb6 (by decide) | exact hb6 rfl | (simp at hb6; done) | omega
  refine zag ?_; refine exA (dfaV (canD (langN r Pa))) (SV.as_refl _) ?_; refine zag ?_; refine ⟨(canD (langN r Pa)), rfl, wA, ?_⟩; refine DRs_0 ?_
  first | refine exA (.c (.bool (true))) (as_eq (congrArg (fun v => SV.c (Cell.bool v)) (z6x (z5r hr Pa).1))) ?_ | (intro cap8 hcap8; refine exA (.c (.bool (true))) (as_eq (congrArg (fun v => SV.c (Cell.bool v)) (z6x (z5r hr Pa).1))) ?_)
  refine z7x ?_; refine z97 ?_; refine exB (fun hb10 => ?_) (fun hb10 => ?_)
  rotate_left 1
  ·exfalso; first | exact absurd hb10 (by decide) | exact hb10 rfl | (simp at hb10; done) | omega
  refine zag ?_; refine exA (dfaV (canD (langN r (Pn ((n.toNat : Int) % (r.top + 1)))))) (SV.as_refl _) ?_; refine zag ?_; refine ⟨(canD (langN r (Pn ((n.toNat : Int) % (r.top + 1))))), rfl, wT, ?_⟩; refine DRs_0 ?_
  first | refine exA (.c (.bool (true))) (as_eq (congrArg (fun v => SV.c (Cell.bool v)) (z6x (z5r hr (Pn _)).1))) ?_ | (intro cap12 hcap12; refine exA (.c (.bool (true))) (as_eq (congrArg (fun v => SV.c (Cell.bool v)) (z6x (z5r hr (Pn _)).1))) ?_)
  refine z7x ?_; refine z97 ?_; refine exB (fun hb14 => ?_) (fun hb14 => ?_)
  rotate_left 1
  ·exfalso; first | exact absurd hb14 (by decide) | exact hb14 rfl | (simp at hb14; done) | omega
  refine zvs ?_
  iterate 2 refine z7x ?_
  refine s_nil ?_; apply hK14; refine z0d (z08 z4n (fun _ _ h => h) (by first | rfl | assumption) [.tmp 4] rfl ?_); refine rtD ?_
  rfl


end Go.Proofs.YtppmnaoollkboaaDoor
