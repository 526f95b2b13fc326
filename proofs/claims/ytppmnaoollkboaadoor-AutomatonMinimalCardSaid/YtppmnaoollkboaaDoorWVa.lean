/- The reference: the validity of an automaton. -/
import Derived.Test.YtppmnaoollkboaaDoorQd
namespace Go.Proofs.YtppmnaoollkboaaDoor
set_option linter.all false
open Go.Ab Go.RowKit

theorem qVa0 {a : Prop} (h : a := by first | exact vcA | (simp [hc] <;> omega) | exact vcB) : a := h
theorem qVa1 {a : Prop} (h : a := by first | exact vcA | (simp [hc] <;> omega) | (refine ⟨by omega, by omega, ?_⟩; decide) | (simp [hc]; omega) | exact vcB) : a := h
theorem qVa2 {a : Prop} (h : a := by first | exact vcA | (simp [hw] <;> omega) | exact vcB) : a := h
theorem qVa3 {a : Prop} (h : a := by first | exact vcA | (simp [hw, hcl] <;> omega) | (show (clsAt cls k).length = 4; exact hcl) | exact hcl | exact vcB) : a := h
theorem qVa4 {a : Prop} (h : a := by first | exact vcA | (simp [hw, hcl] <;> omega) | exact vcB) : a := h
theorem qVa5 {a : Prop} (h : a := by first | exact vcA | (simp [hw1] <;> omega) | exact vcB) : a := h
theorem qVa6 {a : Prop} (h : a := by first | exact vcA | (simp <;> omega) | exact vcB) : a := h
theorem uVa_0 {a : Prop} (h : a := by
    repeat' (first | exact trivial | refine aI ?_ ?_ | exact cC0 | refine low_cons' ?_ ?_ | exact cC1 | fail)) : a := h
theorem uVa_1 {a : Prop} (h : a := by
    repeat' (first | exact trivial | refine aI ?_ ?_ | exact cC0 | refine low_cons' ?_ ?_ | exact cC1 | fail)
    all_goals first | omega | (rw [cntK, if_pos h_t42]; simp; done) | (rw [cntK, if_neg h_t42]) | skip) : a := h
theorem uVa_2 {a : Prop} (h : a := by
    repeat' (first | exact trivial | refine aI ?_ ?_ | exact cC0 | refine low_cons' ?_ ?_ | exact cC1 | fail)
    all_goals first | omega | exact z8l _ | exact low_cons' trivial (low_cons' trivial (low_cons' trivial low_nil')) | (simp; done) | (simp <;> omega) | skip) : a := h
theorem DVa_0 {a b : Prop} (kZ : b) (h : HidB b → a := by intro kZ; (repeat first | refine aI qVa0 ?_ | refine z06 qVa0 ?_ | refine z04 qVa0 ?_ | refine z0k qVa0 ?_ | refine z0a ?_); exact kZ.out) : a := h ⟨kZ⟩
theorem sXVa_1 {a b : Prop} (kZ : b) (h : HidB b → a := by intro kZ; refine sX ?_; refine DVa_0 ?_; refine exI ?_; exact kZ.out) : a := h ⟨kZ⟩
theorem DVa_2 {a b : Prop} (kZ : b) (h : HidB b → a := by intro kZ; (repeat first | refine aI qVa1 ?_ | refine z06 qVa1 ?_ | refine z04 qVa1 ?_ | refine z0k qVa1 ?_ | refine z0a ?_); exact kZ.out) : a := h ⟨kZ⟩
theorem sXVa_3 {a b : Prop} (kZ : b) (h : HidB b → a := by intro kZ; refine sX ?_; refine DVa_2 ?_; refine exI ?_; exact kZ.out) : a := h ⟨kZ⟩
theorem DVa_4 {a b : Prop} (kZ : b) (h : HidB b → a := by intro kZ; (repeat first | refine aI qVa2 ?_ | refine z06 qVa2 ?_ | refine z04 qVa2 ?_ | refine z0k qVa2 ?_ | refine z0a ?_); exact kZ.out) : a := h ⟨kZ⟩
theorem z46 {a b : Prop} (kZ : b) (h : HidB b → a := by intro kZ; refine sX ?_; refine DVa_4 ?_; refine exI ?_; exact kZ.out) : a := h ⟨kZ⟩
theorem sXTVa_6 {a b : Prop} (kZ : b) (h : HidB b → a := by intro kZ; refine sXT ?_; refine DVa_4 ?_; refine exI ?_; exact kZ.out) : a := h ⟨kZ⟩
theorem DVa_7 {a b : Prop} (kZ : b) (h : HidB b → a := by intro kZ; (repeat first | refine aI qVa3 ?_ | refine z06 qVa3 ?_ | refine z04 qVa3 ?_ | refine z0k qVa3 ?_ | refine z0a ?_); exact kZ.out) : a := h ⟨kZ⟩
theorem sXVa_8 {a b : Prop} (kZ : b) (h : HidB b → a := by intro kZ; refine sX ?_; refine DVa_7 ?_; refine exI ?_; exact kZ.out) : a := h ⟨kZ⟩
theorem DVa_9 {a b : Prop} (kZ : b) (h : HidB b → a := by intro kZ; (repeat first | refine aI qVa4 ?_ | refine z06 qVa4 ?_ | refine z04 qVa4 ?_ | refine z0k qVa4 ?_ | refine z0a ?_); exact kZ.out) : a := h ⟨kZ⟩
theorem zyq {a b : Prop} (kZ : b) (h : HidB b → a := by intro kZ; refine sX ?_; refine DVa_9 ?_; refine exI ?_; exact kZ.out) : a := h ⟨kZ⟩
theorem zh9 {a b : Prop} (kZ : b) (h : HidB b → a := by intro kZ; (repeat first | refine aI qVa5 ?_ | refine z06 qVa5 ?_ | refine z04 qVa5 ?_ | refine z0k qVa5 ?_ | refine z0a ?_); exact kZ.out) : a := h ⟨kZ⟩
theorem z2c {a b : Prop} (kZ : b) (h : HidB b → a := by intro kZ; refine sX ?_; refine zh9 ?_; refine exI ?_; exact kZ.out) : a := h ⟨kZ⟩
theorem zcb {a b : Prop} (kZ : b) (h : HidB b → a := by intro kZ; refine sXT ?_; refine zh9 ?_; refine exI ?_; exact kZ.out) : a := h ⟨kZ⟩
theorem zyr {a b : Prop} (kZ : b) (h : HidB b → a := by intro kZ; refine dX ?_; refine zh9 ?_; refine exI ?_; exact kZ.out) : a := h ⟨kZ⟩
theorem zml {a b : Prop} (kZ : b) (h : HidB b → a := by intro kZ; (repeat first | refine aI qVa6 ?_ | refine z06 qVa6 ?_ | refine z04 qVa6 ?_ | refine z0k qVa6 ?_ | refine z0a ?_); exact kZ.out) : a := h ⟨kZ⟩
theorem zka {a b : Prop} (kZ : b) (h : HidB b → a := by intro kZ; refine sX ?_; refine zml ?_; refine exI ?_; exact kZ.out) : a := h ⟨kZ⟩
theorem sXTVa_17 {a b : Prop} (kZ : b) (h : HidB b → a := by intro kZ; refine sXT ?_; refine zml ?_; refine exI ?_; exact kZ.out) : a := h ⟨kZ⟩
theorem sXEVa_18 {a b : Prop} (kZ : b) (h : HidB b → a := by intro kZ; refine sX ?_; refine DVa_4 ?_; exact kZ.out) : a := h ⟨kZ⟩
theorem sXEVa_19 {a b : Prop} (kZ : b) (h : HidB b → a := by intro kZ; refine sX ?_; refine DVa_9 ?_; exact kZ.out) : a := h ⟨kZ⟩
theorem zad {a b : Prop} (kZ : b) (h : HidB b → a := by intro kZ; refine sX ?_; refine zh9 ?_; exact kZ.out) : a := h ⟨kZ⟩
theorem zmm {a b : Prop} (kZ : b) (h : HidB b → a := by intro kZ; refine sXT ?_; refine zh9 ?_; exact kZ.out) : a := h ⟨kZ⟩
theorem dXEVa_22 {a b : Prop} (kZ : b) (h : HidB b → a := by intro kZ; refine dX ?_; refine zh9 ?_; exact kZ.out) : a := h ⟨kZ⟩
theorem sXEVa_23 {a b : Prop} (kZ : b) (h : HidB b → a := by intro kZ; refine sX ?_; refine zml ?_; exact kZ.out) : a := h ⟨kZ⟩
theorem zys {a b : Prop} (kZ : b) (h : HidB b → a := by intro kZ; refine sXT ?_; refine zml ?_; exact kZ.out) : a := h ⟨kZ⟩

open Go.Aut
def zha (c : List UInt64) (b : Nat) : Bool := decide (shr64 (c.getD (b / 64) 0) (b % 64) % 2 = 1)
def zp5 : QSpec := fun vs K => ∃ c : List UInt64, ∃ b : Nat, vs = [.agg (.u64s c), .c (.int .i64 b)] ∧ (c.length = 4 ∧ b < 256) ∧ K (.c (.bool (zha c b)))
theorem zmn : z16 Tryd.prog gl 34 zp5 := by
 refine z1a (Γ := g0) (N := 14) Tryd.func34 rfl rfl fun vs K h => ?_; obtain ⟨c, b, rfl, ⟨hc, hb⟩, h⟩ := h; refine ⟨_, h, rfl, by simp, fun w I => ?_⟩; refine seq_k fun _ hK1 => ?_; refine z00 g0_ok fun _ hK2 => ?_
 iterate 2 refine sXVa_1 ?_
 refine s_nil ?_; apply hK2; apply hK1; refine seq_k fun _ hK3 => ?_; refine z00 g0_ok fun _ hK4 => ?_
 iterate 10 refine sXVa_3 ?_
 refine s_nil ?_; apply hK4; apply hK3; refine z0f (z0d g0_ok (fun _ _ h => h) (by first | rfl | assumption) [.tmp 4] rfl ?_); refine rtD ?_
 show SV.c (.bool _) = _
 rw [zha, show 0 + ((b : Int) / 64).toNat * 1 = b / 64 by omega, show ((b : Int) % 64).toNat = b % 64 by omega]
 rfl

def cntK (cls : List UInt64) (b : Nat) : Nat → Nat
  | 0 => 0
  | k + 1 => if zha (clsAt cls k) b then cntK cls b k + 1 else cntK cls b k
theorem zyt (cls : List UInt64) (b : Nat) : ∀ k, cntK cls b k ≤ k
  | 0 => Nat.le_refl _
  | k + 1 => by
    have := zyt cls b k
    rw [cntK]; split <;> omega
def nzB (cls : List UInt64) (k : Nat) : Bool := !decide (clsAt cls k = Z4)
def oneB (cls : List UInt64) (nc b : Nat) : Bool := decide (cntK cls b nc = 1)
def partR (cls : List UInt64) (nc : Nat) : Bool := decide (1 ≤ nc ∧ nc ≤ 256) && (List.range nc).all (nzB cls) && (List.range 256).all (oneB cls nc)
noncomputable def n1 : Ctx := { P := Tryd.prog, ty := ty, glob := gl, fs := [(34, .flat zp5)] }
theorem n1_ok : n1.OK := ⟨tyOK, ⟨⟨z07 Tryd.func34 (by kernel_rfl) rfl, zmn⟩, trivial⟩, mixed⟩
@[simp] theorem n1_ty : n1.ty = ty := rfl

def partS : QSpec := fun vs K => ∃ cls : List UInt64, ∃ nc : Nat, vs = [.c (.ds nc (.u64s cls))] ∧ (cls.length = nc * 4 ∧ nc ≤ 9223372036854775807) ∧ K (.c (.bool (partR cls nc)))
theorem part_ok : z16 Tryd.prog gl 144 partS := by
 refine z1a (Γ := n1) (N := 47) Tryd.func144 rfl rfl fun vs K h => ?_; obtain ⟨cls, nc, rfl, ⟨hw, hn⟩, h⟩ := h; refine ⟨_, h, rfl, by simp, fun w I => ?_⟩; refine seq_k fun _ hK1 => ?_; refine z00 n1_ok fun _ hK2 => ?_; refine z46 ?_; refine s_nil ?_; apply hK2; apply hK1; refine seq_k fun _ hK3 => ?_; refine seq_k fun _ hK4 => ?_; refine z00 n1_ok fun _ hK5 => ?_
 iterate 3 refine z46 ?_
 refine sXEVa_18 ?_; refine exB (fun hb3 => ?_) (fun hb3 => ?_)
 ·try simp only [dQ, if_true, if_false, reduceIte] at hb3
  iterate 3 refine sN ?_
  refine z46 ?_; refine s_nil ?_; apply hK5; apply hK4; refine z08 (b := _) rfl (fun _ => ?_) (fun h_t14 => ?_)
  rotate_left 1
  ·exfalso; simp at h_t14
  refine seq_k fun _ hK6 => ?_; refine z00 n1_ok fun _ hK7 => ?_; refine z46 ?_; refine s_nil ?_; apply hK7; apply hK6; refine z0f (z0d n1_ok (fun _ _ h => h) (by first | rfl | assumption) [.tmp 2] rfl ?_); refine rtD ?_
  show SV.c (.bool false) = _
  rw [partR, decide_eq_false (fun hh => by omega), Bool.false_and, Bool.false_and]
 ·try simp only [dQ, if_true, if_false, reduceIte] at hb3
  iterate 3 refine sXTVa_6 ?_
  refine z46 ?_; refine s_nil ?_; apply hK5; apply hK4; refine z08 (b := _) rfl (fun h_t14 => ?_) (fun h_t14 => ?_)
  ·try simp only [dQ, if_true, if_false, reduceIte] at h_t14
   refine seq_k fun _ hK8 => ?_; refine z00 n1_ok fun _ hK9 => ?_; refine z46 ?_; refine s_nil ?_; apply hK9; apply hK8; refine z0f (z0d n1_ok (fun _ _ h => h) (by first | rfl | assumption) [.tmp 2] rfl ?_); refine rtD ?_
   show SV.c (.bool false) = _
   rw [partR, decide_eq_false (fun hh => by omega), Bool.false_and, Bool.false_and]
  ·try simp only [dQ, if_true, if_false, reduceIte] at h_t14
   refine z0c ?_; apply hK3; refine seq_k fun _ hK10 => ?_; refine seq_k fun _ hK11 => ?_
   have hbase : 1 ≤ nc ∧ nc ≤ 256 := by omega
   refine z00 n1_ok fun _ hK12 => ?_; refine z46 ?_; refine s_nil ?_; apply hK12; apply hK11; refine z09 ?_; refine z0t (α := Nat) (fun k => [(0, .c (.ds nc (.u64s cls))), (3, .c (.int .i64 k))]) (fun k => []) 0 (fun k => k ≤ nc ∧ (List.range k).all (nzB cls) = true) (fun k => nc - k) ?_ ?_
   ·refine dnS [] id 0 ⟨Nat.zero_le _, rfl⟩ [] uVa_0 uVa_0 uVa_0 uVa_0
   ·intro k hk
    refine seq_k fun _ hK13 => ?_; refine seq_k fun _ hK14 => ?_; refine z00 n1_ok fun _ hK15 => ?_
    iterate 4 refine z46 ?_
    refine s_nil ?_; apply hK15; apply hK14; refine z08 (b := _) rfl (fun h_t18 => ?_) (fun h_t18 => ?_)
    ·try simp only [dQ, if_true, if_false, reduceIte] at h_t18
     refine z0c ?_; apply hK13; refine seq_k fun _ hK16 => ?_; refine z09 ?_; refine seq_k fun _ hK17 => ?_
     have hkn : k < nc := by omega
     have hcl := z24 hw hkn
     have hsub : (Cont.u64s cls).sub ((k : Int).toNat * 4) (4 * 1) = .u64s (clsAt cls k) := rfl
     refine z00 n1_ok fun _ hK18 => ?_
     iterate 3 refine sXVa_8 ?_
     refine sX ?_; refine aI (by decide) ?_; refine aI (by simp only [z62]; omega) ?_; refine z0a ?_; rw [hsub]; refine exI ?_
     iterate 2 refine sXVa_8 ?_
     refine s_nil ?_; apply hK18; apply hK17; refine z08 (b := _) rfl (fun h_t26 => ?_) (fun h_t26 => ?_)
     ·try simp only [dQ, if_true, if_false, reduceIte] at h_t26
      refine seq_k fun _ hK19 => ?_; refine z00 n1_ok fun _ hK20 => ?_; refine z46 ?_; refine s_nil ?_; apply hK20; apply hK19; refine z0f (z0d n1_ok (fun _ _ h => h) (by first | rfl | assumption) [.tmp 2] rfl ?_); refine rtD ?_
      show SV.c (.bool false) = _
      rw [partR, z6w hkn (by rw [nzB, decide_eq_true (show clsAt cls k = Z4 from h_t26)]; rfl), Bool.and_false, Bool.false_and]
     ·try simp only [dQ, if_true, if_false, reduceIte] at h_t26
      refine z0c ?_; refine z0b ?_; apply hK16; refine z00 n1_ok fun _ hK21 => ?_
      iterate 3 refine z46 ?_
      refine s_nil ?_; apply hK21; refine dnS [] id (k + 1) ⟨⟨by omega, z77 hk.2 (by rw [nzB, decide_eq_false (show ¬ clsAt cls k = Z4 from h_t26)]; rfl)⟩, by omega⟩ [] ?_ ?_ ?_ ?_
      ·exact uVa_0
      ·exact uVa_0
      ·exact uVa_0
      ·exact uVa_0
    ·try simp only [dQ, if_true, if_false, reduceIte] at h_t18
     refine z0r ?_; refine z05 ?_; refine z05 ?_; refine z0m ?_; apply hK10; refine seq_k fun _ hK22 => ?_; refine seq_k fun _ hK23 => ?_
     obtain rfl : k = nc := by omega
     have hnz := hk.2
     refine z00 n1_ok fun _ hK24 => ?_; refine z46 ?_; refine s_nil ?_; apply hK24; apply hK23; refine z09 ?_; refine z0t (α := Nat) (fun b => [(0, .c (.ds k (.u64s cls))), (4, .c (.int .i64 b))]) (fun b => []) 0 (fun b => b ≤ 256 ∧ (List.range b).all (oneB cls k) = true) (fun b => 256 - b) ?_ ?_
     ·refine dnS [] id 0 ⟨Nat.zero_le _, rfl⟩ [] uVa_0 uVa_0 uVa_0 uVa_0
     ·intro b hb
      refine seq_k fun _ hK25 => ?_; refine seq_k fun _ hK26 => ?_; refine z00 n1_ok fun _ hK27 => ?_
      iterate 2 refine z46 ?_
      refine s_nil ?_; apply hK27; apply hK26; refine z08 (b := _) rfl (fun h_t28 => ?_) (fun h_t28 => ?_)
      ·try simp only [dQ, if_true, if_false, reduceIte] at h_t28
       refine z0c ?_; apply hK25; refine seq_k fun _ hK28 => ?_; refine z09 ?_; refine seq_k fun _ hK29 => ?_
       have hb256 : b < 256 := by omega
       refine z00 n1_ok fun _ hK30 => ?_; refine z46 ?_; refine s_nil ?_; apply hK30; apply hK29; refine seq_k fun _ hK31 => ?_; refine seq_k fun _ hK32 => ?_; refine z00 n1_ok fun _ hK33 => ?_; refine z46 ?_; refine s_nil ?_; apply hK33; apply hK32; refine z09 ?_; refine z0t (α := Nat) (fun j => [(0, .c (.ds k (.u64s cls))), (4, .c (.int .i64 b)), (5, .c (.int .i64 (cntK cls b j))), (6, .c (.int .i64 j))]) (fun j => []) 0 (fun j => j ≤ k) (fun j => k - j) ?_ ?_
       ·refine dnS [] id 0 (Nat.zero_le _) [] uVa_0 uVa_0 uVa_0 uVa_0
       ·intro j hj
        refine seq_k fun _ hK34 => ?_; refine seq_k fun _ hK35 => ?_; refine z00 n1_ok fun _ hK36 => ?_
        iterate 4 refine z46 ?_
        refine s_nil ?_; apply hK36; apply hK35; refine z08 (b := _) rfl (fun h_t34 => ?_) (fun h_t34 => ?_)
        ·try simp only [dQ, if_true, if_false, reduceIte] at h_t34
         refine z0c ?_; apply hK34; refine seq_k fun _ hK37 => ?_; refine z09 ?_; refine seq_k fun _ hK38 => ?_
         have hjn : j < k := by omega
         have hcl := z24 hw hjn
         have hsub : (Cont.u64s cls).sub ((j : Int).toNat * 4) (4 * 1) = .u64s (clsAt cls j) := rfl
         refine z00 n1_ok fun _ hK39 => ?_
         iterate 3 refine zyq ?_
         refine sX ?_; refine aI (by decide) ?_; refine aI (by simp only [z62]; omega) ?_; refine z0a ?_; rw [hsub]; refine exI ?_; refine zyq ?_; refine sXEVa_19 ?_; refine ⟨clsAt cls j, b, rfl, ⟨hcl, hb256⟩, ?_⟩; refine DVa_9 ?_
         first | refine exI ?_ | (intro cap5 hcap5; refine exI ?_)
         refine s_nil ?_; apply hK39; apply hK38; refine z08 (b := _) rfl (fun h_t42 => ?_) (fun h_t42 => ?_)
         ·have hcle := zyt cls b j
          refine z00 n1_ok fun _ hK40 => ?_
          iterate 3 refine z46 ?_
          refine s_nil ?_; apply hK40; refine z0b ?_; apply hK37; refine z00 n1_ok fun _ hK41 => ?_
          iterate 3 refine z46 ?_
          refine s_nil ?_; apply hK41; refine dnS [] id (j + 1) ⟨by omega, by omega⟩ [] uVa_1 uVa_0 uVa_0 uVa_0
         ·replace h_t42 : ¬ zha (clsAt cls j) b = true := by rw [h_t42]; decide
          refine z0c ?_; refine z0b ?_; apply hK37; refine z00 n1_ok fun _ hK42 => ?_
          iterate 3 refine z46 ?_
          refine s_nil ?_; apply hK42; refine dnS [] id (j + 1) ⟨by omega, by omega⟩ [] uVa_1 uVa_0 uVa_0 uVa_0
        ·try simp only [dQ, if_true, if_false, reduceIte] at h_t34
         refine z0r ?_; refine z05 ?_; refine z05 ?_; refine z0m ?_; apply hK31; refine seq_k fun _ hK43 => ?_
         obtain rfl : j = k := by omega
         refine z00 n1_ok fun _ hK44 => ?_
         iterate 2 refine z46 ?_
         refine s_nil ?_; apply hK44; apply hK43; refine z08 (b := _) rfl (fun h_t46 => ?_) (fun h_t46 => ?_)
         ·try simp only [dQ, if_true, if_false, reduceIte] at h_t46
          refine seq_k fun _ hK45 => ?_; refine z00 n1_ok fun _ hK46 => ?_; refine z46 ?_; refine s_nil ?_; apply hK46; apply hK45; refine z0f (z0d n1_ok (fun _ _ h => h) (by first | rfl | assumption) [.tmp 2] rfl ?_); refine rtD ?_
          show SV.c (.bool false) = _
          rw [partR, z6w hb256 (by rw [oneB, decide_eq_false (by omega)]), Bool.and_false]
         ·try simp only [dQ, if_true, if_false, reduceIte] at h_t46
          refine z0c ?_; refine z0b ?_; apply hK28; refine z00 n1_ok fun _ hK47 => ?_
          iterate 3 refine z46 ?_
          refine s_nil ?_; apply hK47; refine dnS [] id (b + 1) ⟨⟨by omega, z77 hb.2 (by rw [oneB, decide_eq_true (by omega)])⟩, by omega⟩ [] uVa_0 uVa_0 uVa_0 uVa_0
      ·try simp only [dQ, if_true, if_false, reduceIte] at h_t28
       refine z0r ?_; refine z05 ?_; refine z05 ?_; refine z0m ?_; apply hK22; refine seq_k fun _ hK48 => ?_; refine z00 n1_ok fun _ hK49 => ?_; refine z46 ?_; refine s_nil ?_; apply hK49; apply hK48; refine z0f (z0d n1_ok (fun _ _ h => h) (by first | rfl | assumption) [.tmp 2] rfl ?_); refine rtD ?_
       show SV.c (.bool true) = _
       obtain rfl : b = 256 := by omega
       rw [partR, decide_eq_true hbase, hnz, hb.2]
       rfl

def zan (d : Dfa) : Bool := decide (1 ≤ d.next.length ∧ d.acc.length = d.next.length) && partR d.cls d.nc && d.next.all (rowOK d.nc d.next.length)
def zhb (d : Dfa) : Bool := decide (d.next.length ≤ 64) && zan d
noncomputable def n2 : Ctx := { P := Tryd.prog, ty := ty, glob := gl, fs := [(144, .flat partS)] }
theorem n2_ok : n2.OK := ⟨tyOK, ⟨⟨z07 Tryd.func144 (by kernel_rfl) rfl, part_ok⟩, trivial⟩, mixed⟩
@[simp] theorem n2_ty : n2.ty = ty := rfl

def zyu : QSpec := fun vs K => ∃ d : Dfa, vs = [dfaV d] ∧ d.wf ∧ K (.c (.bool (zan d)))
set_option maxHeartbeats 1000000 in
theorem zyv : z16 Tryd.prog gl 89 zyu := by
 refine z1a (Γ := n2) (N := 70) Tryd.func89 rfl rfl fun vs K h => ?_; obtain ⟨d, rfl, ⟨hw1, hw2, hw3, hw4, hw5⟩, h⟩ := h; refine ⟨_, h, rfl, by simp, fun w I => ?_⟩; refine seq_k fun _ hK1 => ?_; refine z00 n2_ok fun _ hK2 => ?_
 iterate 2 refine z2c ?_
 refine s_nil ?_; apply hK2; apply hK1; refine seq_k fun _ hK3 => ?_; refine z00 n2_ok fun _ hK4 => ?_
 iterate 4 refine z2c ?_
 refine s_nil ?_; apply hK4; apply hK3; refine seq_k fun _ hK5 => ?_; refine seq_k fun _ hK6 => ?_; refine z00 n2_ok fun _ hK7 => ?_
 iterate 2 refine z2c ?_
 refine zad ?_; refine exB (fun hb2 => ?_) (fun hb2 => ?_)
 ·try simp only [dQ, if_true, if_false, reduceIte] at hb2
  iterate 5 refine sN ?_
  refine z2c ?_; refine zad ?_; refine exB (fun hb9 => ?_) (fun hb9 => ?_)
  rotate_left 1
  ·exfalso; simp at hb9
  iterate 4 refine sN ?_
  refine z2c ?_; refine s_nil ?_; apply hK7; apply hK6; refine z08 (b := _) rfl (fun _ => ?_) (fun h_t23 => ?_)
  rotate_left 1
  ·exfalso; simp at h_t23
  refine seq_k fun _ hK8 => ?_; refine z00 n2_ok fun _ hK9 => ?_; refine z2c ?_; refine s_nil ?_; apply hK9; apply hK8; refine z0f (z0d n2_ok (fun _ _ h => h) (by first | rfl | assumption) [.tmp 2] rfl ?_); refine rtD ?_
  show SV.c (.bool false) = _
  rw [zan, decide_eq_false (fun hh => by omega), Bool.false_and, Bool.false_and]
 ·try simp only [dQ, if_true, if_false, reduceIte] at hb2
  iterate 5 refine zcb ?_
  refine z2c ?_; refine zad ?_; refine exB (fun hb9 => ?_) (fun hb9 => ?_)
  ·try simp only [dQ, if_true, if_false, reduceIte] at hb9
   iterate 4 refine sN ?_
   refine z2c ?_; refine s_nil ?_; apply hK7; apply hK6; refine z08 (b := _) rfl (fun _ => ?_) (fun h_t23 => ?_)
   rotate_left 1
   ·exfalso; simp at h_t23
   refine seq_k fun _ hK10 => ?_; refine z00 n2_ok fun _ hK11 => ?_; refine z2c ?_; refine s_nil ?_; apply hK11; apply hK10; refine z0f (z0d n2_ok (fun _ _ h => h) (by first | rfl | assumption) [.tmp 2] rfl ?_); refine rtD ?_
   show SV.c (.bool false) = _
   rw [zan, decide_eq_false (fun hh => by omega), Bool.false_and, Bool.false_and]
  ·try simp only [dQ, if_true, if_false, reduceIte] at hb9
   iterate 2 refine zcb ?_
   refine zmm ?_; refine ⟨d.cls, d.nc, rfl, ⟨hw1, hw2⟩, ?_⟩; refine zh9 ?_
   first | refine exI ?_ | (intro cap12 hcap12; refine exI ?_)
   refine zcb ?_; refine z2c ?_; refine s_nil ?_; apply hK7; apply hK6; refine z08 (b := _) rfl (fun h_t23 => ?_) (fun h_t23 => ?_)
   ·try simp only [dQ, if_true, if_false, reduceIte] at h_t23
    refine seq_k fun _ hK12 => ?_; refine z00 n2_ok fun _ hK13 => ?_; refine z2c ?_; refine s_nil ?_; apply hK13; apply hK12; refine z0f (z0d n2_ok (fun _ _ h => h) (by first | rfl | assumption) [.tmp 2] rfl ?_); refine rtD ?_
    show SV.c (.bool false) = _
    rw [zan, show partR d.cls d.nc = false by simpa using h_t23, Bool.and_false, Bool.false_and]
   ·try simp only [dQ, if_true, if_false, reduceIte] at h_t23
    refine z0c ?_; apply hK5; refine seq_k fun _ hK14 => ?_; refine seq_k fun _ hK15 => ?_
    have hbase : 1 ≤ d.next.length ∧ d.acc.length = d.next.length := by omega
    have hpart : partR d.cls d.nc = true := by simpa using h_t23
    refine z00 n2_ok fun _ hK16 => ?_; refine z2c ?_; refine s_nil ?_; apply hK16; apply hK15; refine z09 ?_; refine z0t (α := Nat) (fun k => [(1, .c (.ptr 0 0)), (3, .c (.int .i64 d.next.length)), (4, .c (.int .i64 k))]) (fun k => [(0, .own 30 (dfaC d) 3)]) 1 (fun k => k ≤ d.next.length ∧ (d.next.take k).all (rowOK d.nc d.next.length) = true) (fun k => d.next.length - k) ?_ ?_
    ·refine dnS [] id 0 ⟨Nat.zero_le _, rfl⟩ [0] uVa_2 uVa_2 uVa_2 uVa_2
    ·intro k hk
     refine seq_k fun _ hK17 => ?_; refine seq_k fun _ hK18 => ?_; refine z00 n2_ok fun _ hK19 => ?_
     iterate 3 refine z2c ?_
     refine s_nil ?_; apply hK19; apply hK18; refine z08 (b := _) rfl (fun h_t26 => ?_) (fun h_t26 => ?_)
     ·try simp only [dQ, if_true, if_false, reduceIte] at h_t26
      refine z0c ?_; apply hK17; refine seq_k fun _ hK20 => ?_; refine z09 ?_; refine seq_k fun _ hK21 => ?_; refine seq_k fun _ hK22 => ?_
      have hkn : k < d.next.length := by omega
      have hrl := hw5 _ (z2i (d := []) hkn)
      refine z3l n2_ok [(0, true), (1, true), (2, true), (3, true), (4, true), (5, true), (6, true), (7, true), (8, true), (9, true)] rfl (by kernel_rfl) (by kernel_rfl) fun _ hK23 => ?_
      iterate 4 refine zyr ?_
      refine dXEVa_22 ?_; rw [show (k : Int).toNat * 1 = k by omega, z6v hkn]; refine exI ?_
      iterate 5 refine zyr ?_
      refine d_nil ?_; apply hK23; apply hK22; refine z08 (b := _) rfl (fun h_t38 => ?_) (fun h_t38 => ?_)
      ·try simp only [dQ, if_true, if_false, reduceIte] at h_t38
       try simp only [Int.toNat_natCast, Nat.mul_one] at h_t38
       refine seq_k fun _ hK24 => ?_; refine z00 n2_ok fun _ hK25 => ?_; refine z2c ?_; refine s_nil ?_; apply hK25; apply hK24; refine z0f (z0d n2_ok (fun _ _ h => h) (by first | rfl | assumption) [.tmp 2] rfl ?_); refine rtD ?_
       show SV.c (.bool false) = _
       rw [zan, zai (d := []) hkn (by rw [rowOK, decide_eq_false (by omega), Bool.false_and]), Bool.and_false]
      ·try simp only [dQ, if_true, if_false, reduceIte] at h_t38
       try simp only [Int.toNat_natCast, Nat.mul_one] at h_t38
       refine z0c ?_; apply hK21; refine seq_k fun _ hK26 => ?_; refine z00 n2_ok fun _ hK27 => ?_; refine z2c ?_; refine s_nil ?_; apply hK27; apply hK26; refine z09 ?_; refine z0t (α := Nat) (fun j => [(1, .c (.ptr 0 0)), (3, .c (.int .i64 d.next.length)), (4, .c (.int .i64 k)), (5, .c (.int .i64 j))]) (fun j => [(0, .own 30 (dfaC d) 3)]) 1 (fun j => j ≤ (d.next.getD k []).length ∧ ((d.next.getD k []).take j).all (tgtOK d.next.length) = true) (fun j => (d.next.getD k []).length - j) ?_ ?_
       ·refine dnS [] id 0 ⟨Nat.zero_le _, rfl⟩ [0] uVa_2 uVa_2 uVa_2 uVa_2
       ·intro j hj
        refine seq_k fun _ hK28 => ?_; refine seq_k fun _ hK29 => ?_; refine z00 n2_ok fun _ hK30 => ?_
        iterate 5 refine z2c ?_
        refine zad ?_; rw [show (k : Int).toNat * 1 = k by omega, z6v hkn]; refine exI ?_
        iterate 2 refine z2c ?_
        refine s_nil ?_; apply hK30; apply hK29; refine z08 (b := _) rfl (fun h_t46 => ?_) (fun h_t46 => ?_)
        ·try simp only [dQ, if_true, if_false, reduceIte] at h_t46
         try simp only [Int.toNat_natCast, Nat.mul_one] at h_t46
         refine z0c ?_; apply hK28; refine seq_k fun _ hK31 => ?_; refine z09 ?_; refine seq_k fun _ hK32 => ?_
         have hjn : j < (d.next.getD k []).length := by omega
         refine z00 n2_ok fun _ hK33 => ?_
         iterate 4 refine z2c ?_
         refine zad ?_; rw [show (k : Int).toNat * 1 = k by omega, z6v hkn]; refine exI ?_
         iterate 4 refine z2c ?_
         refine zad ?_; refine exB (fun hb9 => ?_) (fun hb9 => ?_)
         ·try simp only [dQ, if_true, if_false, reduceIte] at hb9
          iterate 10 refine sN ?_
          refine z2c ?_; refine s_nil ?_; apply hK33; apply hK32; refine z08 (b := _) rfl (fun _ => ?_) (fun h_t69 => ?_)
          rotate_left 1
          ·exfalso; simp at h_t69
          refine seq_k fun _ hK34 => ?_
          have htb : tgtOK d.next.length ((d.next.getD k []).getD j 0) = false := by
           simp only [tgtOK, Bool.and_eq_false_iff, decide_eq_false_iff_not]
           first | (simp only [Int.toNat_natCast, Nat.mul_one] at hb9 h_t69; omega) | (simp only [Int.toNat_natCast, Nat.mul_one] at hb9; omega)
          refine z00 n2_ok fun _ hK35 => ?_; refine z2c ?_; refine s_nil ?_; apply hK35; apply hK34; refine z0f (z0d n2_ok (fun _ _ h => h) (by first | rfl | assumption) [.tmp 2] rfl ?_); refine rtD ?_
          show SV.c (.bool false) = _
          rw [zan, zai (d := []) hkn (by rw [rowOK, zai (d := 0) hjn htb, Bool.and_false]), Bool.and_false]
         ·try simp only [dQ, if_true, if_false, reduceIte] at hb9
          iterate 4 refine zcb ?_
          refine zmm ?_; rw [show (k : Int).toNat * 1 = k by omega, z6v hkn]; refine exI ?_
          iterate 5 refine zcb ?_
          refine z2c ?_; refine s_nil ?_; apply hK33; apply hK32; refine z08 (b := _) rfl (fun h_t69 => ?_) (fun h_t69 => ?_)
          ·try simp only [dQ, if_true, if_false, reduceIte] at h_t69
           refine seq_k fun _ hK36 => ?_
           have htb : tgtOK d.next.length ((d.next.getD k []).getD j 0) = false := by
            simp only [tgtOK, Bool.and_eq_false_iff, decide_eq_false_iff_not]
            first | (simp only [Int.toNat_natCast, Nat.mul_one] at hb9 h_t69; omega) | (simp only [Int.toNat_natCast, Nat.mul_one] at hb9; omega)
           refine z00 n2_ok fun _ hK37 => ?_; refine z2c ?_; refine s_nil ?_; apply hK37; apply hK36; refine z0f (z0d n2_ok (fun _ _ h => h) (by first | rfl | assumption) [.tmp 2] rfl ?_); refine rtD ?_
           show SV.c (.bool false) = _
           rw [zan, zai (d := []) hkn (by rw [rowOK, zai (d := 0) hjn htb, Bool.and_false]), Bool.and_false]
          ·try simp only [dQ, if_true, if_false, reduceIte] at h_t69
           refine z0c ?_; refine z0b ?_; apply hK31
           have htg : tgtOK d.next.length ((d.next.getD k []).getD j 0) = true := by simp only [tgtOK, Bool.and_eq_true, decide_eq_true_eq]; simp only [Int.toNat_natCast, Nat.mul_one] at hb9 h_t69; exact ⟨by omega, by omega⟩
           refine z00 n2_ok fun _ hK38 => ?_
           iterate 3 refine z2c ?_
           refine s_nil ?_; apply hK38; refine dnS [] id (j + 1) ⟨⟨by omega, z64 (d := 0) hjn hj.2 htg⟩, by omega⟩ [0] uVa_2 uVa_2 uVa_2 uVa_2
        ·try simp only [dQ, if_true, if_false, reduceIte] at h_t46
         try simp only [Int.toNat_natCast, Nat.mul_one] at h_t46
         refine z0r ?_; refine z05 ?_; refine z05 ?_; refine z0m ?_; refine z0b ?_; apply hK20
         have hrow : rowOK d.nc d.next.length (d.next.getD k []) = true := by
          have h1 := hj.2
          rw [List.take_of_length_le (by omega)] at h1; rw [rowOK, h1, decide_eq_true (by omega)]; rfl
         refine z00 n2_ok fun _ hK39 => ?_
         iterate 3 refine z2c ?_
         refine s_nil ?_; apply hK39; refine dnS [] id (k + 1) ⟨⟨by omega, z64 (d := []) hkn hk.2 hrow⟩, by omega⟩ [0] uVa_2 uVa_2 uVa_2 uVa_2
     ·try simp only [dQ, if_true, if_false, reduceIte] at h_t26
      refine z0r ?_; refine z05 ?_; refine z05 ?_; refine z0m ?_; apply hK14; refine seq_k fun _ hK40 => ?_; refine z00 n2_ok fun _ hK41 => ?_; refine z2c ?_; refine s_nil ?_; apply hK41; apply hK40; refine z0f (z0d n2_ok (fun _ _ h => h) (by first | rfl | assumption) [.tmp 2] rfl ?_); refine rtD ?_
      show SV.c (.bool true) = _
      obtain rfl : k = d.next.length := by omega
      have h1 := hk.2
      rw [List.take_length] at h1; rw [zan, decide_eq_true hbase, hpart, h1]
      rfl

noncomputable def n3 : Ctx := { P := Tryd.prog, ty := ty, glob := gl, fs := [(89, .flat zyu)] }
theorem n3_ok : n3.OK := ⟨tyOK, ⟨⟨z07 Tryd.func89 (by kernel_rfl) rfl, zyv⟩, trivial⟩, mixed⟩
@[simp] theorem n3_ty : n3.ty = ty := rfl

def zru : QSpec := fun vs K => ∃ d : Dfa, vs = [dfaV d] ∧ d.wf ∧ K (.c (.bool (zhb d)))
theorem zti : z16 Tryd.prog gl 32 zru := by
 refine z1a (Γ := n3) (N := 11) Tryd.func32 rfl rfl fun vs K h => ?_; obtain ⟨d, rfl, hw, h⟩ := h; refine ⟨_, h, rfl, by simp, fun w I => ?_⟩
 have hw' := hw
 obtain ⟨hw1, hw2, hw3, hw4, hw5⟩ := hw'; refine seq_k fun _ hK1 => ?_; refine z00 n3_ok fun _ hK2 => ?_
 iterate 2 refine zka ?_
 refine s_nil ?_; apply hK2; apply hK1; refine seq_k fun _ hK3 => ?_; refine z00 n3_ok fun _ hK4 => ?_
 iterate 4 refine zka ?_
 refine sXEVa_23 ?_; refine exB (fun hb4 => ?_) (fun hb4 => ?_)
 ·try simp only [dQ, if_true, if_false, reduceIte] at hb4
  refine sXTVa_17 ?_; refine zys ?_; refine ⟨d, rfl, hw, ?_⟩; refine zml ?_
  first | refine exI ?_ | (intro cap6 hcap6; refine exI ?_)
  iterate 2 refine zka ?_
  refine s_nil ?_; apply hK4; apply hK3; refine z0f (z0d n3_ok (fun _ _ h => h) (by first | rfl | assumption) [.tmp 2] rfl ?_); refine rtD ?_
  show SV.c (.bool _) = _
  rw [zhb, decide_eq_true (by omega)]
  rfl
 ·try simp only [dQ, if_true, if_false, reduceIte] at hb4
  iterate 2 refine sN ?_
  iterate 2 refine zka ?_
  refine s_nil ?_; apply hK4; apply hK3; refine z0f (z0d n3_ok (fun _ _ h => h) (by first | rfl | assumption) [.tmp 2] rfl ?_); refine rtD ?_
  show SV.c (.bool false) = _
  rw [zhb, decide_eq_false (by omega), Bool.false_and]


end Go.Proofs.YtppmnaoollkboaaDoor
