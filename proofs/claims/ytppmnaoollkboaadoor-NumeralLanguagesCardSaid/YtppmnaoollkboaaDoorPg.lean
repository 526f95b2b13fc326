/- Part 7 of what the claims of this seat share: the walk's engine, the functions' contracts, plain mathematics (Un). -/
import Derived.Test.YtppmnaoollkboaaDoorPd
import Derived.Test.YtppmnaoollkboaaDoorPe
namespace Go.Proofs.YtppmnaoollkboaaDoor
set_option linter.all false
open Go.Ab Go.RowKit

theorem qUn0 {a : Prop} (h : a := by first | exact vcA | (simp [-List.reduceReplicate] <;> omega) | exact vTh | exact ⟨by omega, by omega, trivial⟩ | (simp only [z7c, zhj]; omega) | (rw [z7c, zhj]; omega) | (simp only [z5f, z7q]; omega) | (simp only [z5f, zb4]; exact hcb.1) | (simp only [z5f, zb4]; have := hcb.1; show _ < t.nc; omega) | exact vcB) : a := h
theorem qUn1 {a : Prop} (h : a := by first | exact vcA | (simp [-List.reduceReplicate] <;> omega) | exact vTh | (simp only [z5e, z2g]; omega) | (simp only [z5f, zb4]; have := hcb.1; show _ < t.nc; omega) | (show _ ∧ _; refine ⟨by omega, by omega, ?_⟩) | exact vcB) : a := h
theorem uUn_0 {a : Prop} (h : a := by
    repeat' (first | assumption | exact ztt | exact zo5 | exact z8e zeh _ _ | exact z2p zeh _ | exact pT  | exact trivial | refine aI ?_ ?_ | exact cC0 | refine low_cons' ?_ ?_ | exact cC1 | fail)
    all_goals first | omega | exact ztt | exact zo5 | exact hM0 | (refine Eq.symm (if_pos (And.intro rfl ?_)); first | exact hw5 | (show (natsI _).length = _; rw [z3n, Nat.mul_one])) | (rw [Nat.zero_add]; exact Nat.le_of_eq hw5.symm) | exact hL0 | exact hL1 | (show (_ : List Int) = _; first | assumption | rfl) | (show (_ : List UInt8) = _; first | assumption | exact hK0 | rfl) | (show (_ : List UInt64) = _; first | assumption | rfl) | (show (_ : List (SV × SV)) = _; first | assumption | rfl) | exact z8e zeh _ _ | exact z2p zeh _ | (rw [hX4]; exact z2p zeh _) | (show (0 : Nat) < (z07 _ _ _ _).length; rw [z06 hcl]; decide) | (simp [-List.reduceReplicate]; done) | (simp [-List.reduceReplicate] <;> omega) | skip) : a := h
theorem DUn_0 {a b : Prop} (kZ : b) (h : HidB b → a := by intro kZ; (repeat first | refine aI qUn0 ?_ | refine z09 qUn0 ?_ | refine z04 qUn0 ?_ | refine z0h qUn0 ?_ | refine z0c ?_); exact kZ.out) : a := h ⟨kZ⟩
theorem z0y {a b : Prop} (kZ : b) (h : HidB b → a := by intro kZ; refine sX ?_; refine DUn_0 ?_; refine exI ?_; exact kZ.out) : a := h ⟨kZ⟩
theorem zmc {a b : Prop} (kZ : b) (h : HidB b → a := by intro kZ; refine sX0 ?_; refine DUn_0 ?_; refine exI ?_; exact kZ.out) : a := h ⟨kZ⟩
theorem DUn_3 {a b : Prop} (kZ : b) (h : HidB b → a := by intro kZ; (repeat first | refine aI qUn1 ?_ | refine z09 qUn1 ?_ | refine z04 qUn1 ?_ | refine z0h qUn1 ?_ | refine z0c ?_); exact kZ.out) : a := h ⟨kZ⟩
theorem zjz {a b : Prop} (kZ : b) (h : HidB b → a := by intro kZ; refine dX ?_; refine DUn_3 ?_; refine exI ?_; exact kZ.out) : a := h ⟨kZ⟩
theorem gXUn_5 {a b : Prop} (kZ : b) (h : HidB b → a := by intro kZ; refine gX ?_; refine DUn_3 ?_; refine exI ?_; exact kZ.out) : a := h ⟨kZ⟩
theorem z4a {a b : Prop} (kZ : b) (h : HidB b → a := by intro kZ; refine sX ?_; refine DUn_0 ?_; exact kZ.out) : a := h ⟨kZ⟩
theorem zhk {a b : Prop} (kZ : b) (h : HidB b → a := by intro kZ; refine dX ?_; refine DUn_3 ?_; exact kZ.out) : a := h ⟨kZ⟩
theorem ztx {a b : Prop} (kZ : b) (h : HidB b → a := by intro kZ; refine gX ?_; refine DUn_3 ?_; exact kZ.out) : a := h ⟨kZ⟩
theorem gX0EUn_9 {a b : Prop} (kZ : b) (h : HidB b → a := by intro kZ; refine gX0 ?_; refine DUn_3 ?_; exact kZ.out) : a := h ⟨kZ⟩

open Go.Aut
attribute [local irreducible] z0j z1t zl z07 z0w putB encN kcN fillN mof mks mcs ofC putC
noncomputable def gm1 : Ctx := { P := Tryd.prog, ty := ty, glob := gl, fs := [(155, .flat ofBS), (107, .flat zns)] }
theorem z1p : gm1.OK := ⟨tyOK, ⟨⟨z03 Tryd.func155 (by kernel_rfl) rfl, ofB_ok⟩, ⟨z03 Tryd.func107 (by kernel_rfl) rfl, zh7⟩, trivial⟩, mixed⟩
@[simp] theorem gm1_ty : gm1.ty = ty := rfl

def mergeS : NSpec := fun vs K => ∃ (t : Tab) (bl reps l : List Nat), vs = [tabV t, .c (.ds bl.length (.ints .i64 (natsI bl))), .c (.ds reps.length (.ints .i64 (natsI reps)))] ∧ t.fit ∧ BlkOut (tblT t) l bl reps t.next.length ∧ (∀ s ∈ l, s < t.next.length) ∧ ∀ cw : List UInt64, Cw (tblT t) (blkF bl) (rpF reps) reps.length cw (ncC (tblT t) (blkF bl) (rpF reps) reps.length) 256 → K (.tup [.c (.ds (mC t bl reps 256).length (.ints .i64 (natsI (mC t bl reps 256)))), .c (.ds (mC t bl reps 256).length (.u64s cw))]) [] 0
set_option maxHeartbeats 2000000 in
set_option maxRecDepth 4000 in
theorem merge_ok : NewOK Tryd.prog gl 141 mergeS := by
 refine new_of (Γ := gm1) (N := 124) Tryd.func141 rfl rfl fun vs K h => ?_; obtain ⟨t, bl, reps, l, rfl, ht, ho, hlt, h⟩ := h; refine ⟨by simp, fun w I => ?_⟩; obtain ⟨hok, hlen, hnc⟩ := ht
 have hcl := hok.clen
 have hrl : reps.length ≤ 65535 := Nat.le_trans (zg4 ho hlt) hlen
 refine srR z1p fun _ hK2 => ?_
 iterate 3 refine z0y ?_
 refine s_nil ?_; apply hK2; refine srR z1p fun _ hK4 => ?_
 iterate 2 refine z0y ?_
 refine s_nil ?_; apply hK4; refine srR z1p fun _ hK6 => ?_; refine z0y ?_; refine s_nil ?_; apply hK6; refine srR z1p fun _ hK8 => ?_; refine z0y ?_; refine s_nil ?_; apply hK8; refine leW [0] (fun _ => 1) [(1, .c (.ds bl.length (.ints .i64 (natsI bl)))), (2, .c (.ds reps.length (.ints .i64 (natsI reps)))), (3, .c (.dp (tabC t) 0)), (8, .c (.map 0)), (9, .c .nils), (10, .c .nils)] [(0, .mp 184 [])] 1 [1] uUn_0 uUn_0 uUn_0 uUn_0 ?_; refine srR z1p fun _ hK10 => ?_; refine z0y ?_; refine z4a ?_; refine exA (.c (.int .i64 (t.nc : Nat))) (as_eq (congrArg SV.c (tab_ncl hcl))) ?_
 iterate 2 refine z0y ?_
 refine s_nil ?_; apply hK10; refine seq_k fun _ hK11 => ?_; refine srR z1p fun _ hK13 => ?_
 iterate 3 refine z0y ?_
 refine s_nil ?_; apply hK13; refine z05 ?_; refine z0p (α := Nat) (fun k => [(1, .c (.ds bl.length (.ints .i64 (natsI bl)))), (2, .c (.ds reps.length (.ints .i64 (natsI reps)))), (3, .c (.dp (tabC t) 0)), (8, .c (.map 1)), (9, .c .nils), (10, .c .nils), (11, .c (.slice 0 0 t.nc t.nc)), (26, .c (.int .i64 (t.nc : Nat))), (27, .c (.int .i64 (k : Nat)))]) (fun k => [(0, .own 3 (.ints .i64 (fillN t.nc (-1) k)) t.nc), (1, .mp 184 [])]) 2 (fun k => k ≤ t.nc) (fun k => t.nc - k) ?_ ?_
 ·have hZ : List.replicate t.nc (0 : Int) = fillN t.nc (-1) 0 := (zbc _ _).symm
  refine dnS [] (fun i => if i = 0 then 1 else 0) 0 (Nat.zero_le _) [1, 0] uUn_0 uUn_0 uUn_0 uUn_0
 ·intro k hk
  refine srR z1p fun _ hK15 => ?_; refine z0y ?_; refine s_nil ?_; apply hK15; refine seq_k fun _ hK16 => ?_; refine z02 (b := _) rfl (fun h_t28 => ?_) (fun h_t28 => ?_)
  ·try simp only [dQ, if_true, if_false, reduceIte] at h_t28
   refine z0a ?_; apply hK16; refine seq_k fun _ hK17 => ?_; refine z05 ?_; refine srR z1p fun _ hK19 => ?_
   iterate 2 refine z0y ?_
   refine s_nil ?_; apply hK19
   have hkl : k < t.nc := by omega
   refine z01 z1p fun _ hK20 => ?_
   iterate 3 refine z0y ?_
   refine zmc ?_; refine s_nil ?_; apply hK20; refine z0b ?_; apply hK17; refine z01 z1p fun _ hK21 => ?_
   iterate 2 refine z0y ?_
   refine s_nil ?_; apply hK21
   have hX1 : (fillN t.nc (-1) k).set (0 + ((k : Nat) : Int).toNat * 1) (-1) = fillN t.nc (-1) (k + 1) := by rw [show 0 + ((k : Nat) : Int).toNat * 1 = k by omega]; exact zej _ hkl
   refine dnS [] id (k + 1) ⟨by omega, by omega⟩ [0, 1] uUn_0 uUn_0 uUn_0 uUn_0
  ·try simp only [dQ, if_true, if_false, reduceIte] at h_t28
   refine z0k ?_; refine z00 ?_; refine z00 ?_; refine z0f ?_; apply hK11; refine seq_k fun _ hK22 => ?_; refine srR z1p fun _ hK24 => ?_; refine z0y ?_; refine s_nil ?_; apply hK24; refine z05 ?_
   obtain rfl : k = t.nc := by omega
   refine zn6 9 3 (.ints .i64 []) rfl rfl trivial ?_; refine zn6 10 50 (.u64s []) rfl rfl trivial ?_; refine z0p (α := Nat × List UInt64 × Nat × Nat) (fun g => [(1, .c (.ds bl.length (.ints .i64 (natsI bl)))), (2, .c (.ds reps.length (.ints .i64 (natsI reps)))), (3, .c (.dp (tabC t) 0)), (8, .c (.map 1)), (9, .c (.slice 2 0 (mC t bl reps g.1).length g.2.2.1)), (10, .c (.slice 3 0 (mC t bl reps g.1).length g.2.2.2)), (11, .c (.slice 0 0 t.nc t.nc)), (34, .c (.int .i64 (g.1 : Nat)))]) (fun g => [(0, .own 3 (.ints .i64 (mO t bl reps g.1)) t.nc), (1, .mp 184 (mapE eL (mK t bl reps g.1))), (2, .own 3 (.ints .i64 (natsI (mC t bl reps g.1))) g.2.2.1), (3, .own 50 (.u64s g.2.1) (g.2.2.2 * 4))]) 4 (fun g => g.1 ≤ 256 ∧ Cw (tblT t) (blkF bl) (rpF reps) reps.length g.2.1 (mC t bl reps g.1).length g.1 ∧ (mC t bl reps g.1).length ≤ g.2.2.1 ∧ (mC t bl reps g.1).length ≤ g.2.2.2) (fun g => 256 - g.1) ?_ ?_
   ·have hZ : fillN t.nc (-1) t.nc = (mO t bl reps 0) := by rw [zei]; exact mO_zero t bl reps
    have hL0 : 0 = (mC t bl reps 0).length := by rw [zts]; rfl
    have hM0 := mK_zero t bl reps
    have hN0 : ([] : List Int) = natsI (mC t bl reps 0) := by rw [zts]; rfl
    refine dnS [] id (0, [], 0, 0) ⟨Nat.zero_le _, mC_cw t bl reps, mC_zl t bl reps, mC_zl t bl reps⟩ [0, 1, 2, 3] uUn_0 uUn_0 uUn_0 uUn_0
   ·intro g hg
    have hg1 := hg.1
    have hcw := hg.2.1
    have h9 := hg.2.2.1
    have h10 := hg.2.2.2
    have hcwl := hcw.len
    have hml := z47 (t := tblT t) (block := blkF bl) (reps := rpF reps) (k := reps.length) g.1
    have hmb : (mC t bl reps g.1).length ≤ 256 := Nat.le_trans (mC_le t bl reps g.1) hg1
    refine srR z1p fun _ hK26 => ?_; refine z0y ?_; refine s_nil ?_; apply hK26; refine seq_k fun _ hK27 => ?_; refine z02 (b := _) rfl (fun h_t35 => ?_) (fun h_t35 => ?_)
    ·try simp only [dQ, if_true, if_false, reduceIte] at h_t35
     refine z0a ?_; apply hK27; refine seq_k fun _ hK28 => ?_; refine z05 ?_; refine srR z1p fun _ hK30 => ?_
     iterate 2 refine z0y ?_
     refine s_nil ?_; apply hK30
     have hb256 : g.1 < 256 := by omega
     have hcb := cellN hok hb256
     refine srR z1p fun _ hK32 => ?_
     iterate 3 refine z0y ?_
     refine z4a ?_; refine exA (.c (.int .i64 ((((tblT t).cell g.1) : Nat) : Int))) (as_eq (congrArg SV.c ((zti hcl (by first | omega | (simp; done)) hb256).trans (congrArg (Cell.int IntKind.i64) hcb.2)))) ?_; refine z0y ?_; refine s_nil ?_; apply hK32; refine z2o (α := List UInt64 × Nat × Nat) (fun y => [(1, .c (.ds bl.length (.ints .i64 (natsI bl)))), (2, .c (.ds reps.length (.ints .i64 (natsI reps)))), (3, .c (.dp (tabC t) 0)), (8, .c (.map 1)), (9, .c (.slice 2 0 (mC t bl reps (g.1 + 1)).length y.2.1)), (10, .c (.slice 3 0 (mC t bl reps (g.1 + 1)).length y.2.2)), (11, .c (.slice 0 0 t.nc t.nc)), (34, .c (.int .i64 (g.1 : Nat))), (13, .c (.int .i64 (g.1 : Nat))), (14, .c (.int .i64 (((tblT t).cell g.1) : Nat)))]) (fun y => [(0, .own 3 (.ints .i64 (mO t bl reps (g.1 + 1))) t.nc), (1, .mp 184 (mapE eL (mK t bl reps (g.1 + 1)))), (2, .own 3 (.ints .i64 (natsI (mC t bl reps (g.1 + 1)))) y.2.1), (3, .own 50 (.u64s y.1) (y.2.2 * 4))]) 4 (fun y => Cw (tblT t) (blkF bl) (rpF reps) reps.length y.1 (mC t bl reps (g.1 + 1)).length g.1 ∧ (mC t bl reps (g.1 + 1)).length ≤ y.2.1 ∧ (mC t bl reps (g.1 + 1)).length ≤ y.2.2) ?_ ?_
     ·refine srR z1p fun _ hK34 => ?_
      iterate 3 refine z0y ?_
      refine z4a ?_; refine exA (.c (.int .i64 ((mO t bl reps g.1).getD ((tblT t).cell g.1) 0))) (as_eq (congrArg (fun v => SV.c (Cell.int IntKind.i64 v)) (congrArg (fun i => ((mO t bl reps g.1)).getD i 0) (by omega)))) ?_; refine z0y ?_; refine s_nil ?_; apply hK34; refine z02 (b := _) rfl (fun h_t45 => ?_) (fun h_t45 => ?_)
      ·have hnex : ¬ ∃ a, a < g.1 ∧ (tblT t).cell a = ((tblT t).cell g.1) := fun hx => by
        have e := z7i (block := blkF bl) (reps := rpF reps) (k := reps.length) hcb.1 hx
        simp only [decide_eq_true_eq] at h_t45
        rw [e] at h_t45; omega
       have hrl2 : reps.length ≤ 65535 := hrl
       refine srR z1p fun _ hK36 => ?_
       iterate 5 refine z0y ?_
       refine s_nil ?_; apply hK36; refine seq_k fun _ hK37 => ?_; refine srR z1p fun _ hK39 => ?_
       iterate 3 refine z0y ?_
       refine s_nil ?_; apply hK39; refine z05 ?_; refine z0p (α := Nat × Nat) (fun j => [(1, .c (.ds bl.length (.ints .i64 (natsI bl)))), (2, .c (.ds reps.length (.ints .i64 (natsI reps)))), (3, .c (.dp (tabC t) 0)), (8, .c (.map 1)), (9, .c (.slice 2 0 (mC t bl reps g.1).length g.2.2.1)), (10, .c (.slice 3 0 (mC t bl reps g.1).length g.2.2.2)), (11, .c (.slice 0 0 t.nc t.nc)), (34, .c (.int .i64 (g.1 : Nat))), (13, .c (.int .i64 (g.1 : Nat))), (14, .c (.int .i64 (((tblT t).cell g.1) : Nat))), (15, .c (.slice 4 0 (2 * j.1) j.2)), (50, .c (.ds reps.length (.ints .i64 (natsI reps)))), (51, .c (.int .i64 (reps.length : Nat))), (52, .c (.int .i64 (j.1 : Nat)))]) (fun j => [(0, .own 3 (.ints .i64 (mO t bl reps g.1)) t.nc), (1, .mp 184 (mapE eL (mK t bl reps g.1))), (2, .own 3 (.ints .i64 (natsI (mC t bl reps g.1))) g.2.2.1), (3, .own 50 (.u64s g.2.1) (g.2.2.2 * 4)), (4, .own 5 (.u8s (encN (kcN t bl reps ((tblT t).cell g.1) j.1))) j.2)]) 5 (fun j => j.1 ≤ reps.length ∧ 2 * j.1 ≤ j.2) (fun j => reps.length - j.1) ?_ ?_
       ·have hK0 := kcN_zero t bl reps ((tblT t).cell g.1)
        refine dnS [] id (0, 2 * reps.length) ⟨Nat.zero_le _, by omega⟩ [0, 1, 2, 3, 4] uUn_0 uUn_0 uUn_0 uUn_0
       ·intro j hj
        have hj1 := hj.1
        have hj2 := hj.2
        have hkl := zhj t bl reps ((tblT t).cell g.1) j.1
        refine srR z1p fun _ hK41 => ?_; refine z0y ?_; refine s_nil ?_; apply hK41; refine seq_k fun _ hK42 => ?_; refine z02 (b := _) rfl (fun h_t53 => ?_) (fun h_t53 => ?_)
        ·try simp only [dQ, if_true, if_false, reduceIte] at h_t53
         refine z0a ?_; apply hK42; refine seq_k fun _ hK43 => ?_; refine z05 ?_
         have hjl : j.1 < reps.length := by omega
         have hpl := hlt _ (ho.rep j.1 hjl).1
         have hpl : (rpF reps j.1) < t.next.length := hpl
         have hrw := zg1 hok hpl
         have hx := nextN hok hpl hcb.1
         have hbl := ho.len
         refine srR z1p fun _ hK45 => ?_; refine z0y ?_; refine z4a ?_; refine exA (.c (.int .i64 ((((rpF reps j.1) : Nat) : Int)))) (as_eq (congrArg (fun v => SV.c (Cell.int IntKind.i64 v)) ((congrArg (fun i => (natsI reps).getD i 0) (by omega)).trans z1h))) ?_; refine z0y ?_; refine s_nil ?_; apply hK45; refine srR z1p fun _ hK47 => ?_
         iterate 2 refine z0y ?_
         refine z4a ?_; refine exA (.c (.ds t.next.length (.cells (rowsC t.next)))) (as_eq (congrArg SV.c (z7n hcl))) ?_
         iterate 2 refine z0y ?_
         refine z4a ?_; refine exA (.c (.ds (t.next.getD (rpF reps j.1) []).length (.ints .i64 (t.next.getD (rpF reps j.1) [])))) (as_eq (congrArg SV.c (za3 ⟨hpl, by omega⟩))) ?_
         iterate 2 refine z0y ?_
         refine z4a ?_; refine exA (.c (.int .i64 (((((tblT t).δ (rpF reps j.1) ((tblT t).cell g.1)) : Nat) : Int)))) (as_eq (congrArg (fun v => SV.c (Cell.int IntKind.i64 v)) ((congrArg (fun i => (t.next.getD (rpF reps j.1) []).getD i 0) (by omega)).trans hx.2))) ?_; refine z0y ?_; refine z4a ?_; refine exA (.c (.int .i64 (((blkF bl ((tblT t).δ (rpF reps j.1) ((tblT t).cell g.1)) : Nat) : Int)))) (as_eq (congrArg (fun v => SV.c (Cell.int IntKind.i64 v)) ((congrArg (fun i => (natsI bl).getD i 0) (by omega)).trans z1h))) ?_; refine z0y ?_; refine s_nil ?_; apply hK47; refine z01 z1p fun _ hK48 => ?_
         iterate 4 refine z0y ?_
         refine z4a ?_; refine exA (.c (.int .i64 (((blkF bl ((tblT t).δ (rpF reps j.1) ((tblT t).cell g.1)) : Nat) : Int) / 2 ^ 8))) (as_eq (congrArg (fun v => SV.c (Cell.int IntKind.i64 v)) (rfl))) ?_
         iterate 2 refine z0y ?_
         refine z4a ?_; intro cap7 hcap7; refine exI ?_; refine z0y ?_; refine s_nil ?_; apply hK48; refine z0b ?_; apply hK43; refine z01 z1p fun _ hK49 => ?_
         iterate 2 refine z0y ?_
         refine s_nil ?_; apply hK49
         have hK1 : encN (kcN t bl reps ((tblT t).cell g.1) j.1) ++ ([] ++ [UInt8.ofInt ((blkF bl ((tblT t).δ (rpF reps j.1) ((tblT t).cell g.1)) : Nat) : Int), UInt8.ofInt (((blkF bl ((tblT t).δ (rpF reps j.1) ((tblT t).cell g.1)) : Nat) : Int) / 2 ^ 8)]) = encN (kcN t bl reps ((tblT t).cell g.1) (j.1 + 1)) := kcN_succ t bl reps ((tblT t).cell g.1) j.1
         refine dnS [] (fun i => if i = 4 then 6 else i) (j.1 + 1, cap7) ⟨⟨by show j.1 + 1 ≤ _; omega, by show 2 * (j.1 + 1) ≤ cap7; omega⟩, by show _ - (j.1 + 1) < _; omega⟩ [0, 1, 2, 3, 6] ?_ ?_ ?_ ?_
         ·exact uUn_0
         ·exact uUn_0
         ·exact uUn_0
         ·exact uUn_0
        ·try simp only [dQ, if_true, if_false, reduceIte] at h_t53
         refine z0k ?_; refine z00 ?_; refine z00 ?_; refine z0f ?_; apply hK37
         have hjn : j.1 = reps.length := by omega
         have hkl := zhj t bl reps ((tblT t).cell g.1) j.1
         rw [hjn]; rw [hjn] at hkl; refine srR z1p fun _ hK51 => ?_
         iterate 3 refine z0y ?_
         refine z4a ?_; refine aI (ztq _) (And.intro (fun jj v hj => ?_) (fun hno => ?_))
         ·obtain ⟨rfl, hkin⟩ := zo4 ho.few hj
          refine exI ?_
          iterate 5 refine z0y ?_
          refine s_nil ?_; apply hK51; refine seq_k fun _ hK52 => ?_; refine srR z1p fun _ hK54 => ?_
          iterate 2 refine z0y ?_
          refine s_nil ?_; apply hK54; refine z02 (b := _) rfl (fun h_t84 => ?_) (fun _ => ?_)
          ·exfalso; cases h_t84
          refine z0a ?_; apply hK52; refine z01 z1p fun _ hK55 => ?_
          iterate 4 refine z0y ?_
          refine zmc ?_; refine s_nil ?_; apply hK55
          have hoc := zno (Nat.le_of_lt hb256) hkin
          have hX0 : ((mO t bl reps g.1).set (0 + ((((tblT t).cell g.1) : Nat) : Int).toNat * 1) (((idxK (mK t bl reps g.1) (kC t bl reps ((tblT t).cell g.1)) : Nat) : Int))) = (mO t bl reps (g.1 + 1)) := by
           rw [show 0 + ((((tblT t).cell g.1) : Nat) : Int).toNat * 1 = ((tblT t).cell g.1) by omega, hoc]; exact zs3 hcb.1
          have hX1 : (mK t bl reps g.1) = (mK t bl reps (g.1 + 1)) := (mks_in (c := 0) hkin).symm
          have hX3 : (mC t bl reps g.1) = (mC t bl reps (g.1 + 1)) := (mcs_in (c := 0) hkin).symm
          rw [hX1] at hX0; rw [hX1, hX3]; rw [hX3] at hcw h9 h10; refine dnS [] id (g.2.1, g.2.2.1, g.2.2.2) ⟨hcw, h9, h10⟩ [0, 1, 2, 3] uUn_0 uUn_0 uUn_0 uUn_0
         ·have hkno := mmap_no hno
          refine exI ?_
          iterate 5 refine z0y ?_
          refine s_nil ?_; apply hK51; refine seq_k fun _ hK56 => ?_; refine srR z1p fun _ hK58 => ?_
          iterate 2 refine z0y ?_
          refine s_nil ?_; apply hK58; refine z02 (b := _) rfl (fun _ => ?_) (fun h_t84 => ?_)
          rotate_left 1
          ·exfalso; cases h_t84
          refine srR z1p fun _ hK60 => ?_
          iterate 3 refine z0y ?_
          refine s_nil ?_; apply hK60; refine srR z1p fun _ hK62 => ?_
          iterate 4 refine z0y ?_
          refine sX0 ?_; refine aI rfl (And.intro (ztq _) (And.intro (fun jj u hj => absurd (zo4 ho.few hj).2 hkno) (fun hno2 => ?_))); refine exI ?_; refine s_nil ?_; apply hK62; refine srR z1p fun _ hK64 => ?_
          iterate 3 refine z0y ?_
          refine z4a ?_; intro cap3 hcap3; refine exI ?_; refine z0y ?_; refine s_nil ?_; apply hK64
          revert cap3 hcap3
          intro capA hcapA; refine z01 z1p fun _ hK65 => ?_
          iterate 3 refine z0y ?_
          refine z4a ?_; intro cap3 hcap3; refine exI ?_; refine z0y ?_; refine s_nil ?_; apply hK65; apply hK56; refine z01 z1p fun _ hK66 => ?_
          iterate 4 refine z0y ?_
          refine zmc ?_; refine s_nil ?_; apply hK66
          have hoc := ofC_new hb256 hkno
          have hml := z47 (t := tblT t) (block := blkF bl) (reps := rpF reps) (k := reps.length) g.1
          have hX0 : ((mO t bl reps g.1).set (0 + ((((tblT t).cell g.1) : Nat) : Int).toNat * 1) ((((mC t bl reps g.1).length : Nat) : Int))) = (mO t bl reps (g.1 + 1)) := by
           rw [show 0 + ((((tblT t).cell g.1) : Nat) : Int).toNat * 1 = ((tblT t).cell g.1) by omega, hml, ← hoc]; exact zs3 hcb.1
          have hX1 := mks_out (c := 0) hkno
          have hX3 := mcs_out (c := 0) hkno
          have hX4 : mapE eL (mK t bl reps g.1) ++ [(.c (.str (encN (kcN t bl reps ((tblT t).cell g.1) reps.length))), .c (.int .i64 (((mC t bl reps g.1).length : Nat) : Int)))] = mapE eL (mK t bl reps (g.1 + 1)) := by
           rw [show (mK t bl reps (g.1 + 1)) = _ from hX1, hml, ← zee, ← ztr]
          have hX5 : natsI (mC t bl reps g.1) ++ ([] ++ [((((tblT t).cell g.1) : Nat) : Int)]) = natsI (mC t bl reps (g.1 + 1)) := by rw [show (mC t bl reps (g.1 + 1)) = _ from hX3, List.nil_append, z69]
          have hL0 : (mC t bl reps g.1).length + 1 = (mC t bl reps (g.1 + 1)).length := by rw [show (mC t bl reps (g.1 + 1)) = _ from hX3, List.length_append]; rfl
          have hcw2 := hcw.more (Nat.le_of_lt hb256) hml
          rw [hL0] at hcw2; refine dnS [] (fun i => if i = 2 then 6 else if i = 3 then 8 else i) (g.2.1 ++ List.replicate 4 0, capA, cap3) ⟨hcw2, (by show _ ≤ capA; omega), (by show _ ≤ cap3; omega)⟩ [0, 1, 6, 8] ?_ ?_ ?_ ?_
          ·exact uUn_0
          ·exact uUn_0
          ·exact uUn_0
          ·exact uUn_0
      ·have hex : ∃ a, a < g.1 ∧ (tblT t).cell a = ((tblT t).cell g.1) := Classical.byContradiction fun hx => by
        have e := zdz (block := blkF bl) (reps := rpF reps) (k := reps.length) hcb.1 hx
        simp only [decide_eq_false_iff_not] at h_t45
        rw [e] at h_t45; exact h_t45 (by decide)
       refine z0a ?_
       have hkin := met_in (block := blkF bl) (reps := rpF reps) (k := reps.length) hex
       have hX0 : (mO t bl reps g.1) = (mO t bl reps (g.1 + 1)) := mof_same hex
       have hX1 : (mK t bl reps g.1) = (mK t bl reps (g.1 + 1)) := (mks_in (c := 0) hkin).symm
       have hX3 : (mC t bl reps g.1) = (mC t bl reps (g.1 + 1)) := (mcs_in (c := 0) hkin).symm
       rw [hX0, hX1, hX3]; rw [hX3] at hcw h9 h10; refine dnS [] id (g.2.1, g.2.2.1, g.2.2.2) ⟨hcw, h9, h10⟩ [0, 1, 2, 3] uUn_0 uUn_0 uUn_0 uUn_0
     ·intro y hy
      have hyw := hy.1
      have hy9 := hy.2.1
      have hy10 := hy.2.2
      have hywl := hyw.len
      have hin1 : kC t bl reps ((tblT t).cell g.1) ∈ mK t bl reps (g.1 + 1) := zh3.2 ⟨g.1, Nat.lt_succ_self _, rfl⟩
      have hol : (oC t bl reps ((tblT t).cell g.1)) < (mC t bl reps (g.1 + 1)).length := by
       rw [z47]
       have h1 := zb1 hin1
       rwa [zno (by omega) hin1] at h1
      refine z79 z1p [(0, true), (1, true), (2, true), (3, true), (4, true), (5, true), (6, true), (7, true), (8, true), (9, true), (10, true), (11, true), (12, true), (13, true), (14, false), (15, false), (16, false), (17, true), (18, false)] rfl (by kernel_rfl) (by kernel_rfl) fun _ hK67 => ?_
      iterate 4 refine zjz ?_
      refine zhk ?_; refine exA (.c (.int .i64 ((((oC t bl reps ((tblT t).cell g.1)) : Nat) : Int)))) (as_eq (congrArg (fun v => SV.c (Cell.int IntKind.i64 v)) ((congrArg (fun i => ((mO t bl reps (g.1 + 1))).getD i 0) (by omega)).trans (z7i hcb.1 ⟨g.1, Nat.lt_succ_self _, rfl⟩)))) ?_
      iterate 4 refine zjz ?_
      refine zhk ?_; refine exA (.c (.int .i64 ((((oC t bl reps ((tblT t).cell g.1)) : Nat) : Int)))) (as_eq (congrArg (fun v => SV.c (Cell.int IntKind.i64 v)) ((congrArg (fun i => ((mO t bl reps (g.1 + 1))).getD i 0) (by omega)).trans (z7i hcb.1 ⟨g.1, Nat.lt_succ_self _, rfl⟩)))) ?_; refine zjz ?_; refine zhk ?_; refine exA (.agg (.u64s ((y.1.drop ((oC t bl reps ((tblT t).cell g.1)) * 4)).take 4))) (as_eq (congrArg (fun i => SV.agg ((Cont.u64s y.1).sub i 4)) (by omega))) ?_; refine zjz ?_; refine zhk ?_; refine exA (.c (.u8 (UInt8.ofNat g.1))) (as_eq (congrArg (fun v => SV.c (Cell.u8 v)) (z7k _))) ?_; refine gXUn_5 ?_; refine ztx ?_; refine ⟨[UInt8.ofNat g.1], rfl, (by show 1 ≤ _; decide), ?_⟩; refine DUn_3 ?_
      first | refine exI ?_ | (intro cap15 hcap15; refine exI ?_)
      refine ztx ?_; refine ⟨(y.1.drop ((oC t bl reps ((tblT t).cell g.1)) * 4)).take 4, ofW [UInt8.ofNat g.1], rfl, ⟨by rw [List.length_take, List.length_drop]; omega, by simp⟩, ?_⟩; refine DUn_3 ?_
      first | refine exI ?_ | (intro cap16 hcap16; refine exI ?_)
      refine zjz ?_; refine gX0EUn_9 ?_; refine zma (by simp only [z2g]; omega) ?_; refine exI ?_; refine d_nil ?_; apply hK67; refine z0b ?_; apply hK28; refine z01 z1p fun _ hK68 => ?_
      iterate 2 refine z0y ?_
      refine s_nil ?_; apply hK68
      have hP : y.1.take (0 + (((oC t bl reps ((tblT t).cell g.1)) : Nat) : Int).toNat * 4) ++ zipC (fun x y => x ||| y) ((y.1.drop ((oC t bl reps ((tblT t).cell g.1)) * 4)).take 4) (ofW [UInt8.ofNat g.1]) ++ y.1.drop (0 + (((oC t bl reps ((tblT t).cell g.1)) : Nat) : Int).toNat * 4 + (zipC (fun x y => x ||| y) ((y.1.drop ((oC t bl reps ((tblT t).cell g.1)) * 4)).take 4) (ofW [UInt8.ofNat g.1])).length) = putC y.1 (oC t bl reps ((tblT t).cell g.1)) g.1 := by
       rw [z2g, show 0 + (((oC t bl reps ((tblT t).cell g.1)) : Nat) : Int).toNat * 4 = (oC t bl reps ((tblT t).cell g.1)) * 4 by omega]; unfold putC; rfl
      have hcp := cw_put hyw hb256 hol
      refine dnS [] id (g.1 + 1, putC y.1 (oC t bl reps ((tblT t).cell g.1)) g.1, y.2.1, y.2.2) ⟨⟨by show g.1 + 1 ≤ 256; omega, hcp, hy9, hy10⟩, by show 256 - (g.1 + 1) < _; omega⟩ [0, 1, 2, 3] ?_ ?_ ?_ ?_
      ·exact uUn_0
      ·exact uUn_0
      ·exact uUn_0
      ·exact uUn_0
    ·try simp only [dQ, if_true, if_false, reduceIte] at h_t35
     refine z0k ?_; refine z00 ?_; refine z00 ?_; refine z0f ?_; apply hK22
     have hgb : g.1 = 256 := by omega
     rw [hgb]; rw [hgb] at hcw hml
     have hw5 : (Cont.u64s g.2.1).len = (mC t bl reps 256).length * (gm1.ty 50).size := hcw.len
     refine srR z1p fun _ hK70 => ?_
     iterate 4 refine z0y ?_
     refine s_nil ?_; apply hK70; refine leW [2, 3] id [(6, .c (.ds (mC t bl reps 256).length (.ints .i64 (natsI (mC t bl reps 256))))), (7, .c (.ds (mC t bl reps 256).length (.u64s g.2.1)))] [] 0 [] uUn_0 uUn_0 uUn_0 uUn_0 ?_; rw [hml, ← zs4] at hcw; refine z0d (Done_new z1p (fun _ _ h => h) [.tmp 6, .tmp 7] rfl ?_); exact h _ hcw


end Go.Proofs.YtppmnaoollkboaaDoor
