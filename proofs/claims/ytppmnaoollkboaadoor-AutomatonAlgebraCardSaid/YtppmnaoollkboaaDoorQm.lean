/- Part 13 of what the claims of this seat share: the walk's engine, the functions' contracts, plain mathematics (Uti, Utj). -/
import Derived.Test.YtppmnaoollkboaaDoorQl
import Derived.Test.YtppmnaoollkboaaDoorQb
namespace Go.Proofs.YtppmnaoollkboaaDoor
set_option linter.all false
open Go.Ab Go.RowKit

theorem qUti0 {a : Prop} (h : a := by first | exact vcA | (simp [-List.reduceReplicate] <;> omega) | exact vTr | exact vTx | exact vTy | (show (List.replicate 256 (0 : Int)).length = (jL _ _ _).length; rw [z0l, List.length_replicate]) | (show 256 = (jL _ _ _).length; rw [z0l]) | (show 0 < (jL _ _ _).length; rw [z0l]; decide) | (show 0 + (jL _ _ _).length ≤ (List.replicate 256 (0 : Int)).length; rw [z0l, List.length_replicate]; decide) | (show 0 + 256 * 1 ≤ (jL _ _ _).length; rw [z0l]; decide) | (show (jL _ _ _).length = 256 * 1; rw [z0l]) | exact vcB) : a := h
theorem z4r {a : Prop} (h : a := by
    repeat' (first | exact z1f _ | exact z30 _ | exact z38 (z0x z1x z28) | exact z38 (z0x z1x (z0x z1x (z0x z1x z28))) | exact pT  | exact trivial | refine aI ?_ ?_ | exact cC0 | refine low_cons' ?_ ?_ | exact cC1 | fail)
    all_goals first | omega | exact z1f _ | (show 0 < (z02 _ _ _ _).length; rw [z01 hx.1.clen]; decide) | (show 0 < (z02 _ _ _ _).length; rw [z01 hy.1.clen]; decide) | (show 0 < (jL _ _ _).length; rw [z0l]; decide) | (intro z hz; rw [List.mem_singleton.1 hz]; exact ⟨rfl, fun g l e => by cases e⟩) | exact Nat.one_pos| (show (0 : Nat) < (z02 _ _ _ _).length; rw [z01 hcl]; decide) | (simp [-List.reduceReplicate]; done) | (simp [-List.reduceReplicate] <;> omega) | skip) : a := h
theorem z0i {a b : Prop} (kZ : b) (h : HidB b → a := by intro kZ; (repeat first | refine aI qUti0 ?_ | refine z06 qUti0 ?_ | refine z04 qUti0 ?_ | refine z0k qUti0 ?_ | refine z0a ?_); exact kZ.out) : a := h ⟨kZ⟩
theorem z25 {a b : Prop} (kZ : b) (h : HidB b → a := by intro kZ; refine sX ?_; refine z0i ?_; refine exI ?_; exact kZ.out) : a := h ⟨kZ⟩
theorem z5d {a b : Prop} (kZ : b) (h : HidB b → a := by intro kZ; refine sX0 ?_; refine z0i ?_; refine exI ?_; exact kZ.out) : a := h ⟨kZ⟩
theorem zrl {a b : Prop} (kZ : b) (h : HidB b → a := by intro kZ; refine sXT ?_; refine z0i ?_; refine exI ?_; exact kZ.out) : a := h ⟨kZ⟩
theorem zey {a b : Prop} (kZ : b) (h : HidB b → a := by intro kZ; refine gX0 ?_; refine z0i ?_; refine exI ?_; exact kZ.out) : a := h ⟨kZ⟩
theorem z8t {a b : Prop} (kZ : b) (h : HidB b → a := by intro kZ; refine dX ?_; refine z0i ?_; refine exI ?_; exact kZ.out) : a := h ⟨kZ⟩
theorem gXUti_6 {a b : Prop} (kZ : b) (h : HidB b → a := by intro kZ; refine gX ?_; refine z0i ?_; refine exI ?_; exact kZ.out) : a := h ⟨kZ⟩
theorem z4z {a b : Prop} (kZ : b) (h : HidB b → a := by intro kZ; refine sX ?_; refine z0i ?_; exact kZ.out) : a := h ⟨kZ⟩
theorem zxw {a b : Prop} (kZ : b) (h : HidB b → a := by intro kZ; refine sXT ?_; refine z0i ?_; exact kZ.out) : a := h ⟨kZ⟩
theorem zrm {a b : Prop} (kZ : b) (h : HidB b → a := by intro kZ; refine dX ?_; refine z0i ?_; exact kZ.out) : a := h ⟨kZ⟩
theorem zh3 {a b : Prop} (kZ : b) (h : HidB b → a := by intro kZ; refine gX ?_; refine z0i ?_; exact kZ.out) : a := h ⟨kZ⟩
theorem zig {a : Prop} (h : a := by exact (And.intro (And.intro rfl rfl) (And.intro (z8w _) (And.intro (z8w _) (And.intro (And.intro rfl rfl) (And.intro (And.intro rfl rfl) trivial)))))) : a := h
theorem zih {a : Prop} (h : a := by exact (And.intro (show (0 : Nat) < 3 by decide) (And.intro (z30 _) (And.intro (z30 _) (And.intro (show (1 : Nat) < 3 by decide) (And.intro (show (2 : Nat) < 3 by decide) trivial)))))) : a := h
theorem zxx {a : Prop} (h : a := by exact (And.intro (And.intro (by decide) z5e) (And.intro (And.intro (by decide) zt_low) (And.intro (And.intro (by decide) zt_low) trivial)))) : a := h
theorem ze6 {a : Prop} (h : a := by exact (And.intro (And.intro rfl rfl) (And.intro (z8w _) (And.intro (z8w _) (And.intro (And.intro rfl rfl) trivial))))) : a := h
theorem z73 {a : Prop} (h : a := by exact (And.intro (And.intro List.not_mem_nil (And.intro rfl (And.intro rfl z8x))) (And.intro (And.intro List.not_mem_nil (And.intro rfl (And.intro zl_len' zi5))) trivial))) : a := h
theorem ze7 {a : Prop} (h : a := by exact (And.intro (show (0 : Nat) < 2 by decide) (And.intro (z30 _) (And.intro (z30 _) (And.intro (show (1 : Nat) < 2 by decide) trivial))))) : a := h
theorem z35 {a : Prop} (h : a := by exact (And.intro (And.intro (by decide) z5e) (And.intro (And.intro (by decide) zgg) trivial))) : a := h
theorem z92 {a : Prop} (h : a := by exact (And.intro (And.intro List.not_mem_nil (And.intro rfl (And.intro rfl z8x))) (And.intro (And.intro List.not_mem_nil (And.intro rfl (And.intro rfl zl_to))) trivial))) : a := h
theorem zc5 {a : Prop} (h : a := by exact (And.intro (And.intro rfl rfl) (And.intro (z8w _) (And.intro (z8v _) (And.intro (And.intro rfl rfl) (And.intro (And.intro rfl rfl) trivial)))))) : a := h
theorem zii {a : Prop} (h : a := by exact (And.intro (And.intro List.not_mem_nil (And.intro rfl (And.intro rfl z8x))) (And.intro (And.intro List.not_mem_nil (And.intro rfl (And.intro rfl zl_to))) (And.intro (And.intro List.not_mem_nil (And.intro rfl (And.intro zl_len' zi5))) trivial)))) : a := h
theorem z8u {a : Prop} (h : a := by exact (And.intro (show (0 : Nat) < 3 by decide) (And.intro (z30 _) (And.intro (z1f _) (And.intro (show (1 : Nat) < 3 by decide) (And.intro (show (2 : Nat) < 3 by decide) trivial)))))) : a := h
theorem z3v {a : Prop} (h : a := by exact (And.intro (And.intro (by decide) z5e) (And.intro (And.intro (by decide) zgg) (And.intro (And.intro (by decide) zgg) trivial)))) : a := h
theorem zdb {a : Prop} (h : a := by exact (And.intro (And.intro List.not_mem_nil (And.intro rfl (And.intro rfl z8x))) (And.intro (And.intro List.not_mem_nil (And.intro rfl (And.intro zl_len' zi5))) (And.intro (And.intro List.not_mem_nil (And.intro rfl (And.intro rfl zl_to))) trivial)))) : a := h
theorem zh4 {a : Prop} (h : a := by exact (And.intro (And.intro List.not_mem_nil (And.intro rfl (And.intro rfl z8x))) (And.intro (And.intro List.not_mem_nil (And.intro rfl (And.intro rfl zl_to))) (And.intro (And.intro List.not_mem_nil (And.intro rfl (And.intro rfl zl_to))) trivial)))) : a := h
theorem zxy {a : Prop} (h : a := by exact (And.intro (And.intro rfl rfl) (And.intro (z8w _) (And.intro (z8w _) trivial)))) : a := h
theorem zb6 {a : Prop} (h : a := by exact (And.intro (And.intro List.not_mem_nil (And.intro rfl (And.intro rfl z8x))) trivial)) : a := h
theorem zxz {a : Prop} (h : a := by exact (And.intro (show (0 : Nat) < 1 by decide) (And.intro (z30 _) (And.intro (z30 _) trivial)))) : a := h
theorem z5t {a : Prop} (h : a := by exact (And.intro (And.intro rfl rfl) (And.intro (z8w _) (And.intro (z8v _) (And.intro (And.intro rfl rfl) trivial))))) : a := h
theorem z5u {a : Prop} (h : a := by exact (And.intro (show (0 : Nat) < 2 by decide) (And.intro (z30 _) (And.intro (z1f _) (And.intro (show (1 : Nat) < 2 by decide) trivial))))) : a := h
theorem zoy {a : Prop} (h : a := by exact (And.intro (And.intro rfl rfl) (And.intro (z8w _) (And.intro (z8v _) trivial)))) : a := h
theorem zoz {a : Prop} (h : a := by exact (And.intro (show (0 : Nat) < 1 by decide) (And.intro (z30 _) (And.intro (z1f _) trivial)))) : a := h
theorem zh5 {a : Prop} (h : a := by exact (And.intro (And.intro rfl rfl) (And.intro (z8v _) (And.intro (z8v _) (And.intro (And.intro rfl rfl) (And.intro (And.intro rfl rfl) trivial)))))) : a := h
theorem zh6 {a : Prop} (h : a := by exact (And.intro (show (0 : Nat) < 3 by decide) (And.intro (z1f _) (And.intro (z1f _) (And.intro (show (1 : Nat) < 3 by decide) (And.intro (show (2 : Nat) < 3 by decide) trivial)))))) : a := h
theorem zdc {a : Prop} (h : a := by exact (And.intro (And.intro rfl rfl) (And.intro (z8v _) (And.intro (z8v _) (And.intro (And.intro rfl rfl) trivial))))) : a := h
theorem zdd {a : Prop} (h : a := by exact (And.intro (show (0 : Nat) < 2 by decide) (And.intro (z1f _) (And.intro (z1f _) (And.intro (show (1 : Nat) < 2 by decide) trivial))))) : a := h
theorem zy0 {a : Prop} (h : a := by exact (And.intro (And.intro rfl rfl) (And.intro (z8v _) (And.intro (z8v _) trivial)))) : a := h
theorem zy1 {a : Prop} (h : a := by exact (And.intro (show (0 : Nat) < 1 by decide) (And.intro (z1f _) (And.intro (z1f _) trivial)))) : a := h

open Go.Aut
attribute [local irreducible] z0q z1z zl z02 z18 putB prodT canD jL jrep exR z2y
noncomputable def gh3 : Ctx := { P := Tryd.prog, ty := ty, glob := gl, fs := [(50, .flat z8m), (74, .data z8n), (75, .data z7v), (76, .data zr6), (83, .data zeu), (77, .flat entS), (80, .data (zet 78 cat2S 81 cat3S))] }
theorem z0o : gh3.OK := ⟨tyOK, ⟨⟨z07 Tryd.func50 (by kernel_rfl) rfl, z5i⟩, ⟨z07 Tryd.func74 (by kernel_rfl) rfl, z6a⟩, ⟨z07 Tryd.func75 (by kernel_rfl) rfl, z71⟩, ⟨z07 Tryd.func76 (by kernel_rfl) rfl, zjz⟩, ⟨z07 Tryd.func83 (by kernel_rfl) rfl, zd5⟩, ⟨z07 Tryd.func77 (by kernel_rfl) rfl, ent_ok⟩, ⟨z07 Tryd.func80 (by kernel_rfl) rfl, zd3 (z07 Tryd.func78 (by kernel_rfl) rfl) cat2_ok (z07 Tryd.func81 (by kernel_rfl) rfl) cat3_ok (by decide)⟩, trivial⟩, mixed⟩
@[simp] theorem gh3_ty : gh3.ty = ty := rfl

theorem zt_to {ty : Nat → Ty} {H : Heap} {is : List Nat} {ρ : Nat → Nat} : allTo (Cell.to ty H is ρ) zl (List.replicate 257 (Cell.int .i64 0) ++ List.replicate 2 .nils) := by
  have h := @zl_to ty H is ρ
  unfold zl at h ⊢; exact h
theorem zt_to1 {ty : Nat → Ty} {H : Heap} {is : List Nat} {ρ : Nat → Nat} : allTo (Cell.to ty H is ρ) (List.replicate 257 (Cell.int .i64 0) ++ List.replicate 2 .nils) (List.replicate 257 (Cell.int .i64 0) ++ List.replicate 2 .nils) := by
  have h := @zl_to ty H is ρ
  unfold zl at h; exact h
theorem zt_low {n : Nat} : (Cont.cells (List.replicate 257 (Cell.int .i64 0) ++ List.replicate 2 .nils)).low n := by
  have h := @zgg n
  unfold zl at h; exact h
theorem z8v {ty : Nat → Ty} {H : Heap} {is : List Nat} {ρ : Nat → Nat} (d : Dfa) : SV.to ty H is ρ (.agg (dfaC d)) (.agg (dfaC d)) := And.intro (And.intro rfl rfl) (And.intro (And.intro rfl rfl) (And.intro (And.intro rfl rfl) trivial))
theorem z8w {ty : Nat → Ty} {H : Heap} {is : List Nat} {ρ : Nat → Nat} (t : Tab) : SV.to ty H is ρ (tabV t) (tabV t) := z2l ⟨rfl, rfl⟩ ⟨rfl, rfl⟩
theorem z8x {ty : Nat → Ty} {H : Heap} {is : List Nat} {ρ : Nat → Nat} : allTo (Cell.to ty H is ρ) [.nils, .nils, .nils] [.nils, .nils, .nils] := And.intro trivial (And.intro trivial (And.intro trivial trivial))
theorem z5e {n : Nat} : (Cont.cells [.nils, .nils, .nils]).low n := low_cons' trivial (low_cons' trivial (low_cons' trivial low_nil'))
def zez : QSpec := fun vs K => ∃ d e : Dfa, vs = [dfaV d, dfaV e] ∧ (d.wf ∧ e.wf) ∧ K (resV (z3d d e))
set_option maxHeartbeats 8000000 in
set_option maxRecDepth 4000 in
theorem zde : z2p Tryd.prog gl 23 zez := by
 refine z2e (Γ := gh3) (N := 57) Tryd.func23 rfl rfl fun vs K h => ?_; obtain ⟨d, e, rfl, ⟨hd, he⟩, h⟩ := h; refine ⟨_, h, z1d _, by simp, fun w I => ?_⟩; refine seq_k fun _ hK1 => ?_; refine z00 z0o fun _ hK2 => ?_
 iterate 4 refine z25 ?_
 refine s_nil ?_; apply hK2; apply hK1; refine seq_k fun _ hK3 => ?_; refine seq_k fun _ hK4 => ?_; refine z00 z0o fun _ hK5 => ?_; refine z25 ?_; refine z4z ?_; refine ⟨d, rfl, hd, ?_⟩; refine z0i ?_
 first | refine exI ?_ | (intro cap1 hcap1; refine exI ?_)
 refine z25 ?_; refine z4z ?_; refine exB (fun hb3 => ?_) (fun hb3 => ?_)
 ·try simp only [dQ, if_true, if_false, reduceIte] at hb3
  iterate 3 refine sN ?_
  refine z25 ?_; refine s_nil ?_; apply hK5; apply hK4; refine z08 (b := _) rfl (fun _ => ?_) (fun h_t21 => ?_)
  rotate_left 1
  ·exfalso; simp at h_t21
  refine seq_k fun _ hK6 => ?_; refine z00 z0o fun _ hK7 => ?_; refine z25 ?_; refine z5d ?_; refine z25 ?_; refine s_nil ?_; apply hK7; apply hK6
  have hno : ¬ (z0s d = true ∧ z0s e = true) := by intro hh; simp_all
  rw [z3d, if_neg hno]; refine z0f (z0n z0o (fun _ _ h => h) (z1d _) [] [.cell 4 30, .tmp 5] rfl ?_)
  repeat first | refine aI (by first | exact trivial | rfl | exact ⟨rfl, rfl⟩ | decide) ?_ | refine z06 (by first | rfl | decide) ?_ | refine z04 (by first | rfl | decide) ?_
  all_goals exact z4r
 ·try simp only [dQ, if_true, if_false, reduceIte] at hb3
  refine zrl ?_; refine zxw ?_; refine ⟨e, rfl, he, ?_⟩; refine z0i ?_
  first | refine exI ?_ | (intro cap5 hcap5; refine exI ?_)
  refine zrl ?_; refine z25 ?_; refine s_nil ?_; apply hK5; apply hK4; refine z08 (b := _) rfl (fun h_t21 => ?_) (fun h_t21 => ?_)
  ·try simp only [dQ, if_true, if_false, reduceIte] at h_t21
   refine seq_k fun _ hK8 => ?_; refine z00 z0o fun _ hK9 => ?_; refine z25 ?_; refine z5d ?_; refine z25 ?_; refine s_nil ?_; apply hK9; apply hK8
   have hno : ¬ (z0s d = true ∧ z0s e = true) := by intro hh; simp_all
   rw [z3d, if_neg hno]; refine z0f (z0n z0o (fun _ _ h => h) (z1d _) [] [.cell 4 30, .tmp 5] rfl ?_)
   repeat first | refine aI (by first | exact trivial | rfl | exact ⟨rfl, rfl⟩ | decide) ?_ | refine z06 (by first | rfl | decide) ?_ | refine z04 (by first | rfl | decide) ?_
   all_goals exact z4r
  ·try simp only [dQ, if_true, if_false, reduceIte] at h_t21
   refine z0c ?_; apply hK3; refine seq_k fun _ hK10 => ?_
   have hvd : z0s d = true := by simp_all
   have hve : z0s e = true := by simp_all
   have hgd := (z1o hd).1 hvd
   have hge := (z1o he).1 hve
   have gd := z42 hgd
   have ge := z42 hge
   have hx := z0y gd.1
   have hy := z0y ge.1
   have hcc : ∀ w, Bytes w → _ := fun w hw => zxs hgd hge hw
   obtain ⟨x, hxe⟩ : ∃ x, x = (tabD (canD (langD d))) := ⟨_, rfl⟩; obtain ⟨y, hye⟩ : ∃ y, y = (tabD (canD (langD e))) := ⟨_, rfl⟩; rw [← hxe] at hx hcc; rw [← hye] at hy hcc
   have hex := cat_exin hx hy
   refine zpp z0o ?_; refine z0j 2 #[true, true, true, true, true, true, true, true, true, true, false, false] [(4, .c (.ptr 0 0)), (26, tabV x), (30, tabV y), (6, .c (.ptr 1 0)), (7, .c (.ptr 2 0))] [(0, .own 30 (.cells [.nils, .nils, .nils]) 3), (1, .own 87 (.cells (List.replicate 257 (.int .i64 0) ++ List.replicate 2 .nils)) (Cont.len (.cells (List.replicate 257 (.int .i64 0) ++ List.replicate 2 .nils)))), (2, .own 87 (.cells (List.replicate 257 (.int .i64 0) ++ List.replicate 2 .nils)) (Cont.len (.cells (List.replicate 257 (.int .i64 0) ++ List.replicate 2 .nils))))] 3 ?_ fun nd_1_2_3_5_6_7_8_9 => ?_
   ·refine z4a z0o (g := 0) (by kernel_rfl) [(10, false), (11, false)] (by kernel_rfl) fun _ hK12 => ?_
    iterate 2 refine zey ?_
    refine d_nil ?_; apply hK12; refine z3n (by kernel_rfl) ?_; apply hK10; refine seq_k fun _ hK13 => ?_; refine leW [1, 2] id [(4, .c (.ptr 0 0)), (6, .c (dpT x)), (7, .c (dpT y))] [(0, .own 30 (.cells [.nils, .nils, .nils]) 3)] 1 [0] z4r z4r z4r z4r ?_; refine z00 z0o fun _ hK14 => ?_; refine z4z ?_; refine exA (tabV x) (SV.as_refl _) ?_; refine z4z ?_; refine exA (tabV y) (SV.as_refl _) ?_; refine z4z ?_; refine aI (z0v _) ?_; refine z10 _ ?_; refine aI (z0v _) ?_; refine z10 _ ?_; refine ⟨x, y, rfl, ⟨hx, hy⟩, ?_⟩
    simp only [z21]
    refine z0i ?_
    first | refine exI ?_ | (intro cap2 hcap2; refine exI ?_)
    iterate 4 refine z25 ?_
    refine z5d ?_; refine z25 ?_; refine s_nil ?_; apply hK14; apply hK13; refine seq_k fun _ hK15 => ?_; refine leW [1] id [(4, .c (.ptr 0 0)), (6, .c (dpT x)), (7, .c (dpT y)), (8, .c (.dp (.ints .i64 (jL x y 256)) 0)), (9, .c (.ds (jrep (cN x) (cN y)).length (.ints .i64 (natsI (jrep (cN x) (cN y))))))] [(0, .own 30 (.cells [.nils, .nils, .nils]) 3)] 1 [0] z4r z4r z4r z4r ?_; refine z00 z0o fun _ hK16 => ?_
    iterate 2 refine z25 ?_
    refine z5d ?_; refine s_nil ?_; apply hK16; apply hK15; refine seq_k fun _ hK17 => ?_; refine leW [1] id [(4, .c (.ptr 0 0)), (6, .c (dpT x)), (7, .c (dpT y)), (8, .c (.dp (.ints .i64 (jL x y 256)) 0)), (9, .c (.ds (jrep (cN x) (cN y)).length (.ints .i64 (natsI (jrep (cN x) (cN y)))))), (10, .c (cloE x))] [(0, .own 30 (.cells [.nils, .nils, .nils]) 3)] 1 [0] z4r z4r z4r z4r ?_; refine z00 z0o fun _ hK18 => ?_
    iterate 2 refine z25 ?_
    refine s_nil ?_; apply hK18; apply hK17; refine seq_k fun _ hK19 => ?_; refine zpp z0o ?_; refine z4a z0o (g := 8) (by kernel_rfl) [(0, true), (1, true), (2, true), (3, true), (5, true), (6, true)] (by kernel_rfl) fun _ hK21 => ?_; refine zrm ?_; refine exA (.agg (.ints .i64 (jL x y 256))) (SV.as_refl _) ?_
    iterate 2 refine z8t ?_
    refine zrm ?_; refine exA (stV (0, 0, 0)) (as_eq rfl) ?_
    iterate 2 refine z8t ?_
    refine d_nil ?_; apply hK21; refine z0u [4, 11] (by kernel_rfl) (by decide) (List.forall_mem_cons.2 ⟨?_, List.forall_mem_cons.2 ⟨?_, fun _ h => by cases h⟩⟩)
    ·refine z03 z0o ?_
     refine z0i ?_; refine aI (nc_st _) ?_; refine ⟨x, (0, 0, 0), rfl, ⟨hx, hx.1.npos⟩, ?_⟩; refine z0i ?_
     first | refine exA (stV (cat0 x)) (SV.as_refl _) ?_ | (intro cap4 hcap4; refine exA (stV (cat0 x)) (SV.as_refl _) ?_)
     refine z0u [7, 11] (by kernel_rfl) (by decide) (List.forall_mem_cons.2 ⟨?_, List.forall_mem_cons.2 ⟨?_, fun _ h => by cases h⟩⟩)
     ·refine z03 z0o ?_
      refine z0i ?_; refine aI (nc_st _) ?_; refine aI (nc_4 _ _) ?_; refine aI (nc_1 _) ?_; refine ⟨catG x y, catA y, catI x, jL x y 256, jrep (cN x) (cN y), cat0 x, [cloE x, dpT x, dpT y], [dpT y], 4096, rfl, hex, ?_⟩
      have hrc : (exR (catG x y) (catA y) (jL x y 256) (jrep (cN x) (cN y)) (cat0 x) 4096).1.cell.length = 256 := zk7 (z0l x y 256)
      have hry : (exR (catG x y) (catA y) (jL x y 256) (jrep (cN x) (cN y)) (cat0 x) 4096).2 = true → (exR (catG x y) (catA y) (jL x y 256) (jrep (cN x) (cN y)) (cat0 x) 4096).1.fit ∧ _ := fun hh => (zab (by decide) (fun s c hc => zc4 s hc) hcc (ze4 hh)).imp_right And.right
      have hrn : (exR (catG x y) (catA y) (jL x y 256) (jrep (cN x) (cN y)) (cat0 x) 4096).2 = false → _ := fun hh => ex_no hh
      have hrs : (exR (catG x y) (catA y) (jL x y 256) (jrep (cN x) (cN y)) (cat0 x) 4096).2 = true → _ := fun hh => ze4 hh
      obtain ⟨r, hr⟩ : ∃ r, r = (exR (catG x y) (catA y) (jL x y 256) (jrep (cN x) (cN y)) (cat0 x) 4096) := ⟨_, rfl⟩; rw [← hr] at hrc hry hrn hrs ⊢; refine z0i ?_
      first | refine exI ?_ | (intro cap7 hcap7; refine exI ?_)
      refine z4a z0o (g := 0) (by kernel_rfl) [(8, true), (9, true), (10, true), (11, false), (12, false), (13, true)] (by kernel_rfl) fun _ hK22 => ?_
      iterate 3 refine z8t ?_
      refine gXUti_6 ?_; refine zey ?_; refine z8t ?_; refine d_nil ?_; apply hK22; refine z3n (by kernel_rfl) ?_; apply hK19; refine seq_k fun _ hK23 => ?_; refine seq_k fun _ hK24 => ?_; refine z00 z0o fun _ hK25 => ?_
      iterate 2 refine z25 ?_
      refine s_nil ?_; apply hK25; apply hK24; refine z08 (b := _) rfl (fun h_t51 => ?_) (fun h_t51 => ?_)
      ·try simp only [dQ, if_true, if_false, reduceIte] at h_t51
       refine seq_k fun _ hK26 => ?_; refine z00 z0o fun _ hK27 => ?_; refine z25 ?_; refine z5d ?_; refine z25 ?_; refine s_nil ?_; apply hK27; apply hK26
       have hyes : z0s d = true ∧ z0s e = true := ⟨hvd, hve⟩
       rw [z3d, if_pos hyes, ← hxe, ← hye, if_pos (hrn (by simpa using h_t51))]; refine z0f (z0n z0o (fun _ _ h => h) (z1d _) [] [.cell 4 30, .tmp 5] rfl ?_)
       repeat first | refine aI (by first | exact trivial | rfl | exact ⟨rfl, rfl⟩ | decide) ?_ | refine z06 (by first | rfl | decide) ?_ | refine z04 (by first | rfl | decide) ?_
       all_goals exact z4r
      ·try simp only [dQ, if_true, if_false, reduceIte] at h_t51
       refine z0c ?_; apply hK23; refine seq_k fun _ hK28 => ?_
       have hr2 : r.2 = true := by simpa using h_t51
       obtain ⟨hrf, hrcan⟩ := hry hr2; refine z00 z0o fun _ hK29 => ?_; refine z4z ?_; refine exA (tabV r.1) (SV.as_refl _) ?_; refine z4z ?_; refine aI (z0v _) ?_; refine z10 _ ?_; refine ⟨r.1, rfl, hrf, ?_⟩; rw [hrcan]
       simp only [z21]
       refine z0i ?_
       first | refine exI ?_ | (intro cap1 hcap1; refine exI ?_)
       iterate 2 refine z25 ?_
       refine z5d ?_; refine z25 ?_; refine s_nil ?_; apply hK29; apply hK28
       have hyes : z0s d = true ∧ z0s e = true := ⟨hvd, hve⟩
       rw [z3d, if_pos hyes, ← hxe, ← hye, if_neg (hrs hr2)]; refine z0f (z0n z0o (fun _ _ h => h) (z1d _) [] [.cell 4 30, .tmp 5] rfl ?_)
       repeat first | refine aI (by first | exact trivial | rfl | exact ⟨rfl, rfl⟩ | decide) ?_ | refine z06 (by first | rfl | decide) ?_ | refine z04 (by first | rfl | decide) ?_
       all_goals exact z4r
     ·refine z03 z0o ?_
      refine z0i ?_; refine exI ?_; refine z4a z0o (g := 0) (by kernel_rfl) [(7, false), (8, true), (9, true), (10, true), (12, false), (13, true)] (by kernel_rfl) fun _ hK30 => ?_; refine zh3 ?_; refine aI (nc_st _) ?_; refine aI (nc_4 _ _) ?_; refine aI (nc_1 _) ?_; refine ⟨catG x y, catA y, catI x, jL x y 256, jrep (cN x) (cN y), cat0 x, [cloE x, dpT x, dpT y], [dpT y], 4096, rfl, hex, ?_⟩
      have hrc : (exR (catG x y) (catA y) (jL x y 256) (jrep (cN x) (cN y)) (cat0 x) 4096).1.cell.length = 256 := zk7 (z0l x y 256)
      have hry : (exR (catG x y) (catA y) (jL x y 256) (jrep (cN x) (cN y)) (cat0 x) 4096).2 = true → (exR (catG x y) (catA y) (jL x y 256) (jrep (cN x) (cN y)) (cat0 x) 4096).1.fit ∧ _ := fun hh => (zab (by decide) (fun s c hc => zc4 s hc) hcc (ze4 hh)).imp_right And.right
      have hrn : (exR (catG x y) (catA y) (jL x y 256) (jrep (cN x) (cN y)) (cat0 x) 4096).2 = false → _ := fun hh => ex_no hh
      have hrs : (exR (catG x y) (catA y) (jL x y 256) (jrep (cN x) (cN y)) (cat0 x) 4096).2 = true → _ := fun hh => ze4 hh
      obtain ⟨r, hr⟩ : ∃ r, r = (exR (catG x y) (catA y) (jL x y 256) (jrep (cN x) (cN y)) (cat0 x) 4096) := ⟨_, rfl⟩; rw [← hr] at hrc hry hrn hrs ⊢; refine z0i ?_
      first | refine exI ?_ | (intro cap7 hcap7; refine exI ?_)
      iterate 3 refine z8t ?_
      refine zey ?_; refine z8t ?_; refine d_nil ?_; apply hK30; refine z3n (by kernel_rfl) ?_; apply hK19; refine seq_k fun _ hK31 => ?_; refine seq_k fun _ hK32 => ?_; refine z00 z0o fun _ hK33 => ?_
      iterate 2 refine z25 ?_
      refine s_nil ?_; apply hK33; apply hK32; refine z08 (b := _) rfl (fun h_t51 => ?_) (fun h_t51 => ?_)
      ·try simp only [dQ, if_true, if_false, reduceIte] at h_t51
       refine seq_k fun _ hK34 => ?_; refine z00 z0o fun _ hK35 => ?_; refine z25 ?_; refine z5d ?_; refine z25 ?_; refine s_nil ?_; apply hK35; apply hK34
       have hyes : z0s d = true ∧ z0s e = true := ⟨hvd, hve⟩
       rw [z3d, if_pos hyes, ← hxe, ← hye, if_pos (hrn (by simpa using h_t51))]; refine z0f (z0n z0o (fun _ _ h => h) (z1d _) [] [.cell 4 30, .tmp 5] rfl ?_)
       repeat first | refine aI (by first | exact trivial | rfl | exact ⟨rfl, rfl⟩ | decide) ?_ | refine z06 (by first | rfl | decide) ?_ | refine z04 (by first | rfl | decide) ?_
       all_goals exact z4r
      ·try simp only [dQ, if_true, if_false, reduceIte] at h_t51
       refine z0c ?_; apply hK31; refine seq_k fun _ hK36 => ?_
       have hr2 : r.2 = true := by simpa using h_t51
       obtain ⟨hrf, hrcan⟩ := hry hr2; refine z00 z0o fun _ hK37 => ?_; refine z4z ?_; refine exA (tabV r.1) (SV.as_refl _) ?_; refine z4z ?_; refine aI (z0v _) ?_; refine z10 _ ?_; refine ⟨r.1, rfl, hrf, ?_⟩; rw [hrcan]
       simp only [z21]
       refine z0i ?_
       first | refine exI ?_ | (intro cap1 hcap1; refine exI ?_)
       iterate 2 refine z25 ?_
       refine z5d ?_; refine z25 ?_; refine s_nil ?_; apply hK37; apply hK36
       have hyes : z0s d = true ∧ z0s e = true := ⟨hvd, hve⟩
       rw [z3d, if_pos hyes, ← hxe, ← hye, if_neg (hrs hr2)]; refine z0f (z0n z0o (fun _ _ h => h) (z1d _) [] [.cell 4 30, .tmp 5] rfl ?_)
       repeat first | refine aI (by first | exact trivial | rfl | exact ⟨rfl, rfl⟩ | decide) ?_ | refine z06 (by first | rfl | decide) ?_ | refine z04 (by first | rfl | decide) ?_
       all_goals exact z4r
    ·refine z03 z0o ?_
     refine z0i ?_; refine exI ?_; refine z4a z0o (g := 0) (by kernel_rfl) [(4, false), (7, false), (8, true), (9, true), (10, true), (12, false), (13, true)] (by kernel_rfl) fun _ hK38 => ?_; refine zh3 ?_; refine aI (nc_st _) ?_; refine ⟨x, (0, 0, 0), rfl, ⟨hx, hx.1.npos⟩, ?_⟩; refine z0i ?_
     first | refine exA (stV (cat0 x)) (SV.as_refl _) ?_ | (intro cap4 hcap4; refine exA (stV (cat0 x)) (SV.as_refl _) ?_)
     refine zh3 ?_; refine aI (nc_st _) ?_; refine aI (nc_4 _ _) ?_; refine aI (nc_1 _) ?_; refine ⟨catG x y, catA y, catI x, jL x y 256, jrep (cN x) (cN y), cat0 x, [cloE x, dpT x, dpT y], [dpT y], 4096, rfl, hex, ?_⟩
     have hrc : (exR (catG x y) (catA y) (jL x y 256) (jrep (cN x) (cN y)) (cat0 x) 4096).1.cell.length = 256 := zk7 (z0l x y 256)
     have hry : (exR (catG x y) (catA y) (jL x y 256) (jrep (cN x) (cN y)) (cat0 x) 4096).2 = true → (exR (catG x y) (catA y) (jL x y 256) (jrep (cN x) (cN y)) (cat0 x) 4096).1.fit ∧ _ := fun hh => (zab (by decide) (fun s c hc => zc4 s hc) hcc (ze4 hh)).imp_right And.right
     have hrn : (exR (catG x y) (catA y) (jL x y 256) (jrep (cN x) (cN y)) (cat0 x) 4096).2 = false → _ := fun hh => ex_no hh
     have hrs : (exR (catG x y) (catA y) (jL x y 256) (jrep (cN x) (cN y)) (cat0 x) 4096).2 = true → _ := fun hh => ze4 hh
     obtain ⟨r, hr⟩ : ∃ r, r = (exR (catG x y) (catA y) (jL x y 256) (jrep (cN x) (cN y)) (cat0 x) 4096) := ⟨_, rfl⟩; rw [← hr] at hrc hry hrn hrs ⊢; refine z0i ?_
     first | refine exI ?_ | (intro cap7 hcap7; refine exI ?_)
     iterate 3 refine z8t ?_
     refine zey ?_; refine z8t ?_; refine d_nil ?_; apply hK38; refine z3n (by kernel_rfl) ?_; apply hK19; refine seq_k fun _ hK39 => ?_; refine seq_k fun _ hK40 => ?_; refine z00 z0o fun _ hK41 => ?_
     iterate 2 refine z25 ?_
     refine s_nil ?_; apply hK41; apply hK40; refine z08 (b := _) rfl (fun h_t51 => ?_) (fun h_t51 => ?_)
     ·try simp only [dQ, if_true, if_false, reduceIte] at h_t51
      refine seq_k fun _ hK42 => ?_; refine z00 z0o fun _ hK43 => ?_; refine z25 ?_; refine z5d ?_; refine z25 ?_; refine s_nil ?_; apply hK43; apply hK42
      have hyes : z0s d = true ∧ z0s e = true := ⟨hvd, hve⟩
      rw [z3d, if_pos hyes, ← hxe, ← hye, if_pos (hrn (by simpa using h_t51))]; refine z0f (z0n z0o (fun _ _ h => h) (z1d _) [] [.cell 4 30, .tmp 5] rfl ?_)
      repeat first | refine aI (by first | exact trivial | rfl | exact ⟨rfl, rfl⟩ | decide) ?_ | refine z06 (by first | rfl | decide) ?_ | refine z04 (by first | rfl | decide) ?_
      all_goals exact z4r
     ·try simp only [dQ, if_true, if_false, reduceIte] at h_t51
      refine z0c ?_; apply hK39; refine seq_k fun _ hK44 => ?_
      have hr2 : r.2 = true := by simpa using h_t51
      obtain ⟨hrf, hrcan⟩ := hry hr2; refine z00 z0o fun _ hK45 => ?_; refine z4z ?_; refine exA (tabV r.1) (SV.as_refl _) ?_; refine z4z ?_; refine aI (z0v _) ?_; refine z10 _ ?_; refine ⟨r.1, rfl, hrf, ?_⟩; rw [hrcan]
      simp only [z21]
      refine z0i ?_
      first | refine exI ?_ | (intro cap1 hcap1; refine exI ?_)
      iterate 2 refine z25 ?_
      refine z5d ?_; refine z25 ?_; refine s_nil ?_; apply hK45; apply hK44
      have hyes : z0s d = true ∧ z0s e = true := ⟨hvd, hve⟩
      rw [z3d, if_pos hyes, ← hxe, ← hye, if_neg (hrs hr2)]; refine z0f (z0n z0o (fun _ _ h => h) (z1d _) [] [.cell 4 30, .tmp 5] rfl ?_)
      repeat first | refine aI (by first | exact trivial | rfl | exact ⟨rfl, rfl⟩ | decide) ?_ | refine z06 (by first | rfl | decide) ?_ | refine z04 (by first | rfl | decide) ?_
      all_goals exact z4r
   refine z0j 3 #[true, true, true, true, true, true, true, true, true, false, false, false] [(4, .c (.ptr 0 0)), (26, tabV x), (30, tabV y), (6, .c (.ptr 1 0))] [(0, .own 30 (.cells [.nils, .nils, .nils]) 3), (1, .own 87 (.cells zl) 259)] 2 ?_ fun nd_1_2_3_5_6_7_8 => ?_
   ·refine z0u [9] (by kernel_rfl) (by decide) (List.forall_mem_cons.2 ⟨?_, fun _ h => by cases h⟩)
    ·refine z03 z0o ?_
     refine z0i ?_; refine exI ?_; refine bleW [] (fun i => i) [0, 1, 2] nd_1_2_3_5_6_7_8_9 (by kernel_rfl) ?_ ?_ ?_ ?_
     ·exact zig
     ·exact (And.intro (And.intro List.not_mem_nil (And.intro rfl (And.intro rfl z8x))) (And.intro (And.intro List.not_mem_nil (And.intro rfl (And.intro zl_len'.symm zt_to))) (And.intro (And.intro List.not_mem_nil (And.intro rfl (And.intro rfl zt_to1))) trivial)))
     ·exact zih
     ·exact zxx
   refine z0j 3 #[true, true, true, true, true, true, true, true, false, true, false, false] [(4, .c (.ptr 0 0)), (26, tabV x), (30, tabV y), (7, .c (.ptr 1 0))] [(0, .own 30 (.cells [.nils, .nils, .nils]) 3), (1, .own 87 (.cells zl) 259)] 2 ?_ fun nd_1_2_3_5_6_7_9 => ?_
   ·refine z0u [8] (by kernel_rfl) (by decide) (List.forall_mem_cons.2 ⟨?_, fun _ h => by cases h⟩)
    ·refine z03 z0o ?_
     refine z0i ?_; refine exI ?_; refine bleW [] (fun i => if i = 1 then 2 else if i = 2 then 1 else i) [0, 2, 1] nd_1_2_3_5_6_7_8_9 (by kernel_rfl) ?_ ?_ ?_ ?_
     ·exact zig
     ·exact (And.intro (And.intro List.not_mem_nil (And.intro rfl (And.intro rfl z8x))) (And.intro (And.intro List.not_mem_nil (And.intro rfl (And.intro rfl zt_to1))) (And.intro (And.intro List.not_mem_nil (And.intro rfl (And.intro zl_len'.symm zt_to))) trivial)))
     ·exact zih
     ·exact zxx
   refine z0j 3 #[true, true, true, true, true, true, true, false, true, true, false, false] [(4, .c (.ptr 0 0)), (26, tabV x), (29, dfaV (canD (langD e))), (6, .c (.ptr 1 0)), (7, .c (.ptr 2 0))] [(0, .own 30 (.cells [.nils, .nils, .nils]) 3), (1, .own 87 (.cells zl) 259), (2, .own 87 (.cells zl) 259)] 3 ?_ fun nd_1_2_3_5_6_8_9 => ?_
   ·refine z0u [7] (by kernel_rfl) (by decide) (List.forall_mem_cons.2 ⟨?_, fun _ h => by cases h⟩)
    ·refine z03 z0o ?_
     refine z0i ?_; refine ⟨canD (langD e), rfl, ge.1, ?_⟩; rw [← hye]; refine z0i ?_
     first | refine exI ?_ | (intro cap7 hcap7; refine exI ?_)
     refine bleW [] (fun i => i) [0, 1, 2] nd_1_2_3_5_6_7_8_9 (by kernel_rfl) ?_ ?_ ?_ ?_
     ·exact zig
     ·exact (And.intro (And.intro List.not_mem_nil (And.intro rfl (And.intro rfl z8x))) (And.intro (And.intro List.not_mem_nil (And.intro rfl (And.intro zl_len'.symm zt_to))) (And.intro (And.intro List.not_mem_nil (And.intro rfl (And.intro zl_len'.symm zt_to))) trivial)))
     ·exact zih
     ·exact zxx
   refine z0j 4 #[true, true, true, true, true, true, true, true, false, false, false, false] [(4, .c (.ptr 0 0)), (26, tabV x), (30, tabV y)] [(0, .own 30 (.cells [.nils, .nils, .nils]) 3)] 1 ?_ fun nd_1_2_3_5_6_7 => ?_
   ·refine z0u [8, 9] (by kernel_rfl) (by decide) (List.forall_mem_cons.2 ⟨?_, List.forall_mem_cons.2 ⟨?_, fun _ h => by cases h⟩⟩)
    ·refine z03 z0o ?_
     refine z0i ?_; refine exI ?_; refine bleW [] (fun i => i) [0, 1] nd_1_2_3_5_6_7_8 (by kernel_rfl) ?_ ?_ ?_ ?_
     ·exact ze6
     ·exact z73
     ·exact ze7
     ·exact z35
    ·refine z03 z0o ?_
     refine z0i ?_; refine exI ?_; refine bleW [] (fun i => i) [0, 1] nd_1_2_3_5_6_7_9 (by kernel_rfl) ?_ ?_ ?_ ?_
     ·exact ze6
     ·exact z73
     ·exact ze7
     ·exact z35
   refine z0j 4 #[true, true, true, true, true, true, true, false, true, false, false, false] [(4, .c (.ptr 0 0)), (26, tabV x), (29, dfaV (canD (langD e))), (6, .c (.ptr 1 0))] [(0, .own 30 (.cells [.nils, .nils, .nils]) 3), (1, .own 87 (.cells zl) 259)] 2 ?_ fun nd_1_2_3_5_6_8 => ?_
   ·refine z0u [7, 9] (by kernel_rfl) (by decide) (List.forall_mem_cons.2 ⟨?_, List.forall_mem_cons.2 ⟨?_, fun _ h => by cases h⟩⟩)
    ·refine z03 z0o ?_
     refine z0i ?_; refine ⟨canD (langD e), rfl, ge.1, ?_⟩; rw [← hye]; refine z0i ?_
     first | refine exI ?_ | (intro cap7 hcap7; refine exI ?_)
     refine bleW [] (fun i => i) [0, 1] nd_1_2_3_5_6_7_8 (by kernel_rfl) ?_ ?_ ?_ ?_
     ·exact ze6
     ·exact z92
     ·exact ze7
     ·exact z35
    ·refine z03 z0o ?_
     refine z0i ?_; refine exI ?_; refine bleW [] (fun i => i) [0, 1, 2] nd_1_2_3_5_6_8_9 (by kernel_rfl) ?_ ?_ ?_ ?_
     ·exact zc5
     ·exact zii
     ·exact z8u
     ·exact z3v
   refine z0j 4 #[true, true, true, true, true, true, true, false, false, true, false, false] [(4, .c (.ptr 0 0)), (26, tabV x), (29, dfaV (canD (langD e))), (7, .c (.ptr 1 0))] [(0, .own 30 (.cells [.nils, .nils, .nils]) 3), (1, .own 87 (.cells zl) 259)] 2 ?_ fun nd_1_2_3_5_6_9 => ?_
   ·refine z0u [7, 8] (by kernel_rfl) (by decide) (List.forall_mem_cons.2 ⟨?_, List.forall_mem_cons.2 ⟨?_, fun _ h => by cases h⟩⟩)
    ·refine z03 z0o ?_
     refine z0i ?_; refine ⟨canD (langD e), rfl, ge.1, ?_⟩; rw [← hye]; refine z0i ?_
     first | refine exI ?_ | (intro cap7 hcap7; refine exI ?_)
     refine bleW [] (fun i => i) [0, 1] nd_1_2_3_5_6_7_9 (by kernel_rfl) ?_ ?_ ?_ ?_
     ·exact ze6
     ·exact z92
     ·exact ze7
     ·exact z35
    ·refine z03 z0o ?_
     refine z0i ?_; refine exI ?_; refine bleW [] (fun i => if i = 1 then 2 else if i = 2 then 1 else i) [0, 2, 1] nd_1_2_3_5_6_8_9 (by kernel_rfl) ?_ ?_ ?_ ?_
     ·exact zc5
     ·exact zdb
     ·exact z8u
     ·exact z3v
   refine z0j 4 #[true, true, true, true, true, true, false, false, true, true, false, false] [(4, .c (.ptr 0 0)), (26, tabV x), (28, tabV (tabD e)), (6, .c (.ptr 1 0)), (7, .c (.ptr 2 0))] [(0, .own 30 (.cells [.nils, .nils, .nils]) 3), (1, .own 87 (.cells zl) 259), (2, .own 87 (.cells zl) 259)] 3 ?_ fun nd_1_2_3_5_8_9 => ?_
   ·refine z0u [6] (by kernel_rfl) (by decide) (List.forall_mem_cons.2 ⟨?_, fun _ h => by cases h⟩)
    ·refine z03 z0o ?_
     refine z0i ?_; refine aI (z0v _) ?_; refine z10 _ ?_; refine ⟨tabD e, rfl, z0y hge, ?_⟩; rw [z5c]
     simp only [z21]
     refine z0i ?_
     first | refine exI ?_ | (intro cap6 hcap6; refine exI ?_)
     refine bleW [] (fun i => i) [0, 1, 2] nd_1_2_3_5_6_8_9 (by kernel_rfl) ?_ ?_ ?_ ?_
     ·exact zc5
     ·exact zh4
     ·exact z8u
     ·exact z3v
   refine z0j 5 #[true, true, true, true, true, true, true, false, false, false, false, false] [(4, .c (.ptr 0 0)), (26, tabV x), (29, dfaV (canD (langD e)))] [(0, .own 30 (.cells [.nils, .nils, .nils]) 3)] 1 ?_ fun nd_1_2_3_5_6 => ?_
   ·refine z0u [7, 8, 9] (by kernel_rfl) (by decide) (List.forall_mem_cons.2 ⟨?_, List.forall_mem_cons.2 ⟨?_, List.forall_mem_cons.2 ⟨?_, fun _ h => by cases h⟩⟩⟩)
    ·refine z03 z0o ?_
     refine z0i ?_; refine ⟨canD (langD e), rfl, ge.1, ?_⟩; rw [← hye]; refine z0i ?_
     first | refine exI ?_ | (intro cap7 hcap7; refine exI ?_)
     refine bleW [] (fun i => i) [0] nd_1_2_3_5_6_7 (by kernel_rfl) ?_ ?_ ?_ ?_
     ·exact zxy
     ·exact zb6
     ·exact zxz
     ·exact (And.intro (And.intro (by decide) z5e) trivial)
    ·refine z03 z0o ?_
     refine z0i ?_; refine exI ?_; refine bleW [] (fun i => i) [0, 1] nd_1_2_3_5_6_8 (by kernel_rfl) ?_ ?_ ?_ ?_
     ·exact z5t
     ·exact z73
     ·exact z5u
     ·exact z35
    ·refine z03 z0o ?_
     refine z0i ?_; refine exI ?_; refine bleW [] (fun i => i) [0, 1] nd_1_2_3_5_6_9 (by kernel_rfl) ?_ ?_ ?_ ?_
     ·exact z5t
     ·exact z73
     ·exact z5u
     ·exact z35
   refine z0j 5 #[true, true, true, true, true, true, false, false, true, false, false, false] [(4, .c (.ptr 0 0)), (26, tabV x), (28, tabV (tabD e)), (6, .c (.ptr 1 0))] [(0, .own 30 (.cells [.nils, .nils, .nils]) 3), (1, .own 87 (.cells zl) 259)] 2 ?_ fun nd_1_2_3_5_8 => ?_
   ·refine z0u [6, 9] (by kernel_rfl) (by decide) (List.forall_mem_cons.2 ⟨?_, List.forall_mem_cons.2 ⟨?_, fun _ h => by cases h⟩⟩)
    ·refine z03 z0o ?_
     refine z0i ?_; refine aI (z0v _) ?_; refine z10 _ ?_; refine ⟨tabD e, rfl, z0y hge, ?_⟩; rw [z5c]
     simp only [z21]
     refine z0i ?_
     first | refine exI ?_ | (intro cap6 hcap6; refine exI ?_)
     refine bleW [] (fun i => i) [0, 1] nd_1_2_3_5_6_8 (by kernel_rfl) ?_ ?_ ?_ ?_
     ·exact z5t
     ·exact z92
     ·exact z5u
     ·exact z35
    ·refine z03 z0o ?_
     refine z0i ?_; refine exI ?_; refine bleW [] (fun i => i) [0, 1, 2] nd_1_2_3_5_8_9 (by kernel_rfl) ?_ ?_ ?_ ?_
     ·exact zig
     ·exact zii
     ·exact zih
     ·exact z3v
   refine z0j 5 #[true, true, true, true, true, true, false, false, false, true, false, false] [(4, .c (.ptr 0 0)), (26, tabV x), (28, tabV (tabD e)), (7, .c (.ptr 1 0))] [(0, .own 30 (.cells [.nils, .nils, .nils]) 3), (1, .own 87 (.cells zl) 259)] 2 ?_ fun nd_1_2_3_5_9 => ?_
   ·refine z0u [6, 8] (by kernel_rfl) (by decide) (List.forall_mem_cons.2 ⟨?_, List.forall_mem_cons.2 ⟨?_, fun _ h => by cases h⟩⟩)
    ·refine z03 z0o ?_
     refine z0i ?_; refine aI (z0v _) ?_; refine z10 _ ?_; refine ⟨tabD e, rfl, z0y hge, ?_⟩; rw [z5c]
     simp only [z21]
     refine z0i ?_
     first | refine exI ?_ | (intro cap6 hcap6; refine exI ?_)
     refine bleW [] (fun i => i) [0, 1] nd_1_2_3_5_6_9 (by kernel_rfl) ?_ ?_ ?_ ?_
     ·exact z5t
     ·exact z92
     ·exact z5u
     ·exact z35
    ·refine z03 z0o ?_
     refine z0i ?_; refine exI ?_; refine bleW [] (fun i => if i = 1 then 2 else if i = 2 then 1 else i) [0, 2, 1] nd_1_2_3_5_8_9 (by kernel_rfl) ?_ ?_ ?_ ?_
     ·exact zig
     ·exact zdb
     ·exact zih
     ·exact z3v
   refine z0j 5 #[true, true, true, true, true, false, false, false, true, true, false, false] [(4, .c (.ptr 0 0)), (26, tabV x), (27, .agg (dfaC e)), (6, .c (.ptr 1 0)), (7, .c (.ptr 2 0))] [(0, .own 30 (.cells [.nils, .nils, .nils]) 3), (1, .own 87 (.cells zl) 259), (2, .own 87 (.cells zl) 259)] 3 ?_ fun nd_1_2_3_8_9 => ?_
   ·refine z0u [5] (by kernel_rfl) (by decide) (List.forall_mem_cons.2 ⟨?_, fun _ h => by cases h⟩)
    ·refine z03 z0o ?_
     refine z0i ?_; refine ⟨e, rfl, hge, ?_⟩; refine z0i ?_
     first | refine exI ?_ | (intro cap5 hcap5; refine exI ?_)
     refine bleW [] (fun i => i) [0, 1, 2] nd_1_2_3_5_8_9 (by kernel_rfl) ?_ ?_ ?_ ?_
     ·exact zig
     ·exact zh4
     ·exact zih
     ·exact z3v
   refine z0j 6 #[true, true, true, true, true, true, false, false, false, false, false, false] [(4, .c (.ptr 0 0)), (26, tabV x), (28, tabV (tabD e))] [(0, .own 30 (.cells [.nils, .nils, .nils]) 3)] 1 ?_ fun nd_1_2_3_5 => ?_
   ·refine z0u [6, 8, 9] (by kernel_rfl) (by decide) (List.forall_mem_cons.2 ⟨?_, List.forall_mem_cons.2 ⟨?_, List.forall_mem_cons.2 ⟨?_, fun _ h => by cases h⟩⟩⟩)
    ·refine z03 z0o ?_
     refine z0i ?_; refine aI (z0v _) ?_; refine z10 _ ?_; refine ⟨tabD e, rfl, z0y hge, ?_⟩; rw [z5c]
     simp only [z21]
     refine z0i ?_
     first | refine exI ?_ | (intro cap6 hcap6; refine exI ?_)
     refine bleW [] (fun i => i) [0] nd_1_2_3_5_6 (by kernel_rfl) ?_ ?_ ?_ ?_
     ·exact zoy
     ·exact zb6
     ·exact zoz
     ·exact (And.intro (And.intro (by decide) z5e) trivial)
    ·refine z03 z0o ?_
     refine z0i ?_; refine exI ?_; refine bleW [] (fun i => i) [0, 1] nd_1_2_3_5_8 (by kernel_rfl) ?_ ?_ ?_ ?_
     ·exact ze6
     ·exact z73
     ·exact ze7
     ·exact z35
    ·refine z03 z0o ?_
     refine z0i ?_; refine exI ?_; refine bleW [] (fun i => i) [0, 1] nd_1_2_3_5_9 (by kernel_rfl) ?_ ?_ ?_ ?_
     ·exact ze6
     ·exact z73
     ·exact ze7
     ·exact z35
   refine z0j 6 #[true, true, true, true, true, false, false, false, true, false, false, false] [(4, .c (.ptr 0 0)), (26, tabV x), (27, .agg (dfaC e)), (6, .c (.ptr 1 0))] [(0, .own 30 (.cells [.nils, .nils, .nils]) 3), (1, .own 87 (.cells zl) 259)] 2 ?_ fun nd_1_2_3_8 => ?_
   ·refine z0u [5, 9] (by kernel_rfl) (by decide) (List.forall_mem_cons.2 ⟨?_, List.forall_mem_cons.2 ⟨?_, fun _ h => by cases h⟩⟩)
    ·refine z03 z0o ?_
     refine z0i ?_; refine ⟨e, rfl, hge, ?_⟩; refine z0i ?_
     first | refine exI ?_ | (intro cap5 hcap5; refine exI ?_)
     refine bleW [] (fun i => i) [0, 1] nd_1_2_3_5_8 (by kernel_rfl) ?_ ?_ ?_ ?_
     ·exact ze6
     ·exact z92
     ·exact ze7
     ·exact z35
    ·refine z03 z0o ?_
     refine z0i ?_; refine exI ?_; refine bleW [] (fun i => i) [0, 1, 2] nd_1_2_3_8_9 (by kernel_rfl) ?_ ?_ ?_ ?_
     ·exact zc5
     ·exact zii
     ·exact z8u
     ·exact z3v
   refine z0j 6 #[true, true, true, true, true, false, false, false, false, true, false, false] [(4, .c (.ptr 0 0)), (26, tabV x), (27, .agg (dfaC e)), (7, .c (.ptr 1 0))] [(0, .own 30 (.cells [.nils, .nils, .nils]) 3), (1, .own 87 (.cells zl) 259)] 2 ?_ fun nd_1_2_3_9 => ?_
   ·refine z0u [5, 8] (by kernel_rfl) (by decide) (List.forall_mem_cons.2 ⟨?_, List.forall_mem_cons.2 ⟨?_, fun _ h => by cases h⟩⟩)
    ·refine z03 z0o ?_
     refine z0i ?_; refine ⟨e, rfl, hge, ?_⟩; refine z0i ?_
     first | refine exI ?_ | (intro cap5 hcap5; refine exI ?_)
     refine bleW [] (fun i => i) [0, 1] nd_1_2_3_5_9 (by kernel_rfl) ?_ ?_ ?_ ?_
     ·exact ze6
     ·exact z92
     ·exact ze7
     ·exact z35
    ·refine z03 z0o ?_
     refine z0i ?_; refine exI ?_; refine bleW [] (fun i => if i = 1 then 2 else if i = 2 then 1 else i) [0, 2, 1] nd_1_2_3_8_9 (by kernel_rfl) ?_ ?_ ?_ ?_
     ·exact zc5
     ·exact zdb
     ·exact z8u
     ·exact z3v
   refine z0j 6 #[true, true, true, false, true, false, false, false, true, true, false, false] [(4, .c (.ptr 0 0)), (25, dfaV (canD (langD d))), (27, .agg (dfaC e)), (6, .c (.ptr 1 0)), (7, .c (.ptr 2 0))] [(0, .own 30 (.cells [.nils, .nils, .nils]) 3), (1, .own 87 (.cells zl) 259), (2, .own 87 (.cells zl) 259)] 3 ?_ fun nd_1_2_8_9 => ?_
   ·refine z0u [3] (by kernel_rfl) (by decide) (List.forall_mem_cons.2 ⟨?_, fun _ h => by cases h⟩)
    ·refine z03 z0o ?_
     refine z0i ?_; refine ⟨canD (langD d), rfl, gd.1, ?_⟩; rw [← hxe]; refine z0i ?_
     first | refine exI ?_ | (intro cap3 hcap3; refine exI ?_)
     refine bleW [] (fun i => i) [0, 1, 2] nd_1_2_3_8_9 (by kernel_rfl) ?_ ?_ ?_ ?_
     ·exact zc5
     ·exact zh4
     ·exact z8u
     ·exact z3v
   refine z0j 7 #[true, true, true, true, true, false, false, false, false, false, false, false] [(4, .c (.ptr 0 0)), (26, tabV x), (27, .agg (dfaC e))] [(0, .own 30 (.cells [.nils, .nils, .nils]) 3)] 1 ?_ fun nd_1_2_3 => ?_
   ·refine z0u [5, 8, 9] (by kernel_rfl) (by decide) (List.forall_mem_cons.2 ⟨?_, List.forall_mem_cons.2 ⟨?_, List.forall_mem_cons.2 ⟨?_, fun _ h => by cases h⟩⟩⟩)
    ·refine z03 z0o ?_
     refine z0i ?_; refine ⟨e, rfl, hge, ?_⟩; refine z0i ?_
     first | refine exI ?_ | (intro cap5 hcap5; refine exI ?_)
     refine bleW [] (fun i => i) [0] nd_1_2_3_5 (by kernel_rfl) ?_ ?_ ?_ ?_
     ·exact zxy
     ·exact zb6
     ·exact zxz
     ·exact (And.intro (And.intro (by decide) z5e) trivial)
    ·refine z03 z0o ?_
     refine z0i ?_; refine exI ?_; refine bleW [] (fun i => i) [0, 1] nd_1_2_3_8 (by kernel_rfl) ?_ ?_ ?_ ?_
     ·exact z5t
     ·exact z73
     ·exact z5u
     ·exact z35
    ·refine z03 z0o ?_
     refine z0i ?_; refine exI ?_; refine bleW [] (fun i => i) [0, 1] nd_1_2_3_9 (by kernel_rfl) ?_ ?_ ?_ ?_
     ·exact z5t
     ·exact z73
     ·exact z5u
     ·exact z35
   refine z0j 7 #[true, true, true, false, true, false, false, false, true, false, false, false] [(4, .c (.ptr 0 0)), (25, dfaV (canD (langD d))), (27, .agg (dfaC e)), (6, .c (.ptr 1 0))] [(0, .own 30 (.cells [.nils, .nils, .nils]) 3), (1, .own 87 (.cells zl) 259)] 2 ?_ fun nd_1_2_8 => ?_
   ·refine z0u [3, 9] (by kernel_rfl) (by decide) (List.forall_mem_cons.2 ⟨?_, List.forall_mem_cons.2 ⟨?_, fun _ h => by cases h⟩⟩)
    ·refine z03 z0o ?_
     refine z0i ?_; refine ⟨canD (langD d), rfl, gd.1, ?_⟩; rw [← hxe]; refine z0i ?_
     first | refine exI ?_ | (intro cap3 hcap3; refine exI ?_)
     refine bleW [] (fun i => i) [0, 1] nd_1_2_3_8 (by kernel_rfl) ?_ ?_ ?_ ?_
     ·exact z5t
     ·exact z92
     ·exact z5u
     ·exact z35
    ·refine z03 z0o ?_
     refine z0i ?_; refine exI ?_; refine bleW [] (fun i => i) [0, 1, 2] nd_1_2_8_9 (by kernel_rfl) ?_ ?_ ?_ ?_
     ·exact zh5
     ·exact zii
     ·exact zh6
     ·exact z3v
   refine z0j 7 #[true, true, true, false, true, false, false, false, false, true, false, false] [(4, .c (.ptr 0 0)), (25, dfaV (canD (langD d))), (27, .agg (dfaC e)), (7, .c (.ptr 1 0))] [(0, .own 30 (.cells [.nils, .nils, .nils]) 3), (1, .own 87 (.cells zl) 259)] 2 ?_ fun nd_1_2_9 => ?_
   ·refine z0u [3, 8] (by kernel_rfl) (by decide) (List.forall_mem_cons.2 ⟨?_, List.forall_mem_cons.2 ⟨?_, fun _ h => by cases h⟩⟩)
    ·refine z03 z0o ?_
     refine z0i ?_; refine ⟨canD (langD d), rfl, gd.1, ?_⟩; rw [← hxe]; refine z0i ?_
     first | refine exI ?_ | (intro cap3 hcap3; refine exI ?_)
     refine bleW [] (fun i => i) [0, 1] nd_1_2_3_9 (by kernel_rfl) ?_ ?_ ?_ ?_
     ·exact z5t
     ·exact z92
     ·exact z5u
     ·exact z35
    ·refine z03 z0o ?_
     refine z0i ?_; refine exI ?_; refine bleW [] (fun i => if i = 1 then 2 else if i = 2 then 1 else i) [0, 2, 1] nd_1_2_8_9 (by kernel_rfl) ?_ ?_ ?_ ?_
     ·exact zh5
     ·exact zdb
     ·exact zh6
     ·exact z3v
   refine z0j 7 #[true, true, false, false, true, false, false, false, true, true, false, false] [(4, .c (.ptr 0 0)), (24, tabV (tabD d)), (27, .agg (dfaC e)), (6, .c (.ptr 1 0)), (7, .c (.ptr 2 0))] [(0, .own 30 (.cells [.nils, .nils, .nils]) 3), (1, .own 87 (.cells zl) 259), (2, .own 87 (.cells zl) 259)] 3 ?_ fun nd_1_8_9 => ?_
   ·refine z0u [2] (by kernel_rfl) (by decide) (List.forall_mem_cons.2 ⟨?_, fun _ h => by cases h⟩)
    ·refine z03 z0o ?_
     refine z0i ?_; refine aI (z0v _) ?_; refine z10 _ ?_; refine ⟨tabD d, rfl, z0y hgd, ?_⟩; rw [z5c]
     simp only [z21]
     refine z0i ?_
     first | refine exI ?_ | (intro cap2 hcap2; refine exI ?_)
     refine bleW [] (fun i => i) [0, 1, 2] nd_1_2_8_9 (by kernel_rfl) ?_ ?_ ?_ ?_
     ·exact zh5
     ·exact zh4
     ·exact zh6
     ·exact z3v
   refine z0j 8 #[true, true, true, false, true, false, false, false, false, false, false, false] [(4, .c (.ptr 0 0)), (25, dfaV (canD (langD d))), (27, .agg (dfaC e))] [(0, .own 30 (.cells [.nils, .nils, .nils]) 3)] 1 ?_ fun nd_1_2 => ?_
   ·refine z0u [3, 8, 9] (by kernel_rfl) (by decide) (List.forall_mem_cons.2 ⟨?_, List.forall_mem_cons.2 ⟨?_, List.forall_mem_cons.2 ⟨?_, fun _ h => by cases h⟩⟩⟩)
    ·refine z03 z0o ?_
     refine z0i ?_; refine ⟨canD (langD d), rfl, gd.1, ?_⟩; rw [← hxe]; refine z0i ?_
     first | refine exI ?_ | (intro cap3 hcap3; refine exI ?_)
     refine bleW [] (fun i => i) [0] nd_1_2_3 (by kernel_rfl) ?_ ?_ ?_ ?_
     ·exact zoy
     ·exact zb6
     ·exact zoz
     ·exact (And.intro (And.intro (by decide) z5e) trivial)
    ·refine z03 z0o ?_
     refine z0i ?_; refine exI ?_; refine bleW [] (fun i => i) [0, 1] nd_1_2_8 (by kernel_rfl) ?_ ?_ ?_ ?_
     ·exact zdc
     ·exact z73
     ·exact zdd
     ·exact z35
    ·refine z03 z0o ?_
     refine z0i ?_; refine exI ?_; refine bleW [] (fun i => i) [0, 1] nd_1_2_9 (by kernel_rfl) ?_ ?_ ?_ ?_
     ·exact zdc
     ·exact z73
     ·exact zdd
     ·exact z35
   refine z0j 8 #[true, true, false, false, true, false, false, false, true, false, false, false] [(4, .c (.ptr 0 0)), (24, tabV (tabD d)), (27, .agg (dfaC e)), (6, .c (.ptr 1 0))] [(0, .own 30 (.cells [.nils, .nils, .nils]) 3), (1, .own 87 (.cells zl) 259)] 2 ?_ fun nd_1_8 => ?_
   ·refine z0u [2, 9] (by kernel_rfl) (by decide) (List.forall_mem_cons.2 ⟨?_, List.forall_mem_cons.2 ⟨?_, fun _ h => by cases h⟩⟩)
    ·refine z03 z0o ?_
     refine z0i ?_; refine aI (z0v _) ?_; refine z10 _ ?_; refine ⟨tabD d, rfl, z0y hgd, ?_⟩; rw [z5c]
     simp only [z21]
     refine z0i ?_
     first | refine exI ?_ | (intro cap2 hcap2; refine exI ?_)
     refine bleW [] (fun i => i) [0, 1] nd_1_2_8 (by kernel_rfl) ?_ ?_ ?_ ?_
     ·exact zdc
     ·exact z92
     ·exact zdd
     ·exact z35
    ·refine z03 z0o ?_
     refine z0i ?_; refine exI ?_; refine bleW [] (fun i => i) [0, 1, 2] nd_1_8_9 (by kernel_rfl) ?_ ?_ ?_ ?_
     ·exact zc5
     ·exact zii
     ·exact z8u
     ·exact z3v
   refine z0j 8 #[true, true, false, false, true, false, false, false, false, true, false, false] [(4, .c (.ptr 0 0)), (24, tabV (tabD d)), (27, .agg (dfaC e)), (7, .c (.ptr 1 0))] [(0, .own 30 (.cells [.nils, .nils, .nils]) 3), (1, .own 87 (.cells zl) 259)] 2 ?_ fun nd_1_9 => ?_
   ·refine z0u [2, 8] (by kernel_rfl) (by decide) (List.forall_mem_cons.2 ⟨?_, List.forall_mem_cons.2 ⟨?_, fun _ h => by cases h⟩⟩)
    ·refine z03 z0o ?_
     refine z0i ?_; refine aI (z0v _) ?_; refine z10 _ ?_; refine ⟨tabD d, rfl, z0y hgd, ?_⟩; rw [z5c]
     simp only [z21]
     refine z0i ?_
     first | refine exI ?_ | (intro cap2 hcap2; refine exI ?_)
     refine bleW [] (fun i => i) [0, 1] nd_1_2_9 (by kernel_rfl) ?_ ?_ ?_ ?_
     ·exact zdc
     ·exact z92
     ·exact zdd
     ·exact z35
    ·refine z03 z0o ?_
     refine z0i ?_; refine exI ?_; refine bleW [] (fun i => if i = 1 then 2 else if i = 2 then 1 else i) [0, 2, 1] nd_1_8_9 (by kernel_rfl) ?_ ?_ ?_ ?_
     ·exact zc5
     ·exact zdb
     ·exact z8u
     ·exact z3v
   refine z0j 8 #[true, false, false, false, true, false, false, false, true, true, false, false] [(4, .c (.ptr 0 0)), (23, .agg (dfaC d)), (27, .agg (dfaC e)), (6, .c (.ptr 1 0)), (7, .c (.ptr 2 0))] [(0, .own 30 (.cells [.nils, .nils, .nils]) 3), (1, .own 87 (.cells zl) 259), (2, .own 87 (.cells zl) 259)] 3 ?_ fun nd_8_9 => ?_
   ·refine z0u [1] (by kernel_rfl) (by decide) (List.forall_mem_cons.2 ⟨?_, fun _ h => by cases h⟩)
    ·refine z03 z0o ?_
     refine z0i ?_; refine ⟨d, rfl, hgd, ?_⟩; refine z0i ?_
     first | refine exI ?_ | (intro cap1 hcap1; refine exI ?_)
     refine bleW [] (fun i => i) [0, 1, 2] nd_1_8_9 (by kernel_rfl) ?_ ?_ ?_ ?_
     ·exact zc5
     ·exact zh4
     ·exact z8u
     ·exact z3v
   refine z0j 9 #[true, true, false, false, true, false, false, false, false, false, false, false] [(4, .c (.ptr 0 0)), (24, tabV (tabD d)), (27, .agg (dfaC e))] [(0, .own 30 (.cells [.nils, .nils, .nils]) 3)] 1 ?_ fun nd_1 => ?_
   ·refine z0u [2, 8, 9] (by kernel_rfl) (by decide) (List.forall_mem_cons.2 ⟨?_, List.forall_mem_cons.2 ⟨?_, List.forall_mem_cons.2 ⟨?_, fun _ h => by cases h⟩⟩⟩)
    ·refine z03 z0o ?_
     refine z0i ?_; refine aI (z0v _) ?_; refine z10 _ ?_; refine ⟨tabD d, rfl, z0y hgd, ?_⟩; rw [z5c]
     simp only [z21]
     refine z0i ?_
     first | refine exI ?_ | (intro cap2 hcap2; refine exI ?_)
     refine bleW [] (fun i => i) [0] nd_1_2 (by kernel_rfl) ?_ ?_ ?_ ?_
     ·exact zy0
     ·exact zb6
     ·exact zy1
     ·exact (And.intro (And.intro (by decide) z5e) trivial)
    ·refine z03 z0o ?_
     refine z0i ?_; refine exI ?_; refine bleW [] (fun i => i) [0, 1] nd_1_8 (by kernel_rfl) ?_ ?_ ?_ ?_
     ·exact z5t
     ·exact z73
     ·exact z5u
     ·exact z35
    ·refine z03 z0o ?_
     refine z0i ?_; refine exI ?_; refine bleW [] (fun i => i) [0, 1] nd_1_9 (by kernel_rfl) ?_ ?_ ?_ ?_
     ·exact z5t
     ·exact z73
     ·exact z5u
     ·exact z35
   refine z0j 9 #[true, false, false, false, true, false, false, false, true, false, false, false] [(4, .c (.ptr 0 0)), (23, .agg (dfaC d)), (27, .agg (dfaC e)), (6, .c (.ptr 1 0))] [(0, .own 30 (.cells [.nils, .nils, .nils]) 3), (1, .own 87 (.cells zl) 259)] 2 ?_ fun nd_8 => ?_
   ·refine z0u [1, 9] (by kernel_rfl) (by decide) (List.forall_mem_cons.2 ⟨?_, List.forall_mem_cons.2 ⟨?_, fun _ h => by cases h⟩⟩)
    ·refine z03 z0o ?_
     refine z0i ?_; refine ⟨d, rfl, hgd, ?_⟩; refine z0i ?_
     first | refine exI ?_ | (intro cap1 hcap1; refine exI ?_)
     refine bleW [] (fun i => i) [0, 1] nd_1_8 (by kernel_rfl) ?_ ?_ ?_ ?_
     ·exact z5t
     ·exact z92
     ·exact z5u
     ·exact z35
    ·refine z03 z0o ?_
     refine z0i ?_; refine exI ?_; refine bleW [] (fun i => i) [0, 1, 2] nd_8_9 (by kernel_rfl) ?_ ?_ ?_ ?_
     ·exact zh5
     ·exact zii
     ·exact zh6
     ·exact z3v
   refine z0j 9 #[true, false, false, false, true, false, false, false, false, true, false, false] [(4, .c (.ptr 0 0)), (23, .agg (dfaC d)), (27, .agg (dfaC e)), (7, .c (.ptr 1 0))] [(0, .own 30 (.cells [.nils, .nils, .nils]) 3), (1, .own 87 (.cells zl) 259)] 2 ?_ fun nd_9 => ?_
   ·refine z0u [1, 8] (by kernel_rfl) (by decide) (List.forall_mem_cons.2 ⟨?_, List.forall_mem_cons.2 ⟨?_, fun _ h => by cases h⟩⟩)
    ·refine z03 z0o ?_
     refine z0i ?_; refine ⟨d, rfl, hgd, ?_⟩; refine z0i ?_
     first | refine exI ?_ | (intro cap1 hcap1; refine exI ?_)
     refine bleW [] (fun i => i) [0, 1] nd_1_9 (by kernel_rfl) ?_ ?_ ?_ ?_
     ·exact z5t
     ·exact z92
     ·exact z5u
     ·exact z35
    ·refine z03 z0o ?_
     refine z0i ?_; refine exI ?_; refine bleW [] (fun i => if i = 1 then 2 else if i = 2 then 1 else i) [0, 2, 1] nd_8_9 (by kernel_rfl) ?_ ?_ ?_ ?_
     ·exact zh5
     ·exact zdb
     ·exact zh6
     ·exact z3v
   refine z0j 10 #[true, false, false, false, true, false, false, false, false, false, false, false] [(4, .c (.ptr 0 0)), (23, .agg (dfaC d)), (27, .agg (dfaC e))] [(0, .own 30 (.cells [.nils, .nils, .nils]) 3)] 1 ?_ fun nd_ => ?_
   ·refine z0u [1, 8, 9] (by kernel_rfl) (by decide) (List.forall_mem_cons.2 ⟨?_, List.forall_mem_cons.2 ⟨?_, List.forall_mem_cons.2 ⟨?_, fun _ h => by cases h⟩⟩⟩)
    ·refine z03 z0o ?_
     refine z0i ?_; refine ⟨d, rfl, hgd, ?_⟩; refine z0i ?_
     first | refine exI ?_ | (intro cap1 hcap1; refine exI ?_)
     refine bleW [] (fun i => i) [0] nd_1 (by kernel_rfl) ?_ ?_ ?_ ?_
     ·exact zoy
     ·exact zb6
     ·exact zoz
     ·exact (And.intro (And.intro (by decide) z5e) trivial)
    ·refine z03 z0o ?_
     refine z0i ?_; refine exI ?_; refine bleW [] (fun i => i) [0, 1] nd_8 (by kernel_rfl) ?_ ?_ ?_ ?_
     ·exact zdc
     ·exact z73
     ·exact zdd
     ·exact z35
    ·refine z03 z0o ?_
     refine z0i ?_; refine exI ?_; refine bleW [] (fun i => i) [0, 1] nd_9 (by kernel_rfl) ?_ ?_ ?_ ?_
     ·exact zdc
     ·exact z73
     ·exact zdd
     ·exact z35
   refine z4a z0o (g := 10) (by kernel_rfl) [(0, true), (4, true)] (by kernel_rfl) fun _ hK46 => ?_
   iterate 2 refine z8t ?_
   refine d_nil ?_; apply hK46; refine bleW [] (fun _ => 2) [2] nd_ (by kernel_rfl) ?_ ?_ ?_ ?_
   ·exact zy0
   ·exact zb6
   ·exact zy1
   ·exact (And.intro (And.intro (by decide) z5e) trivial)


end Go.Proofs.YtppmnaoollkboaaDoor

namespace Go.Proofs.YtppmnaoollkboaaDoor
set_option linter.all false
open Go.Ab Go.RowKit

theorem qUtj0 {a : Prop} (h : a := by first | exact vcA | (simp [-List.reduceReplicate] <;> omega) | exact vTr | exact vTx | (show (List.replicate 256 (0 : Int)).length = (jL _ _ _).length; rw [z0l, List.length_replicate]) | (show 256 = (jL _ _ _).length; rw [z0l]) | (show 0 < (jL _ _ _).length; rw [z0l]; decide) | (show 0 + (jL _ _ _).length ≤ (List.replicate 256 (0 : Int)).length; rw [z0l, List.length_replicate]; decide) | (show 0 + 256 * 1 ≤ (jL _ _ _).length; rw [z0l]; decide) | (show (jL _ _ _).length = 256 * 1; rw [z0l]) | exact vcB) : a := h
theorem zy2 {a : Prop} (h : a := by
    repeat' (first | exact z1f _ | exact z30 _ | exact z38 (z0x z1x z28) | exact z38 (z0x z1x (z0x z1x (z0x z1x z28))) | exact pT  | exact trivial | refine aI ?_ ?_ | exact cC0 | refine low_cons' ?_ ?_ | exact cC1 | fail)
    all_goals first | omega | exact z1f _ | (show 0 < (z02 _ _ _ _).length; rw [z01 hx.1.clen]; decide) | (show 0 < (z02 _ _ _ _).length; rw [z01 hy.1.clen]; decide) | (show 0 < (jL _ _ _).length; rw [z0l]; decide) | (intro z hz; rw [List.mem_singleton.1 hz]; exact ⟨rfl, fun g l e => by cases e⟩) | exact Nat.one_pos| (show (0 : Nat) < (z02 _ _ _ _).length; rw [z01 hcl]; decide) | (simp [-List.reduceReplicate]; done) | (simp [-List.reduceReplicate] <;> omega) | skip) : a := h
theorem ze8 {a : Prop} (h : a := by
    repeat' (first | exact z1f _ | exact z30 _ | exact z38 (z0x z1x z28) | exact z38 (z0x z1x (z0x z1x (z0x z1x z28))) | exact pT  | exact trivial | refine aI ?_ ?_ | exact cC0 | refine low_cons' ?_ ?_ | exact cC1 | fail)
    all_goals first | omega | exact z1f _ | (show 0 < (z02 _ _ _ _).length; rw [z01 hx.1.clen]; decide) | (show 0 < (z02 _ _ _ _).length; rw [z01 hx.1.clen]; decide) | (show 0 < (jL _ _ _).length; rw [z0l]; decide) | (intro z hz; rw [List.mem_singleton.1 hz]; exact ⟨rfl, fun g l e => by cases e⟩) | exact Nat.one_pos| (show (0 : Nat) < (z02 _ _ _ _).length; rw [z01 hcl]; decide) | (simp [-List.reduceReplicate]; done) | (simp [-List.reduceReplicate] <;> omega) | skip) : a := h
theorem zam {a b : Prop} (kZ : b) (h : HidB b → a := by intro kZ; (repeat first | refine aI qUtj0 ?_ | refine z06 qUtj0 ?_ | refine z04 qUtj0 ?_ | refine z0k qUtj0 ?_ | refine z0a ?_); exact kZ.out) : a := h ⟨kZ⟩
theorem z3e {a b : Prop} (kZ : b) (h : HidB b → a := by intro kZ; refine sX ?_; refine zam ?_; refine exI ?_; exact kZ.out) : a := h ⟨kZ⟩
theorem zac {a b : Prop} (kZ : b) (h : HidB b → a := by intro kZ; refine sX0 ?_; refine zam ?_; refine exI ?_; exact kZ.out) : a := h ⟨kZ⟩
theorem z43 {a b : Prop} (kZ : b) (h : HidB b → a := by intro kZ; refine sX ?_; refine zam ?_; exact kZ.out) : a := h ⟨kZ⟩

open Go.Aut
attribute [local irreducible] z0q z1z zl z02 z18 putB prodT canD jL jrep exR z2y
noncomputable def gh4 : Ctx := { P := Tryd.prog, ty := ty, glob := gl, fs := [(50, .flat z8m), (74, .data z8n), (75, .data z7v), (76, .data zr6), (83, .data zeu), (80, .data (zet 84 sta1S 85 sta2S))] }
theorem z7y : gh4.OK := ⟨tyOK, ⟨⟨z07 Tryd.func50 (by kernel_rfl) rfl, z5i⟩, ⟨z07 Tryd.func74 (by kernel_rfl) rfl, z6a⟩, ⟨z07 Tryd.func75 (by kernel_rfl) rfl, z71⟩, ⟨z07 Tryd.func76 (by kernel_rfl) rfl, zjz⟩, ⟨z07 Tryd.func83 (by kernel_rfl) rfl, zd5⟩, ⟨z07 Tryd.func80 (by kernel_rfl) rfl, zd3 (z07 Tryd.func84 (by kernel_rfl) rfl) sta1_ok (z07 Tryd.func85 (by kernel_rfl) rfl) sta2_ok (by decide)⟩, trivial⟩, mixed⟩
@[simp] theorem gh4_ty : gh4.ty = ty := rfl

def zy3 : QSpec := fun vs K => ∃ d : Dfa, vs = [dfaV d] ∧ d.wf ∧ K (resV (starR d))
set_option maxHeartbeats 2000000 in
set_option maxRecDepth 4000 in
theorem zrn : z2p Tryd.prog gl 24 zy3 := by
 refine z2e (Γ := gh4) (N := 42) Tryd.func24 rfl rfl fun vs K h => ?_; obtain ⟨d, rfl, hd, h⟩ := h; refine ⟨_, h, z1d _, by simp, fun w I => ?_⟩; refine seq_k fun _ hK1 => ?_; refine z00 z7y fun _ hK2 => ?_
 iterate 3 refine z3e ?_
 refine s_nil ?_; apply hK2; apply hK1; refine seq_k fun _ hK3 => ?_; refine seq_k fun _ hK4 => ?_; refine z00 z7y fun _ hK5 => ?_; refine z3e ?_; refine z43 ?_; refine ⟨d, rfl, hd, ?_⟩; refine zam ?_
 first | refine exI ?_ | (intro cap1 hcap1; refine exI ?_)
 refine z3e ?_; refine s_nil ?_; apply hK5; apply hK4; refine z08 (b := _) rfl (fun h_t12 => ?_) (fun h_t12 => ?_)
 ·try simp only [dQ, if_true, if_false, reduceIte] at h_t12
  refine seq_k fun _ hK6 => ?_; refine z00 z7y fun _ hK7 => ?_; refine z3e ?_; refine zac ?_; refine z3e ?_; refine s_nil ?_; apply hK7; apply hK6; rw [starR, if_neg (by simpa using h_t12)]; refine z0f (z0n z7y (fun _ _ h => h) (z1d _) [] [.cell 2 30, .tmp 3] rfl ?_)
  repeat first | refine aI (by first | exact trivial | rfl | exact ⟨rfl, rfl⟩ | decide) ?_ | refine z06 (by first | rfl | decide) ?_ | refine z04 (by first | rfl | decide) ?_
  all_goals exact zy2
 ·try simp only [dQ, if_true, if_false, reduceIte] at h_t12
  refine z0c ?_; apply hK3; refine seq_k fun _ hK8 => ?_
  have hg := (z1o hd).1 (by simpa using h_t12)
  have gd := z42 hg
  have hx := z0y gd.1
  have hcc : ∀ w, Bytes w → _ := fun w hw => zxt hg hw
  obtain ⟨x, hxe⟩ : ∃ x, x = (tabD (canD (langD d))) := ⟨_, rfl⟩; rw [← hxe] at hx hcc
  have hex := sta_exin hx
  refine z00 z7y fun _ hK9 => ?_; refine z3e ?_; refine z43 ?_; refine ⟨d, rfl, hg, ?_⟩; refine zam ?_
  first | refine exI ?_ | (intro cap1 hcap1; refine exI ?_)
  refine z43 ?_; refine aI (z0v _) ?_; refine z10 _ ?_; refine ⟨tabD d, rfl, z0y hg, ?_⟩; rw [z5c]
  simp only [z21]
  refine zam ?_
  first | refine exI ?_ | (intro cap2 hcap2; refine exI ?_)
  refine z43 ?_; refine ⟨canD (langD d), rfl, gd.1, ?_⟩; rw [← hxe]; refine zam ?_
  first | refine exI ?_ | (intro cap3 hcap3; refine exI ?_)
  refine z3e ?_; refine zac ?_; refine s_nil ?_; apply hK9; apply hK8; refine seq_k fun _ hK10 => ?_; refine leW [2] (fun _ => 1) [(2, .c (.ptr 0 0)), (4, .c (dpT x))] [(0, .own 30 (.cells [.nils, .nils, .nils]) 3)] 1 [1] ze8 ze8 ze8 ze8 ?_; refine z00 z7y fun _ hK11 => ?_; refine z43 ?_; refine exA (tabV x) (SV.as_refl _) ?_; refine z43 ?_; refine exA (tabV x) (SV.as_refl _) ?_; refine z43 ?_; refine aI (z0v _) ?_; refine z10 _ ?_; refine aI (z0v _) ?_; refine z10 _ ?_; refine ⟨x, x, rfl, ⟨hx, hx⟩, ?_⟩
  simp only [z21]
  refine zam ?_
  first | refine exI ?_ | (intro cap2 hcap2; refine exI ?_)
  iterate 4 refine z3e ?_
  refine zac ?_; refine z3e ?_; refine s_nil ?_; apply hK11; apply hK10; refine seq_k fun _ hK12 => ?_; refine leW [1] id [(2, .c (.ptr 0 0)), (4, .c (dpT x)), (5, .c (.dp (.ints .i64 (jL x x 256)) 0)), (6, .c (.ds (jrep (cN x) (cN x)).length (.ints .i64 (natsI (jrep (cN x) (cN x))))))] [(0, .own 30 (.cells [.nils, .nils, .nils]) 3)] 1 [0] ze8 ze8 ze8 ze8 ?_; refine z00 z7y fun _ hK13 => ?_
  iterate 2 refine z3e ?_
  refine s_nil ?_; apply hK13; apply hK12; refine seq_k fun _ hK14 => ?_; refine z00 z7y fun _ hK15 => ?_; refine z43 ?_; refine exA (.agg (.ints .i64 (jL x x 256))) (SV.as_refl _) ?_; refine z3e ?_; refine z43 ?_; refine exA (.agg (.u64s [1])) (SV.as_refl _) ?_; refine z43 ?_; refine exA (stV (1, 0, 1)) (as_eq rfl) ?_
  iterate 2 refine z3e ?_
  refine z43 ?_; refine aI (nc_st _) ?_; refine aI (nc_1 _) ?_; refine aI (nc_1 _) ?_; refine ⟨staG x, staA x, staI, jL x x 256, jrep (cN x) (cN x), (1, 0, 1), [dpT x], [dpT x], 4096, rfl, hex, ?_⟩
  have hrc : (exR (staG x) (staA x) (jL x x 256) (jrep (cN x) (cN x)) (1, 0, 1) 4096).1.cell.length = 256 := zk7 (z0l x x 256)
  have hry : (exR (staG x) (staA x) (jL x x 256) (jrep (cN x) (cN x)) (1, 0, 1) 4096).2 = true → (exR (staG x) (staA x) (jL x x 256) (jrep (cN x) (cN x)) (1, 0, 1) 4096).1.fit ∧ _ := fun hh => (zab (by decide) (fun s c hc => zma s hc) hcc (ze4 hh)).imp_right And.right
  have hrn : (exR (staG x) (staA x) (jL x x 256) (jrep (cN x) (cN x)) (1, 0, 1) 4096).2 = false → _ := fun hh => ex_no hh
  have hrs : (exR (staG x) (staA x) (jL x x 256) (jrep (cN x) (cN x)) (1, 0, 1) 4096).2 = true → _ := fun hh => ze4 hh
  obtain ⟨r, hr⟩ : ∃ r, r = (exR (staG x) (staA x) (jL x x 256) (jrep (cN x) (cN x)) (1, 0, 1) 4096) := ⟨_, rfl⟩; rw [← hr] at hrc hry hrn hrs ⊢; refine zam ?_
  first | refine exI ?_ | (intro cap6 hcap6; refine exI ?_)
  iterate 4 refine z3e ?_
  refine zac ?_; refine z3e ?_; refine s_nil ?_; apply hK15; apply hK14; refine seq_k fun _ hK16 => ?_; refine seq_k fun _ hK17 => ?_; refine z00 z7y fun _ hK18 => ?_
  iterate 2 refine z3e ?_
  refine s_nil ?_; apply hK18; apply hK17; refine z08 (b := _) rfl (fun h_t36 => ?_) (fun h_t36 => ?_)
  ·try simp only [dQ, if_true, if_false, reduceIte] at h_t36
   refine seq_k fun _ hK19 => ?_; refine z00 z7y fun _ hK20 => ?_; refine z3e ?_; refine zac ?_; refine z3e ?_; refine s_nil ?_; apply hK20; apply hK19; rw [starR, if_pos (z0w hg), ← hxe, if_pos (hrn (by simpa using h_t36))]; refine z0f (z0n z7y (fun _ _ h => h) (z1d _) [] [.cell 2 30, .tmp 3] rfl ?_)
   repeat first | refine aI (by first | exact trivial | rfl | exact ⟨rfl, rfl⟩ | decide) ?_ | refine z06 (by first | rfl | decide) ?_ | refine z04 (by first | rfl | decide) ?_
   all_goals exact zy2
  ·try simp only [dQ, if_true, if_false, reduceIte] at h_t36
   refine z0c ?_; apply hK16; refine seq_k fun _ hK21 => ?_
   have hr2 : r.2 = true := by simpa using h_t36
   obtain ⟨hrf, hrcan⟩ := hry hr2; refine z00 z7y fun _ hK22 => ?_; refine z43 ?_; refine exA (tabV r.1) (SV.as_refl _) ?_; refine z43 ?_; refine aI (z0v _) ?_; refine z10 _ ?_; refine ⟨r.1, rfl, hrf, ?_⟩; rw [hrcan]
   simp only [z21]
   refine zam ?_
   first | refine exI ?_ | (intro cap1 hcap1; refine exI ?_)
   iterate 2 refine z3e ?_
   refine zac ?_; refine z3e ?_; refine s_nil ?_; apply hK22; apply hK21; rw [starR, if_pos (z0w hg), ← hxe, if_neg (hrs hr2)]; refine z0f (z0n z7y (fun _ _ h => h) (z1d _) [] [.cell 2 30, .tmp 3] rfl ?_)
   repeat first | refine aI (by first | exact trivial | rfl | exact ⟨rfl, rfl⟩ | decide) ?_ | refine z06 (by first | rfl | decide) ?_ | refine z04 (by first | rfl | decide) ?_
   all_goals exact zy2


end Go.Proofs.YtppmnaoollkboaaDoor
