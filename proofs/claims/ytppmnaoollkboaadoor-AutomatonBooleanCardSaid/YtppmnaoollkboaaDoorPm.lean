/- Part 13 of what the claims of this seat share: the walk's engine, the functions' contracts, plain mathematics (Uti, Utj). -/
import Derived.Test.YtppmnaoollkboaaDoorPl
import Derived.Test.YtppmnaoollkboaaDoorPb
namespace Go.Proofs.YtppmnaoollkboaaDoor
set_option linter.all false
open Go.Ab Go.RowKit

theorem qUti0 {a : Prop} (h : a := by first | exact vcA | (simp [-List.reduceReplicate] <;> omega) | exact vTr | exact vTx | exact vTy | (show (List.replicate 256 (0 : Int)).length = (jL _ _ _).length; rw [z0k, List.length_replicate]) | (show 256 = (jL _ _ _).length; rw [z0k]) | (show 0 < (jL _ _ _).length; rw [z0k]; decide) | (show 0 + (jL _ _ _).length ≤ (List.replicate 256 (0 : Int)).length; rw [z0k, List.length_replicate]; decide) | (show 0 + 256 * 1 ≤ (jL _ _ _).length; rw [z0k]; decide) | (show (jL _ _ _).length = 256 * 1; rw [z0k]) | exact vcB) : a := h
theorem z4z {a : Prop} (h : a := by
    repeat' (first | exact z1e _ | exact z38 _ | exact z3g (z0x z20 z2b) | exact z3g (z0x z20 (z0x z20 (z0x z20 z2b))) | exact pT  | exact trivial | refine aI ?_ ?_ | exact cC0 | refine low_cons' ?_ ?_ | exact cC1 | fail)
    all_goals first | omega | exact z1e _ | (show 0 < (z02 _ _ _ _).length; rw [z01 hx.1.clen]; decide) | (show 0 < (z02 _ _ _ _).length; rw [z01 hy.1.clen]; decide) | (show 0 < (jL _ _ _).length; rw [z0k]; decide) | (intro z hz; rw [List.mem_singleton.1 hz]; exact ⟨rfl, fun g l e => by cases e⟩) | exact Nat.one_pos| (show (0 : Nat) < (z02 _ _ _ _).length; rw [z01 hcl]; decide) | (simp [-List.reduceReplicate]; done) | (simp [-List.reduceReplicate] <;> omega) | skip) : a := h
theorem z0h {a b : Prop} (kZ : b) (h : HidB b → a := by intro kZ; (repeat first | refine aI qUti0 ?_ | refine z05 qUti0 ?_ | refine z04 qUti0 ?_ | refine z0i qUti0 ?_ | refine z0d ?_); exact kZ.out) : a := h ⟨kZ⟩
theorem z27 {a b : Prop} (kZ : b) (h : HidB b → a := by intro kZ; refine sX ?_; refine z0h ?_; refine exI ?_; exact kZ.out) : a := h ⟨kZ⟩
theorem z5s {a b : Prop} (kZ : b) (h : HidB b → a := by intro kZ; refine sX0 ?_; refine z0h ?_; refine exI ?_; exact kZ.out) : a := h ⟨kZ⟩
theorem zsz {a b : Prop} (kZ : b) (h : HidB b → a := by intro kZ; refine sXT ?_; refine z0h ?_; refine exI ?_; exact kZ.out) : a := h ⟨kZ⟩
theorem zfy {a b : Prop} (kZ : b) (h : HidB b → a := by intro kZ; refine gX0 ?_; refine z0h ?_; refine exI ?_; exact kZ.out) : a := h ⟨kZ⟩
theorem z9b {a b : Prop} (kZ : b) (h : HidB b → a := by intro kZ; refine dX ?_; refine z0h ?_; refine exI ?_; exact kZ.out) : a := h ⟨kZ⟩
theorem gXUti_6 {a b : Prop} (kZ : b) (h : HidB b → a := by intro kZ; refine gX ?_; refine z0h ?_; refine exI ?_; exact kZ.out) : a := h ⟨kZ⟩
theorem z59 {a b : Prop} (kZ : b) (h : HidB b → a := by intro kZ; refine sX ?_; refine z0h ?_; exact kZ.out) : a := h ⟨kZ⟩
theorem zzg {a b : Prop} (kZ : b) (h : HidB b → a := by intro kZ; refine sXT ?_; refine z0h ?_; exact kZ.out) : a := h ⟨kZ⟩
theorem zt0 {a b : Prop} (kZ : b) (h : HidB b → a := by intro kZ; refine dX ?_; refine z0h ?_; exact kZ.out) : a := h ⟨kZ⟩
theorem zi4 {a b : Prop} (kZ : b) (h : HidB b → a := by intro kZ; refine gX ?_; refine z0h ?_; exact kZ.out) : a := h ⟨kZ⟩
theorem zjo {a : Prop} (h : a := by exact (And.intro (And.intro rfl rfl) (And.intro (z9e _) (And.intro (z9e _) (And.intro (And.intro rfl rfl) (And.intro (And.intro rfl rfl) trivial)))))) : a := h
theorem zjp {a : Prop} (h : a := by exact (And.intro (show (0 : Nat) < 3 by decide) (And.intro (z38 _) (And.intro (z38 _) (And.intro (show (1 : Nat) < 3 by decide) (And.intro (show (2 : Nat) < 3 by decide) trivial)))))) : a := h
theorem zzh {a : Prop} (h : a := by exact (And.intro (And.intro (by decide) z5t) (And.intro (And.intro (by decide) zt_low) (And.intro (And.intro (by decide) zt_low) trivial)))) : a := h
theorem zf6 {a : Prop} (h : a := by exact (And.intro (And.intro rfl rfl) (And.intro (z9e _) (And.intro (z9e _) (And.intro (And.intro rfl rfl) trivial))))) : a := h
theorem z7m {a : Prop} (h : a := by exact (And.intro (And.intro List.not_mem_nil (And.intro rfl (And.intro rfl z9f))) (And.intro (And.intro List.not_mem_nil (And.intro rfl (And.intro zl_len' zjc))) trivial))) : a := h
theorem zf7 {a : Prop} (h : a := by exact (And.intro (show (0 : Nat) < 2 by decide) (And.intro (z38 _) (And.intro (z38 _) (And.intro (show (1 : Nat) < 2 by decide) trivial))))) : a := h
theorem z3c {a : Prop} (h : a := by exact (And.intro (And.intro (by decide) z5t) (And.intro (And.intro (by decide) zhh) trivial))) : a := h
theorem z9r {a : Prop} (h : a := by exact (And.intro (And.intro List.not_mem_nil (And.intro rfl (And.intro rfl z9f))) (And.intro (And.intro List.not_mem_nil (And.intro rfl (And.intro rfl zl_to))) trivial))) : a := h
theorem zd3 {a : Prop} (h : a := by exact (And.intro (And.intro rfl rfl) (And.intro (z9e _) (And.intro (z9d _) (And.intro (And.intro rfl rfl) (And.intro (And.intro rfl rfl) trivial)))))) : a := h
theorem zjq {a : Prop} (h : a := by exact (And.intro (And.intro List.not_mem_nil (And.intro rfl (And.intro rfl z9f))) (And.intro (And.intro List.not_mem_nil (And.intro rfl (And.intro rfl zl_to))) (And.intro (And.intro List.not_mem_nil (And.intro rfl (And.intro zl_len' zjc))) trivial)))) : a := h
theorem z9c {a : Prop} (h : a := by exact (And.intro (show (0 : Nat) < 3 by decide) (And.intro (z38 _) (And.intro (z1e _) (And.intro (show (1 : Nat) < 3 by decide) (And.intro (show (2 : Nat) < 3 by decide) trivial)))))) : a := h
theorem z43 {a : Prop} (h : a := by exact (And.intro (And.intro (by decide) z5t) (And.intro (And.intro (by decide) zhh) (And.intro (And.intro (by decide) zhh) trivial)))) : a := h
theorem ze8 {a : Prop} (h : a := by exact (And.intro (And.intro List.not_mem_nil (And.intro rfl (And.intro rfl z9f))) (And.intro (And.intro List.not_mem_nil (And.intro rfl (And.intro zl_len' zjc))) (And.intro (And.intro List.not_mem_nil (And.intro rfl (And.intro rfl zl_to))) trivial)))) : a := h
theorem zi5 {a : Prop} (h : a := by exact (And.intro (And.intro List.not_mem_nil (And.intro rfl (And.intro rfl z9f))) (And.intro (And.intro List.not_mem_nil (And.intro rfl (And.intro rfl zl_to))) (And.intro (And.intro List.not_mem_nil (And.intro rfl (And.intro rfl zl_to))) trivial)))) : a := h
theorem zzi {a : Prop} (h : a := by exact (And.intro (And.intro rfl rfl) (And.intro (z9e _) (And.intro (z9e _) trivial)))) : a := h
theorem zc2 {a : Prop} (h : a := by exact (And.intro (And.intro List.not_mem_nil (And.intro rfl (And.intro rfl z9f))) trivial)) : a := h
theorem zzj {a : Prop} (h : a := by exact (And.intro (show (0 : Nat) < 1 by decide) (And.intro (z38 _) (And.intro (z38 _) trivial)))) : a := h
theorem z66 {a : Prop} (h : a := by exact (And.intro (And.intro rfl rfl) (And.intro (z9e _) (And.intro (z9d _) (And.intro (And.intro rfl rfl) trivial))))) : a := h
theorem z67 {a : Prop} (h : a := by exact (And.intro (show (0 : Nat) < 2 by decide) (And.intro (z38 _) (And.intro (z1e _) (And.intro (show (1 : Nat) < 2 by decide) trivial))))) : a := h
theorem zqf {a : Prop} (h : a := by exact (And.intro (And.intro rfl rfl) (And.intro (z9e _) (And.intro (z9d _) trivial)))) : a := h
theorem zqg {a : Prop} (h : a := by exact (And.intro (show (0 : Nat) < 1 by decide) (And.intro (z38 _) (And.intro (z1e _) trivial)))) : a := h
theorem zi6 {a : Prop} (h : a := by exact (And.intro (And.intro rfl rfl) (And.intro (z9d _) (And.intro (z9d _) (And.intro (And.intro rfl rfl) (And.intro (And.intro rfl rfl) trivial)))))) : a := h
theorem zi7 {a : Prop} (h : a := by exact (And.intro (show (0 : Nat) < 3 by decide) (And.intro (z1e _) (And.intro (z1e _) (And.intro (show (1 : Nat) < 3 by decide) (And.intro (show (2 : Nat) < 3 by decide) trivial)))))) : a := h
theorem ze9 {a : Prop} (h : a := by exact (And.intro (And.intro rfl rfl) (And.intro (z9d _) (And.intro (z9d _) (And.intro (And.intro rfl rfl) trivial))))) : a := h
theorem zea {a : Prop} (h : a := by exact (And.intro (show (0 : Nat) < 2 by decide) (And.intro (z1e _) (And.intro (z1e _) (And.intro (show (1 : Nat) < 2 by decide) trivial))))) : a := h
theorem zzk {a : Prop} (h : a := by exact (And.intro (And.intro rfl rfl) (And.intro (z9d _) (And.intro (z9d _) trivial)))) : a := h
theorem zzl {a : Prop} (h : a := by exact (And.intro (show (0 : Nat) < 1 by decide) (And.intro (z1e _) (And.intro (z1e _) trivial)))) : a := h

open Go.Aut
attribute [local irreducible] z0p z1v zl z02 z1f putB prodT canD jL jrep exR z30
noncomputable def gh3 : Ctx := { P := Tryd.prog, ty := ty, glob := gl, fs := [(50, .flat z93), (74, .data z94), (75, .data z8e), (76, .data zsl), (83, .data zfv), (77, .flat entS), (80, .data (zfu 78 cat2S 81 cat3S))] }
theorem z0l : gh3.OK := ⟨tyOK, ⟨⟨z06 Tryd.func50 (by kernel_rfl) rfl, z5x⟩, ⟨z06 Tryd.func74 (by kernel_rfl) rfl, z6p⟩, ⟨z06 Tryd.func75 (by kernel_rfl) rfl, z7k⟩, ⟨z06 Tryd.func76 (by kernel_rfl) rfl, zl8⟩, ⟨z06 Tryd.func83 (by kernel_rfl) rfl, ze1⟩, ⟨z06 Tryd.func77 (by kernel_rfl) rfl, ent_ok⟩, ⟨z06 Tryd.func80 (by kernel_rfl) rfl, ze0 (z06 Tryd.func78 (by kernel_rfl) rfl) cat2_ok (z06 Tryd.func81 (by kernel_rfl) rfl) cat3_ok (by decide)⟩, trivial⟩, mixed⟩
@[simp] theorem gh3_ty : gh3.ty = ty := rfl

theorem zt_to {ty : Nat → Ty} {H : Heap} {is : List Nat} {ρ : Nat → Nat} : allTo (Cell.to ty H is ρ) zl (List.replicate 257 (Cell.int .i64 0) ++ List.replicate 2 .nils) := by
  have h := @zl_to ty H is ρ
  unfold zl at h ⊢; exact h
theorem zt_to1 {ty : Nat → Ty} {H : Heap} {is : List Nat} {ρ : Nat → Nat} : allTo (Cell.to ty H is ρ) (List.replicate 257 (Cell.int .i64 0) ++ List.replicate 2 .nils) (List.replicate 257 (Cell.int .i64 0) ++ List.replicate 2 .nils) := by
  have h := @zl_to ty H is ρ
  unfold zl at h; exact h
theorem zt_low {n : Nat} : (Cont.cells (List.replicate 257 (Cell.int .i64 0) ++ List.replicate 2 .nils)).low n := by
  have h := @zhh n
  unfold zl at h; exact h
theorem z9d {ty : Nat → Ty} {H : Heap} {is : List Nat} {ρ : Nat → Nat} (d : Dfa) : SV.to ty H is ρ (.agg (dfaC d)) (.agg (dfaC d)) := And.intro (And.intro rfl rfl) (And.intro (And.intro rfl rfl) (And.intro (And.intro rfl rfl) trivial))
theorem z9e {ty : Nat → Ty} {H : Heap} {is : List Nat} {ρ : Nat → Nat} (t : Tab) : SV.to ty H is ρ (tabV t) (tabV t) := z2o ⟨rfl, rfl⟩ ⟨rfl, rfl⟩
theorem z9f {ty : Nat → Ty} {H : Heap} {is : List Nat} {ρ : Nat → Nat} : allTo (Cell.to ty H is ρ) [.nils, .nils, .nils] [.nils, .nils, .nils] := And.intro trivial (And.intro trivial (And.intro trivial trivial))
theorem z5t {n : Nat} : (Cont.cells [.nils, .nils, .nils]).low n := low_cons' trivial (low_cons' trivial (low_cons' trivial low_nil'))
def zfz : QSpec := fun vs K => ∃ d e : Dfa, vs = [dfaV d, dfaV e] ∧ (d.wf ∧ e.wf) ∧ K (resV (z42 d e))
set_option maxHeartbeats 8000000 in
set_option maxRecDepth 4000 in
theorem zeb : z2r Tryd.prog gl 23 zfz := by
 refine z2a (Γ := gh3) (N := 57) Tryd.func23 rfl rfl fun vs K h => ?_; obtain ⟨d, e, rfl, ⟨hd, he⟩, h⟩ := h; refine ⟨_, h, z19 _, by simp, fun w I => ?_⟩; refine seq_k fun _ hK1 => ?_; refine z00 z0l fun _ hK2 => ?_
 iterate 4 refine z27 ?_
 refine s_nil ?_; apply hK2; apply hK1; refine seq_k fun _ hK3 => ?_; refine seq_k fun _ hK4 => ?_; refine z00 z0l fun _ hK5 => ?_; refine z27 ?_; refine z59 ?_; refine ⟨d, rfl, hd, ?_⟩; refine z0h ?_
 first | refine exI ?_ | (intro cap1 hcap1; refine exI ?_)
 refine z27 ?_; refine z59 ?_; refine exB (fun hb3 => ?_) (fun hb3 => ?_)
 ·skip
  try simp only [dQ, if_true, if_false, reduceIte] at hb3
  iterate 3 refine sN ?_
  refine z27 ?_; refine s_nil ?_; apply hK5; apply hK4; refine z08 (b := _) rfl (fun _ => ?_) (fun h_t21 => ?_)
  rotate_left 1
  ·exfalso; simp at h_t21
  refine seq_k fun _ hK6 => ?_; refine z00 z0l fun _ hK7 => ?_; refine z27 ?_; refine z5s ?_; refine z27 ?_; refine s_nil ?_; apply hK7; apply hK6
  have hno : ¬ (z0u d = true ∧ z0u e = true) := by intro hh; simp_all
  rw [z42, if_neg hno]; refine z0e (z0j z0l (fun _ _ h => h) (z19 _) [] [.cell 4 30, .tmp 5] rfl ?_)
  repeat first | refine aI (by first | exact trivial | rfl | exact ⟨rfl, rfl⟩ | decide) ?_ | refine z05 (by first | rfl | decide) ?_ | refine z04 (by first | rfl | decide) ?_
  all_goals exact z4z
 ·skip
  try simp only [dQ, if_true, if_false, reduceIte] at hb3
  refine zsz ?_; refine zzg ?_; refine ⟨e, rfl, he, ?_⟩; refine z0h ?_
  first | refine exI ?_ | (intro cap5 hcap5; refine exI ?_)
  refine zsz ?_; refine z27 ?_; refine s_nil ?_; apply hK5; apply hK4; refine z08 (b := _) rfl (fun h_t21 => ?_) (fun h_t21 => ?_)
  ·try simp only [dQ, if_true, if_false, reduceIte] at h_t21
   refine seq_k fun _ hK8 => ?_; refine z00 z0l fun _ hK9 => ?_; refine z27 ?_; refine z5s ?_; refine z27 ?_; refine s_nil ?_; apply hK9; apply hK8
   have hno : ¬ (z0u d = true ∧ z0u e = true) := by intro hh; simp_all
   rw [z42, if_neg hno]; refine z0e (z0j z0l (fun _ _ h => h) (z19 _) [] [.cell 4 30, .tmp 5] rfl ?_)
   repeat first | refine aI (by first | exact trivial | rfl | exact ⟨rfl, rfl⟩ | decide) ?_ | refine z05 (by first | rfl | decide) ?_ | refine z04 (by first | rfl | decide) ?_
   all_goals exact z4z
  ·try simp only [dQ, if_true, if_false, reduceIte] at h_t21
   refine z0c ?_; apply hK3; refine seq_k fun _ hK10 => ?_
   have hvd : z0u d = true := by simp_all
   have hve : z0u e = true := by simp_all
   have hgd := (z2x hd).1 hvd
   have hge := (z2x he).1 hve
   have gd := z49 hgd
   have ge := z49 hge
   have hx := z0z gd.1
   have hy := z0z ge.1
   have hcc : ∀ w, Bytes w → _ := fun w hw => zze hgd hge hw
   obtain ⟨x, hxe⟩ : ∃ x, x = (tabD (canD (langD d))) := ⟨_, rfl⟩; obtain ⟨y, hye⟩ : ∃ y, y = (tabD (canD (langD e))) := ⟨_, rfl⟩; rw [← hxe] at hx hcc; rw [← hye] at hy hcc
   have hex := cat_exin hx hy
   refine ziw z0l ?_; refine z1j 2 #[true, true, true, true, true, true, true, true, true, true, false, false] [(4, .c (.ptr 0 0)), (26, tabV x), (30, tabV y), (6, .c (.ptr 1 0)), (7, .c (.ptr 2 0))] [(0, .own 30 (.cells [.nils, .nils, .nils]) 3), (1, .own 87 (.cells (List.replicate 257 (.int .i64 0) ++ List.replicate 2 .nils)) (Cont.len (.cells (List.replicate 257 (.int .i64 0) ++ List.replicate 2 .nils)))), (2, .own 87 (.cells (List.replicate 257 (.int .i64 0) ++ List.replicate 2 .nils)) (Cont.len (.cells (List.replicate 257 (.int .i64 0) ++ List.replicate 2 .nils))))] 3 ?_ fun nd_1_2_3_5_6_7_8_9 => ?_
   ·skip
    refine z12 z0l (g := 0) (by kernel_rfl) [(10, false), (11, false)] (by kernel_rfl) fun _ hK12 => ?_
    iterate 2 refine zfy ?_
    refine d_nil ?_; apply hK12; refine z0s (by kernel_rfl) ?_; apply hK10; refine seq_k fun _ hK13 => ?_; refine leW [1, 2] id [(4, .c (.ptr 0 0)), (6, .c (dpT x)), (7, .c (dpT y))] [(0, .own 30 (.cells [.nils, .nils, .nils]) 3)] 1 [0] ?_ ?_ ?_ ?_ ?_
    ·exact z4z
    ·exact z4z
    ·exact z4z
    ·exact z4z
    refine z00 z0l fun _ hK14 => ?_; refine z59 ?_; refine exA (tabV x) (SV.as_refl _) ?_; refine z59 ?_; refine exA (tabV y) (SV.as_refl _) ?_; refine z59 ?_; refine aI (z0t _) ?_; refine z13 _ ?_; refine aI (z0t _) ?_; refine z13 _ ?_; refine ⟨x, y, rfl, ⟨hx, hy⟩, ?_⟩
    simp only [z23]
    refine z0h ?_
    first | refine exI ?_ | (intro cap2 hcap2; refine exI ?_)
    iterate 4 refine z27 ?_
    refine z5s ?_; refine z27 ?_; refine s_nil ?_; apply hK14; apply hK13; refine seq_k fun _ hK15 => ?_; refine leW [1] id [(4, .c (.ptr 0 0)), (6, .c (dpT x)), (7, .c (dpT y)), (8, .c (.dp (.ints .i64 (jL x y 256)) 0)), (9, .c (.ds (jrep (cN x) (cN y)).length (.ints .i64 (natsI (jrep (cN x) (cN y))))))] [(0, .own 30 (.cells [.nils, .nils, .nils]) 3)] 1 [0] ?_ ?_ ?_ ?_ ?_
    ·exact z4z
    ·exact z4z
    ·exact z4z
    ·exact z4z
    refine z00 z0l fun _ hK16 => ?_
    iterate 2 refine z27 ?_
    refine z5s ?_; refine s_nil ?_; apply hK16; apply hK15; refine seq_k fun _ hK17 => ?_; refine leW [1] id [(4, .c (.ptr 0 0)), (6, .c (dpT x)), (7, .c (dpT y)), (8, .c (.dp (.ints .i64 (jL x y 256)) 0)), (9, .c (.ds (jrep (cN x) (cN y)).length (.ints .i64 (natsI (jrep (cN x) (cN y)))))), (10, .c (cloE x))] [(0, .own 30 (.cells [.nils, .nils, .nils]) 3)] 1 [0] ?_ ?_ ?_ ?_ ?_
    ·exact z4z
    ·exact z4z
    ·exact z4z
    ·exact z4z
    refine z00 z0l fun _ hK18 => ?_
    iterate 2 refine z27 ?_
    refine s_nil ?_; apply hK18; apply hK17; refine seq_k fun _ hK19 => ?_; refine ziw z0l ?_; refine z12 z0l (g := 8) (by kernel_rfl) [(0, true), (1, true), (2, true), (3, true), (5, true), (6, true)] (by kernel_rfl) fun _ hK21 => ?_; refine zt0 ?_; refine exA (.agg (.ints .i64 (jL x y 256))) (SV.as_refl _) ?_
    iterate 2 refine z9b ?_
    refine zt0 ?_; refine exA (stV (0, 0, 0)) (as_eq rfl) ?_
    iterate 2 refine z9b ?_
    refine d_nil ?_; apply hK21; refine z0w [4, 11] (by kernel_rfl) (by decide) (List.forall_mem_cons.2 ⟨?_, List.forall_mem_cons.2 ⟨?_, fun _ h => by cases h⟩⟩)
    ·skip
     refine z03 z0l ?_; refine z0h ?_; refine aI (nc_st _) ?_; refine ⟨x, (0, 0, 0), rfl, ⟨hx, hx.1.npos⟩, ?_⟩; refine z0h ?_
     first | refine exA (stV (cat0 x)) (SV.as_refl _) ?_ | (intro cap4 hcap4; refine exA (stV (cat0 x)) (SV.as_refl _) ?_)
     refine z0w [7, 11] (by kernel_rfl) (by decide) (List.forall_mem_cons.2 ⟨?_, List.forall_mem_cons.2 ⟨?_, fun _ h => by cases h⟩⟩)
     ·skip
      refine z03 z0l ?_; refine z0h ?_; refine aI (nc_st _) ?_; refine aI (nc_4 _ _) ?_; refine aI (nc_1 _) ?_; refine ⟨catG x y, catA y, catI x, jL x y 256, jrep (cN x) (cN y), cat0 x, [cloE x, dpT x, dpT y], [dpT y], 4096, rfl, hex, ?_⟩
      have hrc : (exR (catG x y) (catA y) (jL x y 256) (jrep (cN x) (cN y)) (cat0 x) 4096).1.cell.length = 256 := zlh (z0k x y 256)
      have hry : (exR (catG x y) (catA y) (jL x y 256) (jrep (cN x) (cN y)) (cat0 x) 4096).2 = true → (exR (catG x y) (catA y) (jL x y 256) (jrep (cN x) (cN y)) (cat0 x) 4096).1.fit ∧ _ := fun hh => (zb7 (by decide) (fun s c hc => zd2 s hc) hcc (zf4 hh)).imp_right And.right
      have hrn : (exR (catG x y) (catA y) (jL x y 256) (jrep (cN x) (cN y)) (cat0 x) 4096).2 = false → _ := fun hh => ex_no hh
      have hrs : (exR (catG x y) (catA y) (jL x y 256) (jrep (cN x) (cN y)) (cat0 x) 4096).2 = true → _ := fun hh => zf4 hh
      obtain ⟨r, hr⟩ : ∃ r, r = (exR (catG x y) (catA y) (jL x y 256) (jrep (cN x) (cN y)) (cat0 x) 4096) := ⟨_, rfl⟩; rw [← hr] at hrc hry hrn hrs ⊢; refine z0h ?_
      first | refine exI ?_ | (intro cap7 hcap7; refine exI ?_)
      refine z12 z0l (g := 0) (by kernel_rfl) [(8, true), (9, true), (10, true), (11, false), (12, false), (13, true)] (by kernel_rfl) fun _ hK22 => ?_
      iterate 3 refine z9b ?_
      refine gXUti_6 ?_; refine zfy ?_; refine z9b ?_; refine d_nil ?_; apply hK22; refine z0s (by kernel_rfl) ?_; apply hK19; refine seq_k fun _ hK23 => ?_; refine seq_k fun _ hK24 => ?_; refine z00 z0l fun _ hK25 => ?_
      iterate 2 refine z27 ?_
      refine s_nil ?_; apply hK25; apply hK24; refine z08 (b := _) rfl (fun h_t51 => ?_) (fun h_t51 => ?_)
      ·try simp only [dQ, if_true, if_false, reduceIte] at h_t51
       refine seq_k fun _ hK26 => ?_; refine z00 z0l fun _ hK27 => ?_; refine z27 ?_; refine z5s ?_; refine z27 ?_; refine s_nil ?_; apply hK27; apply hK26
       have hyes : z0u d = true ∧ z0u e = true := ⟨hvd, hve⟩
       rw [z42, if_pos hyes, ← hxe, ← hye, if_pos (hrn (by simpa using h_t51))]; refine z0e (z0j z0l (fun _ _ h => h) (z19 _) [] [.cell 4 30, .tmp 5] rfl ?_)
       repeat first | refine aI (by first | exact trivial | rfl | exact ⟨rfl, rfl⟩ | decide) ?_ | refine z05 (by first | rfl | decide) ?_ | refine z04 (by first | rfl | decide) ?_
       all_goals exact z4z
      ·try simp only [dQ, if_true, if_false, reduceIte] at h_t51
       refine z0c ?_; apply hK23; refine seq_k fun _ hK28 => ?_
       have hr2 : r.2 = true := by simpa using h_t51
       obtain ⟨hrf, hrcan⟩ := hry hr2; refine z00 z0l fun _ hK29 => ?_; refine z59 ?_; refine exA (tabV r.1) (SV.as_refl _) ?_; refine z59 ?_; refine aI (z0t _) ?_; refine z13 _ ?_; refine ⟨r.1, rfl, hrf, ?_⟩; rw [hrcan]
       simp only [z23]
       refine z0h ?_
       first | refine exI ?_ | (intro cap1 hcap1; refine exI ?_)
       iterate 2 refine z27 ?_
       refine z5s ?_; refine z27 ?_; refine s_nil ?_; apply hK29; apply hK28
       have hyes : z0u d = true ∧ z0u e = true := ⟨hvd, hve⟩
       rw [z42, if_pos hyes, ← hxe, ← hye, if_neg (hrs hr2)]; refine z0e (z0j z0l (fun _ _ h => h) (z19 _) [] [.cell 4 30, .tmp 5] rfl ?_)
       repeat first | refine aI (by first | exact trivial | rfl | exact ⟨rfl, rfl⟩ | decide) ?_ | refine z05 (by first | rfl | decide) ?_ | refine z04 (by first | rfl | decide) ?_
       all_goals exact z4z
     ·skip
      refine z03 z0l ?_; refine z0h ?_; refine exI ?_; refine z12 z0l (g := 0) (by kernel_rfl) [(7, false), (8, true), (9, true), (10, true), (12, false), (13, true)] (by kernel_rfl) fun _ hK30 => ?_; refine zi4 ?_; refine aI (nc_st _) ?_; refine aI (nc_4 _ _) ?_; refine aI (nc_1 _) ?_; refine ⟨catG x y, catA y, catI x, jL x y 256, jrep (cN x) (cN y), cat0 x, [cloE x, dpT x, dpT y], [dpT y], 4096, rfl, hex, ?_⟩
      have hrc : (exR (catG x y) (catA y) (jL x y 256) (jrep (cN x) (cN y)) (cat0 x) 4096).1.cell.length = 256 := zlh (z0k x y 256)
      have hry : (exR (catG x y) (catA y) (jL x y 256) (jrep (cN x) (cN y)) (cat0 x) 4096).2 = true → (exR (catG x y) (catA y) (jL x y 256) (jrep (cN x) (cN y)) (cat0 x) 4096).1.fit ∧ _ := fun hh => (zb7 (by decide) (fun s c hc => zd2 s hc) hcc (zf4 hh)).imp_right And.right
      have hrn : (exR (catG x y) (catA y) (jL x y 256) (jrep (cN x) (cN y)) (cat0 x) 4096).2 = false → _ := fun hh => ex_no hh
      have hrs : (exR (catG x y) (catA y) (jL x y 256) (jrep (cN x) (cN y)) (cat0 x) 4096).2 = true → _ := fun hh => zf4 hh
      obtain ⟨r, hr⟩ : ∃ r, r = (exR (catG x y) (catA y) (jL x y 256) (jrep (cN x) (cN y)) (cat0 x) 4096) := ⟨_, rfl⟩; rw [← hr] at hrc hry hrn hrs ⊢; refine z0h ?_
      first | refine exI ?_ | (intro cap7 hcap7; refine exI ?_)
      iterate 3 refine z9b ?_
      refine zfy ?_; refine z9b ?_; refine d_nil ?_; apply hK30; refine z0s (by kernel_rfl) ?_; apply hK19; refine seq_k fun _ hK31 => ?_; refine seq_k fun _ hK32 => ?_; refine z00 z0l fun _ hK33 => ?_
      iterate 2 refine z27 ?_
      refine s_nil ?_; apply hK33; apply hK32; refine z08 (b := _) rfl (fun h_t51 => ?_) (fun h_t51 => ?_)
      ·try simp only [dQ, if_true, if_false, reduceIte] at h_t51
       refine seq_k fun _ hK34 => ?_; refine z00 z0l fun _ hK35 => ?_; refine z27 ?_; refine z5s ?_; refine z27 ?_; refine s_nil ?_; apply hK35; apply hK34
       have hyes : z0u d = true ∧ z0u e = true := ⟨hvd, hve⟩
       rw [z42, if_pos hyes, ← hxe, ← hye, if_pos (hrn (by simpa using h_t51))]; refine z0e (z0j z0l (fun _ _ h => h) (z19 _) [] [.cell 4 30, .tmp 5] rfl ?_)
       repeat first | refine aI (by first | exact trivial | rfl | exact ⟨rfl, rfl⟩ | decide) ?_ | refine z05 (by first | rfl | decide) ?_ | refine z04 (by first | rfl | decide) ?_
       all_goals exact z4z
      ·try simp only [dQ, if_true, if_false, reduceIte] at h_t51
       refine z0c ?_; apply hK31; refine seq_k fun _ hK36 => ?_
       have hr2 : r.2 = true := by simpa using h_t51
       obtain ⟨hrf, hrcan⟩ := hry hr2; refine z00 z0l fun _ hK37 => ?_; refine z59 ?_; refine exA (tabV r.1) (SV.as_refl _) ?_; refine z59 ?_; refine aI (z0t _) ?_; refine z13 _ ?_; refine ⟨r.1, rfl, hrf, ?_⟩; rw [hrcan]
       simp only [z23]
       refine z0h ?_
       first | refine exI ?_ | (intro cap1 hcap1; refine exI ?_)
       iterate 2 refine z27 ?_
       refine z5s ?_; refine z27 ?_; refine s_nil ?_; apply hK37; apply hK36
       have hyes : z0u d = true ∧ z0u e = true := ⟨hvd, hve⟩
       rw [z42, if_pos hyes, ← hxe, ← hye, if_neg (hrs hr2)]; refine z0e (z0j z0l (fun _ _ h => h) (z19 _) [] [.cell 4 30, .tmp 5] rfl ?_)
       repeat first | refine aI (by first | exact trivial | rfl | exact ⟨rfl, rfl⟩ | decide) ?_ | refine z05 (by first | rfl | decide) ?_ | refine z04 (by first | rfl | decide) ?_
       all_goals exact z4z
    ·skip
     refine z03 z0l ?_; refine z0h ?_; refine exI ?_; refine z12 z0l (g := 0) (by kernel_rfl) [(4, false), (7, false), (8, true), (9, true), (10, true), (12, false), (13, true)] (by kernel_rfl) fun _ hK38 => ?_; refine zi4 ?_; refine aI (nc_st _) ?_; refine ⟨x, (0, 0, 0), rfl, ⟨hx, hx.1.npos⟩, ?_⟩; refine z0h ?_
     first | refine exA (stV (cat0 x)) (SV.as_refl _) ?_ | (intro cap4 hcap4; refine exA (stV (cat0 x)) (SV.as_refl _) ?_)
     refine zi4 ?_; refine aI (nc_st _) ?_; refine aI (nc_4 _ _) ?_; refine aI (nc_1 _) ?_; refine ⟨catG x y, catA y, catI x, jL x y 256, jrep (cN x) (cN y), cat0 x, [cloE x, dpT x, dpT y], [dpT y], 4096, rfl, hex, ?_⟩
     have hrc : (exR (catG x y) (catA y) (jL x y 256) (jrep (cN x) (cN y)) (cat0 x) 4096).1.cell.length = 256 := zlh (z0k x y 256)
     have hry : (exR (catG x y) (catA y) (jL x y 256) (jrep (cN x) (cN y)) (cat0 x) 4096).2 = true → (exR (catG x y) (catA y) (jL x y 256) (jrep (cN x) (cN y)) (cat0 x) 4096).1.fit ∧ _ := fun hh => (zb7 (by decide) (fun s c hc => zd2 s hc) hcc (zf4 hh)).imp_right And.right
     have hrn : (exR (catG x y) (catA y) (jL x y 256) (jrep (cN x) (cN y)) (cat0 x) 4096).2 = false → _ := fun hh => ex_no hh
     have hrs : (exR (catG x y) (catA y) (jL x y 256) (jrep (cN x) (cN y)) (cat0 x) 4096).2 = true → _ := fun hh => zf4 hh
     obtain ⟨r, hr⟩ : ∃ r, r = (exR (catG x y) (catA y) (jL x y 256) (jrep (cN x) (cN y)) (cat0 x) 4096) := ⟨_, rfl⟩; rw [← hr] at hrc hry hrn hrs ⊢; refine z0h ?_
     first | refine exI ?_ | (intro cap7 hcap7; refine exI ?_)
     iterate 3 refine z9b ?_
     refine zfy ?_; refine z9b ?_; refine d_nil ?_; apply hK38; refine z0s (by kernel_rfl) ?_; apply hK19; refine seq_k fun _ hK39 => ?_; refine seq_k fun _ hK40 => ?_; refine z00 z0l fun _ hK41 => ?_
     iterate 2 refine z27 ?_
     refine s_nil ?_; apply hK41; apply hK40; refine z08 (b := _) rfl (fun h_t51 => ?_) (fun h_t51 => ?_)
     ·try simp only [dQ, if_true, if_false, reduceIte] at h_t51
      refine seq_k fun _ hK42 => ?_; refine z00 z0l fun _ hK43 => ?_; refine z27 ?_; refine z5s ?_; refine z27 ?_; refine s_nil ?_; apply hK43; apply hK42
      have hyes : z0u d = true ∧ z0u e = true := ⟨hvd, hve⟩
      rw [z42, if_pos hyes, ← hxe, ← hye, if_pos (hrn (by simpa using h_t51))]; refine z0e (z0j z0l (fun _ _ h => h) (z19 _) [] [.cell 4 30, .tmp 5] rfl ?_)
      repeat first | refine aI (by first | exact trivial | rfl | exact ⟨rfl, rfl⟩ | decide) ?_ | refine z05 (by first | rfl | decide) ?_ | refine z04 (by first | rfl | decide) ?_
      all_goals exact z4z
     ·try simp only [dQ, if_true, if_false, reduceIte] at h_t51
      refine z0c ?_; apply hK39; refine seq_k fun _ hK44 => ?_
      have hr2 : r.2 = true := by simpa using h_t51
      obtain ⟨hrf, hrcan⟩ := hry hr2; refine z00 z0l fun _ hK45 => ?_; refine z59 ?_; refine exA (tabV r.1) (SV.as_refl _) ?_; refine z59 ?_; refine aI (z0t _) ?_; refine z13 _ ?_; refine ⟨r.1, rfl, hrf, ?_⟩; rw [hrcan]
      simp only [z23]
      refine z0h ?_
      first | refine exI ?_ | (intro cap1 hcap1; refine exI ?_)
      iterate 2 refine z27 ?_
      refine z5s ?_; refine z27 ?_; refine s_nil ?_; apply hK45; apply hK44
      have hyes : z0u d = true ∧ z0u e = true := ⟨hvd, hve⟩
      rw [z42, if_pos hyes, ← hxe, ← hye, if_neg (hrs hr2)]; refine z0e (z0j z0l (fun _ _ h => h) (z19 _) [] [.cell 4 30, .tmp 5] rfl ?_)
      repeat first | refine aI (by first | exact trivial | rfl | exact ⟨rfl, rfl⟩ | decide) ?_ | refine z05 (by first | rfl | decide) ?_ | refine z04 (by first | rfl | decide) ?_
      all_goals exact z4z
   refine z1j 3 #[true, true, true, true, true, true, true, true, true, false, false, false] [(4, .c (.ptr 0 0)), (26, tabV x), (30, tabV y), (6, .c (.ptr 1 0))] [(0, .own 30 (.cells [.nils, .nils, .nils]) 3), (1, .own 87 (.cells zl) 259)] 2 ?_ fun nd_1_2_3_5_6_7_8 => ?_
   ·skip
    refine z0w [9] (by kernel_rfl) (by decide) (List.forall_mem_cons.2 ⟨?_, fun _ h => by cases h⟩)
    ·skip
     refine z03 z0l ?_; refine z0h ?_; refine exI ?_; refine bleW [] (fun i => i) [0, 1, 2] nd_1_2_3_5_6_7_8_9 (by kernel_rfl) ?_ ?_ ?_ ?_
     ·exact zjo
     ·exact (And.intro (And.intro List.not_mem_nil (And.intro rfl (And.intro rfl z9f))) (And.intro (And.intro List.not_mem_nil (And.intro rfl (And.intro zl_len'.symm zt_to))) (And.intro (And.intro List.not_mem_nil (And.intro rfl (And.intro rfl zt_to1))) trivial)))
     ·exact zjp
     ·exact zzh
   refine z1j 3 #[true, true, true, true, true, true, true, true, false, true, false, false] [(4, .c (.ptr 0 0)), (26, tabV x), (30, tabV y), (7, .c (.ptr 1 0))] [(0, .own 30 (.cells [.nils, .nils, .nils]) 3), (1, .own 87 (.cells zl) 259)] 2 ?_ fun nd_1_2_3_5_6_7_9 => ?_
   ·skip
    refine z0w [8] (by kernel_rfl) (by decide) (List.forall_mem_cons.2 ⟨?_, fun _ h => by cases h⟩)
    ·skip
     refine z03 z0l ?_; refine z0h ?_; refine exI ?_; refine bleW [] (fun i => if i = 1 then 2 else if i = 2 then 1 else i) [0, 2, 1] nd_1_2_3_5_6_7_8_9 (by kernel_rfl) ?_ ?_ ?_ ?_
     ·exact zjo
     ·exact (And.intro (And.intro List.not_mem_nil (And.intro rfl (And.intro rfl z9f))) (And.intro (And.intro List.not_mem_nil (And.intro rfl (And.intro rfl zt_to1))) (And.intro (And.intro List.not_mem_nil (And.intro rfl (And.intro zl_len'.symm zt_to))) trivial)))
     ·exact zjp
     ·exact zzh
   refine z1j 3 #[true, true, true, true, true, true, true, false, true, true, false, false] [(4, .c (.ptr 0 0)), (26, tabV x), (29, dfaV (canD (langD e))), (6, .c (.ptr 1 0)), (7, .c (.ptr 2 0))] [(0, .own 30 (.cells [.nils, .nils, .nils]) 3), (1, .own 87 (.cells zl) 259), (2, .own 87 (.cells zl) 259)] 3 ?_ fun nd_1_2_3_5_6_8_9 => ?_
   ·skip
    refine z0w [7] (by kernel_rfl) (by decide) (List.forall_mem_cons.2 ⟨?_, fun _ h => by cases h⟩)
    ·skip
     refine z03 z0l ?_; refine z0h ?_; refine ⟨canD (langD e), rfl, ge.1, ?_⟩; rw [← hye]; refine z0h ?_
     first | refine exI ?_ | (intro cap7 hcap7; refine exI ?_)
     refine bleW [] (fun i => i) [0, 1, 2] nd_1_2_3_5_6_7_8_9 (by kernel_rfl) ?_ ?_ ?_ ?_
     ·exact zjo
     ·exact (And.intro (And.intro List.not_mem_nil (And.intro rfl (And.intro rfl z9f))) (And.intro (And.intro List.not_mem_nil (And.intro rfl (And.intro zl_len'.symm zt_to))) (And.intro (And.intro List.not_mem_nil (And.intro rfl (And.intro zl_len'.symm zt_to))) trivial)))
     ·exact zjp
     ·exact zzh
   refine z1j 4 #[true, true, true, true, true, true, true, true, false, false, false, false] [(4, .c (.ptr 0 0)), (26, tabV x), (30, tabV y)] [(0, .own 30 (.cells [.nils, .nils, .nils]) 3)] 1 ?_ fun nd_1_2_3_5_6_7 => ?_
   ·skip
    refine z0w [8, 9] (by kernel_rfl) (by decide) (List.forall_mem_cons.2 ⟨?_, List.forall_mem_cons.2 ⟨?_, fun _ h => by cases h⟩⟩)
    ·skip
     refine z03 z0l ?_; refine z0h ?_; refine exI ?_; refine bleW [] (fun i => i) [0, 1] nd_1_2_3_5_6_7_8 (by kernel_rfl) ?_ ?_ ?_ ?_
     ·exact zf6
     ·exact z7m
     ·exact zf7
     ·exact z3c
    ·skip
     refine z03 z0l ?_; refine z0h ?_; refine exI ?_; refine bleW [] (fun i => i) [0, 1] nd_1_2_3_5_6_7_9 (by kernel_rfl) ?_ ?_ ?_ ?_
     ·exact zf6
     ·exact z7m
     ·exact zf7
     ·exact z3c
   refine z1j 4 #[true, true, true, true, true, true, true, false, true, false, false, false] [(4, .c (.ptr 0 0)), (26, tabV x), (29, dfaV (canD (langD e))), (6, .c (.ptr 1 0))] [(0, .own 30 (.cells [.nils, .nils, .nils]) 3), (1, .own 87 (.cells zl) 259)] 2 ?_ fun nd_1_2_3_5_6_8 => ?_
   ·skip
    refine z0w [7, 9] (by kernel_rfl) (by decide) (List.forall_mem_cons.2 ⟨?_, List.forall_mem_cons.2 ⟨?_, fun _ h => by cases h⟩⟩)
    ·skip
     refine z03 z0l ?_; refine z0h ?_; refine ⟨canD (langD e), rfl, ge.1, ?_⟩; rw [← hye]; refine z0h ?_
     first | refine exI ?_ | (intro cap7 hcap7; refine exI ?_)
     refine bleW [] (fun i => i) [0, 1] nd_1_2_3_5_6_7_8 (by kernel_rfl) ?_ ?_ ?_ ?_
     ·exact zf6
     ·exact z9r
     ·exact zf7
     ·exact z3c
    ·skip
     refine z03 z0l ?_; refine z0h ?_; refine exI ?_; refine bleW [] (fun i => i) [0, 1, 2] nd_1_2_3_5_6_8_9 (by kernel_rfl) ?_ ?_ ?_ ?_
     ·exact zd3
     ·exact zjq
     ·exact z9c
     ·exact z43
   refine z1j 4 #[true, true, true, true, true, true, true, false, false, true, false, false] [(4, .c (.ptr 0 0)), (26, tabV x), (29, dfaV (canD (langD e))), (7, .c (.ptr 1 0))] [(0, .own 30 (.cells [.nils, .nils, .nils]) 3), (1, .own 87 (.cells zl) 259)] 2 ?_ fun nd_1_2_3_5_6_9 => ?_
   ·skip
    refine z0w [7, 8] (by kernel_rfl) (by decide) (List.forall_mem_cons.2 ⟨?_, List.forall_mem_cons.2 ⟨?_, fun _ h => by cases h⟩⟩)
    ·skip
     refine z03 z0l ?_; refine z0h ?_; refine ⟨canD (langD e), rfl, ge.1, ?_⟩; rw [← hye]; refine z0h ?_
     first | refine exI ?_ | (intro cap7 hcap7; refine exI ?_)
     refine bleW [] (fun i => i) [0, 1] nd_1_2_3_5_6_7_9 (by kernel_rfl) ?_ ?_ ?_ ?_
     ·exact zf6
     ·exact z9r
     ·exact zf7
     ·exact z3c
    ·skip
     refine z03 z0l ?_; refine z0h ?_; refine exI ?_; refine bleW [] (fun i => if i = 1 then 2 else if i = 2 then 1 else i) [0, 2, 1] nd_1_2_3_5_6_8_9 (by kernel_rfl) ?_ ?_ ?_ ?_
     ·exact zd3
     ·exact ze8
     ·exact z9c
     ·exact z43
   refine z1j 4 #[true, true, true, true, true, true, false, false, true, true, false, false] [(4, .c (.ptr 0 0)), (26, tabV x), (28, tabV (tabD e)), (6, .c (.ptr 1 0)), (7, .c (.ptr 2 0))] [(0, .own 30 (.cells [.nils, .nils, .nils]) 3), (1, .own 87 (.cells zl) 259), (2, .own 87 (.cells zl) 259)] 3 ?_ fun nd_1_2_3_5_8_9 => ?_
   ·skip
    refine z0w [6] (by kernel_rfl) (by decide) (List.forall_mem_cons.2 ⟨?_, fun _ h => by cases h⟩)
    ·skip
     refine z03 z0l ?_; refine z0h ?_; refine aI (z0t _) ?_; refine z13 _ ?_; refine ⟨tabD e, rfl, z0z hge, ?_⟩; rw [z5r]
     simp only [z23]
     refine z0h ?_
     first | refine exI ?_ | (intro cap6 hcap6; refine exI ?_)
     refine bleW [] (fun i => i) [0, 1, 2] nd_1_2_3_5_6_8_9 (by kernel_rfl) ?_ ?_ ?_ ?_
     ·exact zd3
     ·exact zi5
     ·exact z9c
     ·exact z43
   refine z1j 5 #[true, true, true, true, true, true, true, false, false, false, false, false] [(4, .c (.ptr 0 0)), (26, tabV x), (29, dfaV (canD (langD e)))] [(0, .own 30 (.cells [.nils, .nils, .nils]) 3)] 1 ?_ fun nd_1_2_3_5_6 => ?_
   ·skip
    refine z0w [7, 8, 9] (by kernel_rfl) (by decide) (List.forall_mem_cons.2 ⟨?_, List.forall_mem_cons.2 ⟨?_, List.forall_mem_cons.2 ⟨?_, fun _ h => by cases h⟩⟩⟩)
    ·skip
     refine z03 z0l ?_; refine z0h ?_; refine ⟨canD (langD e), rfl, ge.1, ?_⟩; rw [← hye]; refine z0h ?_
     first | refine exI ?_ | (intro cap7 hcap7; refine exI ?_)
     refine bleW [] (fun i => i) [0] nd_1_2_3_5_6_7 (by kernel_rfl) ?_ ?_ ?_ ?_
     ·exact zzi
     ·exact zc2
     ·exact zzj
     ·exact (And.intro (And.intro (by decide) z5t) trivial)
    ·skip
     refine z03 z0l ?_; refine z0h ?_; refine exI ?_; refine bleW [] (fun i => i) [0, 1] nd_1_2_3_5_6_8 (by kernel_rfl) ?_ ?_ ?_ ?_
     ·exact z66
     ·exact z7m
     ·exact z67
     ·exact z3c
    ·skip
     refine z03 z0l ?_; refine z0h ?_; refine exI ?_; refine bleW [] (fun i => i) [0, 1] nd_1_2_3_5_6_9 (by kernel_rfl) ?_ ?_ ?_ ?_
     ·exact z66
     ·exact z7m
     ·exact z67
     ·exact z3c
   refine z1j 5 #[true, true, true, true, true, true, false, false, true, false, false, false] [(4, .c (.ptr 0 0)), (26, tabV x), (28, tabV (tabD e)), (6, .c (.ptr 1 0))] [(0, .own 30 (.cells [.nils, .nils, .nils]) 3), (1, .own 87 (.cells zl) 259)] 2 ?_ fun nd_1_2_3_5_8 => ?_
   ·skip
    refine z0w [6, 9] (by kernel_rfl) (by decide) (List.forall_mem_cons.2 ⟨?_, List.forall_mem_cons.2 ⟨?_, fun _ h => by cases h⟩⟩)
    ·skip
     refine z03 z0l ?_; refine z0h ?_; refine aI (z0t _) ?_; refine z13 _ ?_; refine ⟨tabD e, rfl, z0z hge, ?_⟩; rw [z5r]
     simp only [z23]
     refine z0h ?_
     first | refine exI ?_ | (intro cap6 hcap6; refine exI ?_)
     refine bleW [] (fun i => i) [0, 1] nd_1_2_3_5_6_8 (by kernel_rfl) ?_ ?_ ?_ ?_
     ·exact z66
     ·exact z9r
     ·exact z67
     ·exact z3c
    ·skip
     refine z03 z0l ?_; refine z0h ?_; refine exI ?_; refine bleW [] (fun i => i) [0, 1, 2] nd_1_2_3_5_8_9 (by kernel_rfl) ?_ ?_ ?_ ?_
     ·exact zjo
     ·exact zjq
     ·exact zjp
     ·exact z43
   refine z1j 5 #[true, true, true, true, true, true, false, false, false, true, false, false] [(4, .c (.ptr 0 0)), (26, tabV x), (28, tabV (tabD e)), (7, .c (.ptr 1 0))] [(0, .own 30 (.cells [.nils, .nils, .nils]) 3), (1, .own 87 (.cells zl) 259)] 2 ?_ fun nd_1_2_3_5_9 => ?_
   ·skip
    refine z0w [6, 8] (by kernel_rfl) (by decide) (List.forall_mem_cons.2 ⟨?_, List.forall_mem_cons.2 ⟨?_, fun _ h => by cases h⟩⟩)
    ·skip
     refine z03 z0l ?_; refine z0h ?_; refine aI (z0t _) ?_; refine z13 _ ?_; refine ⟨tabD e, rfl, z0z hge, ?_⟩; rw [z5r]
     simp only [z23]
     refine z0h ?_
     first | refine exI ?_ | (intro cap6 hcap6; refine exI ?_)
     refine bleW [] (fun i => i) [0, 1] nd_1_2_3_5_6_9 (by kernel_rfl) ?_ ?_ ?_ ?_
     ·exact z66
     ·exact z9r
     ·exact z67
     ·exact z3c
    ·skip
     refine z03 z0l ?_; refine z0h ?_; refine exI ?_; refine bleW [] (fun i => if i = 1 then 2 else if i = 2 then 1 else i) [0, 2, 1] nd_1_2_3_5_8_9 (by kernel_rfl) ?_ ?_ ?_ ?_
     ·exact zjo
     ·exact ze8
     ·exact zjp
     ·exact z43
   refine z1j 5 #[true, true, true, true, true, false, false, false, true, true, false, false] [(4, .c (.ptr 0 0)), (26, tabV x), (27, .agg (dfaC e)), (6, .c (.ptr 1 0)), (7, .c (.ptr 2 0))] [(0, .own 30 (.cells [.nils, .nils, .nils]) 3), (1, .own 87 (.cells zl) 259), (2, .own 87 (.cells zl) 259)] 3 ?_ fun nd_1_2_3_8_9 => ?_
   ·skip
    refine z0w [5] (by kernel_rfl) (by decide) (List.forall_mem_cons.2 ⟨?_, fun _ h => by cases h⟩)
    ·skip
     refine z03 z0l ?_; refine z0h ?_; refine ⟨e, rfl, hge, ?_⟩; refine z0h ?_
     first | refine exI ?_ | (intro cap5 hcap5; refine exI ?_)
     refine bleW [] (fun i => i) [0, 1, 2] nd_1_2_3_5_8_9 (by kernel_rfl) ?_ ?_ ?_ ?_
     ·exact zjo
     ·exact zi5
     ·exact zjp
     ·exact z43
   refine z1j 6 #[true, true, true, true, true, true, false, false, false, false, false, false] [(4, .c (.ptr 0 0)), (26, tabV x), (28, tabV (tabD e))] [(0, .own 30 (.cells [.nils, .nils, .nils]) 3)] 1 ?_ fun nd_1_2_3_5 => ?_
   ·skip
    refine z0w [6, 8, 9] (by kernel_rfl) (by decide) (List.forall_mem_cons.2 ⟨?_, List.forall_mem_cons.2 ⟨?_, List.forall_mem_cons.2 ⟨?_, fun _ h => by cases h⟩⟩⟩)
    ·skip
     refine z03 z0l ?_; refine z0h ?_; refine aI (z0t _) ?_; refine z13 _ ?_; refine ⟨tabD e, rfl, z0z hge, ?_⟩; rw [z5r]
     simp only [z23]
     refine z0h ?_
     first | refine exI ?_ | (intro cap6 hcap6; refine exI ?_)
     refine bleW [] (fun i => i) [0] nd_1_2_3_5_6 (by kernel_rfl) ?_ ?_ ?_ ?_
     ·exact zqf
     ·exact zc2
     ·exact zqg
     ·exact (And.intro (And.intro (by decide) z5t) trivial)
    ·skip
     refine z03 z0l ?_; refine z0h ?_; refine exI ?_; refine bleW [] (fun i => i) [0, 1] nd_1_2_3_5_8 (by kernel_rfl) ?_ ?_ ?_ ?_
     ·exact zf6
     ·exact z7m
     ·exact zf7
     ·exact z3c
    ·skip
     refine z03 z0l ?_; refine z0h ?_; refine exI ?_; refine bleW [] (fun i => i) [0, 1] nd_1_2_3_5_9 (by kernel_rfl) ?_ ?_ ?_ ?_
     ·exact zf6
     ·exact z7m
     ·exact zf7
     ·exact z3c
   refine z1j 6 #[true, true, true, true, true, false, false, false, true, false, false, false] [(4, .c (.ptr 0 0)), (26, tabV x), (27, .agg (dfaC e)), (6, .c (.ptr 1 0))] [(0, .own 30 (.cells [.nils, .nils, .nils]) 3), (1, .own 87 (.cells zl) 259)] 2 ?_ fun nd_1_2_3_8 => ?_
   ·skip
    refine z0w [5, 9] (by kernel_rfl) (by decide) (List.forall_mem_cons.2 ⟨?_, List.forall_mem_cons.2 ⟨?_, fun _ h => by cases h⟩⟩)
    ·skip
     refine z03 z0l ?_; refine z0h ?_; refine ⟨e, rfl, hge, ?_⟩; refine z0h ?_
     first | refine exI ?_ | (intro cap5 hcap5; refine exI ?_)
     refine bleW [] (fun i => i) [0, 1] nd_1_2_3_5_8 (by kernel_rfl) ?_ ?_ ?_ ?_
     ·exact zf6
     ·exact z9r
     ·exact zf7
     ·exact z3c
    ·skip
     refine z03 z0l ?_; refine z0h ?_; refine exI ?_; refine bleW [] (fun i => i) [0, 1, 2] nd_1_2_3_8_9 (by kernel_rfl) ?_ ?_ ?_ ?_
     ·exact zd3
     ·exact zjq
     ·exact z9c
     ·exact z43
   refine z1j 6 #[true, true, true, true, true, false, false, false, false, true, false, false] [(4, .c (.ptr 0 0)), (26, tabV x), (27, .agg (dfaC e)), (7, .c (.ptr 1 0))] [(0, .own 30 (.cells [.nils, .nils, .nils]) 3), (1, .own 87 (.cells zl) 259)] 2 ?_ fun nd_1_2_3_9 => ?_
   ·skip
    refine z0w [5, 8] (by kernel_rfl) (by decide) (List.forall_mem_cons.2 ⟨?_, List.forall_mem_cons.2 ⟨?_, fun _ h => by cases h⟩⟩)
    ·skip
     refine z03 z0l ?_; refine z0h ?_; refine ⟨e, rfl, hge, ?_⟩; refine z0h ?_
     first | refine exI ?_ | (intro cap5 hcap5; refine exI ?_)
     refine bleW [] (fun i => i) [0, 1] nd_1_2_3_5_9 (by kernel_rfl) ?_ ?_ ?_ ?_
     ·exact zf6
     ·exact z9r
     ·exact zf7
     ·exact z3c
    ·skip
     refine z03 z0l ?_; refine z0h ?_; refine exI ?_; refine bleW [] (fun i => if i = 1 then 2 else if i = 2 then 1 else i) [0, 2, 1] nd_1_2_3_8_9 (by kernel_rfl) ?_ ?_ ?_ ?_
     ·exact zd3
     ·exact ze8
     ·exact z9c
     ·exact z43
   refine z1j 6 #[true, true, true, false, true, false, false, false, true, true, false, false] [(4, .c (.ptr 0 0)), (25, dfaV (canD (langD d))), (27, .agg (dfaC e)), (6, .c (.ptr 1 0)), (7, .c (.ptr 2 0))] [(0, .own 30 (.cells [.nils, .nils, .nils]) 3), (1, .own 87 (.cells zl) 259), (2, .own 87 (.cells zl) 259)] 3 ?_ fun nd_1_2_8_9 => ?_
   ·skip
    refine z0w [3] (by kernel_rfl) (by decide) (List.forall_mem_cons.2 ⟨?_, fun _ h => by cases h⟩)
    ·skip
     refine z03 z0l ?_; refine z0h ?_; refine ⟨canD (langD d), rfl, gd.1, ?_⟩; rw [← hxe]; refine z0h ?_
     first | refine exI ?_ | (intro cap3 hcap3; refine exI ?_)
     refine bleW [] (fun i => i) [0, 1, 2] nd_1_2_3_8_9 (by kernel_rfl) ?_ ?_ ?_ ?_
     ·exact zd3
     ·exact zi5
     ·exact z9c
     ·exact z43
   refine z1j 7 #[true, true, true, true, true, false, false, false, false, false, false, false] [(4, .c (.ptr 0 0)), (26, tabV x), (27, .agg (dfaC e))] [(0, .own 30 (.cells [.nils, .nils, .nils]) 3)] 1 ?_ fun nd_1_2_3 => ?_
   ·skip
    refine z0w [5, 8, 9] (by kernel_rfl) (by decide) (List.forall_mem_cons.2 ⟨?_, List.forall_mem_cons.2 ⟨?_, List.forall_mem_cons.2 ⟨?_, fun _ h => by cases h⟩⟩⟩)
    ·skip
     refine z03 z0l ?_; refine z0h ?_; refine ⟨e, rfl, hge, ?_⟩; refine z0h ?_
     first | refine exI ?_ | (intro cap5 hcap5; refine exI ?_)
     refine bleW [] (fun i => i) [0] nd_1_2_3_5 (by kernel_rfl) ?_ ?_ ?_ ?_
     ·exact zzi
     ·exact zc2
     ·exact zzj
     ·exact (And.intro (And.intro (by decide) z5t) trivial)
    ·skip
     refine z03 z0l ?_; refine z0h ?_; refine exI ?_; refine bleW [] (fun i => i) [0, 1] nd_1_2_3_8 (by kernel_rfl) ?_ ?_ ?_ ?_
     ·exact z66
     ·exact z7m
     ·exact z67
     ·exact z3c
    ·skip
     refine z03 z0l ?_; refine z0h ?_; refine exI ?_; refine bleW [] (fun i => i) [0, 1] nd_1_2_3_9 (by kernel_rfl) ?_ ?_ ?_ ?_
     ·exact z66
     ·exact z7m
     ·exact z67
     ·exact z3c
   refine z1j 7 #[true, true, true, false, true, false, false, false, true, false, false, false] [(4, .c (.ptr 0 0)), (25, dfaV (canD (langD d))), (27, .agg (dfaC e)), (6, .c (.ptr 1 0))] [(0, .own 30 (.cells [.nils, .nils, .nils]) 3), (1, .own 87 (.cells zl) 259)] 2 ?_ fun nd_1_2_8 => ?_
   ·skip
    refine z0w [3, 9] (by kernel_rfl) (by decide) (List.forall_mem_cons.2 ⟨?_, List.forall_mem_cons.2 ⟨?_, fun _ h => by cases h⟩⟩)
    ·skip
     refine z03 z0l ?_; refine z0h ?_; refine ⟨canD (langD d), rfl, gd.1, ?_⟩; rw [← hxe]; refine z0h ?_
     first | refine exI ?_ | (intro cap3 hcap3; refine exI ?_)
     refine bleW [] (fun i => i) [0, 1] nd_1_2_3_8 (by kernel_rfl) ?_ ?_ ?_ ?_
     ·exact z66
     ·exact z9r
     ·exact z67
     ·exact z3c
    ·skip
     refine z03 z0l ?_; refine z0h ?_; refine exI ?_; refine bleW [] (fun i => i) [0, 1, 2] nd_1_2_8_9 (by kernel_rfl) ?_ ?_ ?_ ?_
     ·exact zi6
     ·exact zjq
     ·exact zi7
     ·exact z43
   refine z1j 7 #[true, true, true, false, true, false, false, false, false, true, false, false] [(4, .c (.ptr 0 0)), (25, dfaV (canD (langD d))), (27, .agg (dfaC e)), (7, .c (.ptr 1 0))] [(0, .own 30 (.cells [.nils, .nils, .nils]) 3), (1, .own 87 (.cells zl) 259)] 2 ?_ fun nd_1_2_9 => ?_
   ·skip
    refine z0w [3, 8] (by kernel_rfl) (by decide) (List.forall_mem_cons.2 ⟨?_, List.forall_mem_cons.2 ⟨?_, fun _ h => by cases h⟩⟩)
    ·skip
     refine z03 z0l ?_; refine z0h ?_; refine ⟨canD (langD d), rfl, gd.1, ?_⟩; rw [← hxe]; refine z0h ?_
     first | refine exI ?_ | (intro cap3 hcap3; refine exI ?_)
     refine bleW [] (fun i => i) [0, 1] nd_1_2_3_9 (by kernel_rfl) ?_ ?_ ?_ ?_
     ·exact z66
     ·exact z9r
     ·exact z67
     ·exact z3c
    ·skip
     refine z03 z0l ?_; refine z0h ?_; refine exI ?_; refine bleW [] (fun i => if i = 1 then 2 else if i = 2 then 1 else i) [0, 2, 1] nd_1_2_8_9 (by kernel_rfl) ?_ ?_ ?_ ?_
     ·exact zi6
     ·exact ze8
     ·exact zi7
     ·exact z43
   refine z1j 7 #[true, true, false, false, true, false, false, false, true, true, false, false] [(4, .c (.ptr 0 0)), (24, tabV (tabD d)), (27, .agg (dfaC e)), (6, .c (.ptr 1 0)), (7, .c (.ptr 2 0))] [(0, .own 30 (.cells [.nils, .nils, .nils]) 3), (1, .own 87 (.cells zl) 259), (2, .own 87 (.cells zl) 259)] 3 ?_ fun nd_1_8_9 => ?_
   ·skip
    refine z0w [2] (by kernel_rfl) (by decide) (List.forall_mem_cons.2 ⟨?_, fun _ h => by cases h⟩)
    ·skip
     refine z03 z0l ?_; refine z0h ?_; refine aI (z0t _) ?_; refine z13 _ ?_; refine ⟨tabD d, rfl, z0z hgd, ?_⟩; rw [z5r]
     simp only [z23]
     refine z0h ?_
     first | refine exI ?_ | (intro cap2 hcap2; refine exI ?_)
     refine bleW [] (fun i => i) [0, 1, 2] nd_1_2_8_9 (by kernel_rfl) ?_ ?_ ?_ ?_
     ·exact zi6
     ·exact zi5
     ·exact zi7
     ·exact z43
   refine z1j 8 #[true, true, true, false, true, false, false, false, false, false, false, false] [(4, .c (.ptr 0 0)), (25, dfaV (canD (langD d))), (27, .agg (dfaC e))] [(0, .own 30 (.cells [.nils, .nils, .nils]) 3)] 1 ?_ fun nd_1_2 => ?_
   ·skip
    refine z0w [3, 8, 9] (by kernel_rfl) (by decide) (List.forall_mem_cons.2 ⟨?_, List.forall_mem_cons.2 ⟨?_, List.forall_mem_cons.2 ⟨?_, fun _ h => by cases h⟩⟩⟩)
    ·skip
     refine z03 z0l ?_; refine z0h ?_; refine ⟨canD (langD d), rfl, gd.1, ?_⟩; rw [← hxe]; refine z0h ?_
     first | refine exI ?_ | (intro cap3 hcap3; refine exI ?_)
     refine bleW [] (fun i => i) [0] nd_1_2_3 (by kernel_rfl) ?_ ?_ ?_ ?_
     ·exact zqf
     ·exact zc2
     ·exact zqg
     ·exact (And.intro (And.intro (by decide) z5t) trivial)
    ·skip
     refine z03 z0l ?_; refine z0h ?_; refine exI ?_; refine bleW [] (fun i => i) [0, 1] nd_1_2_8 (by kernel_rfl) ?_ ?_ ?_ ?_
     ·exact ze9
     ·exact z7m
     ·exact zea
     ·exact z3c
    ·skip
     refine z03 z0l ?_; refine z0h ?_; refine exI ?_; refine bleW [] (fun i => i) [0, 1] nd_1_2_9 (by kernel_rfl) ?_ ?_ ?_ ?_
     ·exact ze9
     ·exact z7m
     ·exact zea
     ·exact z3c
   refine z1j 8 #[true, true, false, false, true, false, false, false, true, false, false, false] [(4, .c (.ptr 0 0)), (24, tabV (tabD d)), (27, .agg (dfaC e)), (6, .c (.ptr 1 0))] [(0, .own 30 (.cells [.nils, .nils, .nils]) 3), (1, .own 87 (.cells zl) 259)] 2 ?_ fun nd_1_8 => ?_
   ·skip
    refine z0w [2, 9] (by kernel_rfl) (by decide) (List.forall_mem_cons.2 ⟨?_, List.forall_mem_cons.2 ⟨?_, fun _ h => by cases h⟩⟩)
    ·skip
     refine z03 z0l ?_; refine z0h ?_; refine aI (z0t _) ?_; refine z13 _ ?_; refine ⟨tabD d, rfl, z0z hgd, ?_⟩; rw [z5r]
     simp only [z23]
     refine z0h ?_
     first | refine exI ?_ | (intro cap2 hcap2; refine exI ?_)
     refine bleW [] (fun i => i) [0, 1] nd_1_2_8 (by kernel_rfl) ?_ ?_ ?_ ?_
     ·exact ze9
     ·exact z9r
     ·exact zea
     ·exact z3c
    ·skip
     refine z03 z0l ?_; refine z0h ?_; refine exI ?_; refine bleW [] (fun i => i) [0, 1, 2] nd_1_8_9 (by kernel_rfl) ?_ ?_ ?_ ?_
     ·exact zd3
     ·exact zjq
     ·exact z9c
     ·exact z43
   refine z1j 8 #[true, true, false, false, true, false, false, false, false, true, false, false] [(4, .c (.ptr 0 0)), (24, tabV (tabD d)), (27, .agg (dfaC e)), (7, .c (.ptr 1 0))] [(0, .own 30 (.cells [.nils, .nils, .nils]) 3), (1, .own 87 (.cells zl) 259)] 2 ?_ fun nd_1_9 => ?_
   ·skip
    refine z0w [2, 8] (by kernel_rfl) (by decide) (List.forall_mem_cons.2 ⟨?_, List.forall_mem_cons.2 ⟨?_, fun _ h => by cases h⟩⟩)
    ·skip
     refine z03 z0l ?_; refine z0h ?_; refine aI (z0t _) ?_; refine z13 _ ?_; refine ⟨tabD d, rfl, z0z hgd, ?_⟩; rw [z5r]
     simp only [z23]
     refine z0h ?_
     first | refine exI ?_ | (intro cap2 hcap2; refine exI ?_)
     refine bleW [] (fun i => i) [0, 1] nd_1_2_9 (by kernel_rfl) ?_ ?_ ?_ ?_
     ·exact ze9
     ·exact z9r
     ·exact zea
     ·exact z3c
    ·skip
     refine z03 z0l ?_; refine z0h ?_; refine exI ?_; refine bleW [] (fun i => if i = 1 then 2 else if i = 2 then 1 else i) [0, 2, 1] nd_1_8_9 (by kernel_rfl) ?_ ?_ ?_ ?_
     ·exact zd3
     ·exact ze8
     ·exact z9c
     ·exact z43
   refine z1j 8 #[true, false, false, false, true, false, false, false, true, true, false, false] [(4, .c (.ptr 0 0)), (23, .agg (dfaC d)), (27, .agg (dfaC e)), (6, .c (.ptr 1 0)), (7, .c (.ptr 2 0))] [(0, .own 30 (.cells [.nils, .nils, .nils]) 3), (1, .own 87 (.cells zl) 259), (2, .own 87 (.cells zl) 259)] 3 ?_ fun nd_8_9 => ?_
   ·skip
    refine z0w [1] (by kernel_rfl) (by decide) (List.forall_mem_cons.2 ⟨?_, fun _ h => by cases h⟩)
    ·skip
     refine z03 z0l ?_; refine z0h ?_; refine ⟨d, rfl, hgd, ?_⟩; refine z0h ?_
     first | refine exI ?_ | (intro cap1 hcap1; refine exI ?_)
     refine bleW [] (fun i => i) [0, 1, 2] nd_1_8_9 (by kernel_rfl) ?_ ?_ ?_ ?_
     ·exact zd3
     ·exact zi5
     ·exact z9c
     ·exact z43
   refine z1j 9 #[true, true, false, false, true, false, false, false, false, false, false, false] [(4, .c (.ptr 0 0)), (24, tabV (tabD d)), (27, .agg (dfaC e))] [(0, .own 30 (.cells [.nils, .nils, .nils]) 3)] 1 ?_ fun nd_1 => ?_
   ·skip
    refine z0w [2, 8, 9] (by kernel_rfl) (by decide) (List.forall_mem_cons.2 ⟨?_, List.forall_mem_cons.2 ⟨?_, List.forall_mem_cons.2 ⟨?_, fun _ h => by cases h⟩⟩⟩)
    ·skip
     refine z03 z0l ?_; refine z0h ?_; refine aI (z0t _) ?_; refine z13 _ ?_; refine ⟨tabD d, rfl, z0z hgd, ?_⟩; rw [z5r]
     simp only [z23]
     refine z0h ?_
     first | refine exI ?_ | (intro cap2 hcap2; refine exI ?_)
     refine bleW [] (fun i => i) [0] nd_1_2 (by kernel_rfl) ?_ ?_ ?_ ?_
     ·exact zzk
     ·exact zc2
     ·exact zzl
     ·exact (And.intro (And.intro (by decide) z5t) trivial)
    ·skip
     refine z03 z0l ?_; refine z0h ?_; refine exI ?_; refine bleW [] (fun i => i) [0, 1] nd_1_8 (by kernel_rfl) ?_ ?_ ?_ ?_
     ·exact z66
     ·exact z7m
     ·exact z67
     ·exact z3c
    ·skip
     refine z03 z0l ?_; refine z0h ?_; refine exI ?_; refine bleW [] (fun i => i) [0, 1] nd_1_9 (by kernel_rfl) ?_ ?_ ?_ ?_
     ·exact z66
     ·exact z7m
     ·exact z67
     ·exact z3c
   refine z1j 9 #[true, false, false, false, true, false, false, false, true, false, false, false] [(4, .c (.ptr 0 0)), (23, .agg (dfaC d)), (27, .agg (dfaC e)), (6, .c (.ptr 1 0))] [(0, .own 30 (.cells [.nils, .nils, .nils]) 3), (1, .own 87 (.cells zl) 259)] 2 ?_ fun nd_8 => ?_
   ·skip
    refine z0w [1, 9] (by kernel_rfl) (by decide) (List.forall_mem_cons.2 ⟨?_, List.forall_mem_cons.2 ⟨?_, fun _ h => by cases h⟩⟩)
    ·skip
     refine z03 z0l ?_; refine z0h ?_; refine ⟨d, rfl, hgd, ?_⟩; refine z0h ?_
     first | refine exI ?_ | (intro cap1 hcap1; refine exI ?_)
     refine bleW [] (fun i => i) [0, 1] nd_1_8 (by kernel_rfl) ?_ ?_ ?_ ?_
     ·exact z66
     ·exact z9r
     ·exact z67
     ·exact z3c
    ·skip
     refine z03 z0l ?_; refine z0h ?_; refine exI ?_; refine bleW [] (fun i => i) [0, 1, 2] nd_8_9 (by kernel_rfl) ?_ ?_ ?_ ?_
     ·exact zi6
     ·exact zjq
     ·exact zi7
     ·exact z43
   refine z1j 9 #[true, false, false, false, true, false, false, false, false, true, false, false] [(4, .c (.ptr 0 0)), (23, .agg (dfaC d)), (27, .agg (dfaC e)), (7, .c (.ptr 1 0))] [(0, .own 30 (.cells [.nils, .nils, .nils]) 3), (1, .own 87 (.cells zl) 259)] 2 ?_ fun nd_9 => ?_
   ·skip
    refine z0w [1, 8] (by kernel_rfl) (by decide) (List.forall_mem_cons.2 ⟨?_, List.forall_mem_cons.2 ⟨?_, fun _ h => by cases h⟩⟩)
    ·skip
     refine z03 z0l ?_; refine z0h ?_; refine ⟨d, rfl, hgd, ?_⟩; refine z0h ?_
     first | refine exI ?_ | (intro cap1 hcap1; refine exI ?_)
     refine bleW [] (fun i => i) [0, 1] nd_1_9 (by kernel_rfl) ?_ ?_ ?_ ?_
     ·exact z66
     ·exact z9r
     ·exact z67
     ·exact z3c
    ·skip
     refine z03 z0l ?_; refine z0h ?_; refine exI ?_; refine bleW [] (fun i => if i = 1 then 2 else if i = 2 then 1 else i) [0, 2, 1] nd_8_9 (by kernel_rfl) ?_ ?_ ?_ ?_
     ·exact zi6
     ·exact ze8
     ·exact zi7
     ·exact z43
   refine z1j 10 #[true, false, false, false, true, false, false, false, false, false, false, false] [(4, .c (.ptr 0 0)), (23, .agg (dfaC d)), (27, .agg (dfaC e))] [(0, .own 30 (.cells [.nils, .nils, .nils]) 3)] 1 ?_ fun nd_ => ?_
   ·skip
    refine z0w [1, 8, 9] (by kernel_rfl) (by decide) (List.forall_mem_cons.2 ⟨?_, List.forall_mem_cons.2 ⟨?_, List.forall_mem_cons.2 ⟨?_, fun _ h => by cases h⟩⟩⟩)
    ·skip
     refine z03 z0l ?_; refine z0h ?_; refine ⟨d, rfl, hgd, ?_⟩; refine z0h ?_
     first | refine exI ?_ | (intro cap1 hcap1; refine exI ?_)
     refine bleW [] (fun i => i) [0] nd_1 (by kernel_rfl) ?_ ?_ ?_ ?_
     ·exact zqf
     ·exact zc2
     ·exact zqg
     ·exact (And.intro (And.intro (by decide) z5t) trivial)
    ·skip
     refine z03 z0l ?_; refine z0h ?_; refine exI ?_; refine bleW [] (fun i => i) [0, 1] nd_8 (by kernel_rfl) ?_ ?_ ?_ ?_
     ·exact ze9
     ·exact z7m
     ·exact zea
     ·exact z3c
    ·skip
     refine z03 z0l ?_; refine z0h ?_; refine exI ?_; refine bleW [] (fun i => i) [0, 1] nd_9 (by kernel_rfl) ?_ ?_ ?_ ?_
     ·exact ze9
     ·exact z7m
     ·exact zea
     ·exact z3c
   refine z12 z0l (g := 10) (by kernel_rfl) [(0, true), (4, true)] (by kernel_rfl) fun _ hK46 => ?_
   iterate 2 refine z9b ?_
   refine d_nil ?_; apply hK46; refine bleW [] (fun _ => 2) [2] nd_ (by kernel_rfl) ?_ ?_ ?_ ?_
   ·exact zzk
   ·exact zc2
   ·exact zzl
   ·exact (And.intro (And.intro (by decide) z5t) trivial)


end Go.Proofs.YtppmnaoollkboaaDoor

namespace Go.Proofs.YtppmnaoollkboaaDoor
set_option linter.all false
open Go.Ab Go.RowKit

theorem qUtj0 {a : Prop} (h : a := by first | exact vcA | (simp [-List.reduceReplicate] <;> omega) | exact vTr | exact vTx | (show (List.replicate 256 (0 : Int)).length = (jL _ _ _).length; rw [z0k, List.length_replicate]) | (show 256 = (jL _ _ _).length; rw [z0k]) | (show 0 < (jL _ _ _).length; rw [z0k]; decide) | (show 0 + (jL _ _ _).length ≤ (List.replicate 256 (0 : Int)).length; rw [z0k, List.length_replicate]; decide) | (show 0 + 256 * 1 ≤ (jL _ _ _).length; rw [z0k]; decide) | (show (jL _ _ _).length = 256 * 1; rw [z0k]) | exact vcB) : a := h
theorem zzm {a : Prop} (h : a := by
    repeat' (first | exact z1e _ | exact z38 _ | exact z3g (z0x z20 z2b) | exact z3g (z0x z20 (z0x z20 (z0x z20 z2b))) | exact pT  | exact trivial | refine aI ?_ ?_ | exact cC0 | refine low_cons' ?_ ?_ | exact cC1 | fail)
    all_goals first | omega | exact z1e _ | (show 0 < (z02 _ _ _ _).length; rw [z01 hx.1.clen]; decide) | (show 0 < (z02 _ _ _ _).length; rw [z01 hy.1.clen]; decide) | (show 0 < (jL _ _ _).length; rw [z0k]; decide) | (intro z hz; rw [List.mem_singleton.1 hz]; exact ⟨rfl, fun g l e => by cases e⟩) | exact Nat.one_pos| (show (0 : Nat) < (z02 _ _ _ _).length; rw [z01 hcl]; decide) | (simp [-List.reduceReplicate]; done) | (simp [-List.reduceReplicate] <;> omega) | skip) : a := h
theorem zf8 {a : Prop} (h : a := by
    repeat' (first | exact z1e _ | exact z38 _ | exact z3g (z0x z20 z2b) | exact z3g (z0x z20 (z0x z20 (z0x z20 z2b))) | exact pT  | exact trivial | refine aI ?_ ?_ | exact cC0 | refine low_cons' ?_ ?_ | exact cC1 | fail)
    all_goals first | omega | exact z1e _ | (show 0 < (z02 _ _ _ _).length; rw [z01 hx.1.clen]; decide) | (show 0 < (z02 _ _ _ _).length; rw [z01 hx.1.clen]; decide) | (show 0 < (jL _ _ _).length; rw [z0k]; decide) | (intro z hz; rw [List.mem_singleton.1 hz]; exact ⟨rfl, fun g l e => by cases e⟩) | exact Nat.one_pos| (show (0 : Nat) < (z02 _ _ _ _).length; rw [z01 hcl]; decide) | (simp [-List.reduceReplicate]; done) | (simp [-List.reduceReplicate] <;> omega) | skip) : a := h
theorem zbh {a b : Prop} (kZ : b) (h : HidB b → a := by intro kZ; (repeat first | refine aI qUtj0 ?_ | refine z05 qUtj0 ?_ | refine z04 qUtj0 ?_ | refine z0i qUtj0 ?_ | refine z0d ?_); exact kZ.out) : a := h ⟨kZ⟩
theorem z3l {a b : Prop} (kZ : b) (h : HidB b → a := by intro kZ; refine sX ?_; refine zbh ?_; refine exI ?_; exact kZ.out) : a := h ⟨kZ⟩
theorem zb8 {a b : Prop} (kZ : b) (h : HidB b → a := by intro kZ; refine sX0 ?_; refine zbh ?_; refine exI ?_; exact kZ.out) : a := h ⟨kZ⟩
theorem z4a {a b : Prop} (kZ : b) (h : HidB b → a := by intro kZ; refine sX ?_; refine zbh ?_; exact kZ.out) : a := h ⟨kZ⟩

open Go.Aut
attribute [local irreducible] z0p z1v zl z02 z1f putB prodT canD jL jrep exR z30
noncomputable def gh4 : Ctx := { P := Tryd.prog, ty := ty, glob := gl, fs := [(50, .flat z93), (74, .data z94), (75, .data z8e), (76, .data zsl), (83, .data zfv), (80, .data (zfu 84 sta1S 85 sta2S))] }
theorem z8h : gh4.OK := ⟨tyOK, ⟨⟨z06 Tryd.func50 (by kernel_rfl) rfl, z5x⟩, ⟨z06 Tryd.func74 (by kernel_rfl) rfl, z6p⟩, ⟨z06 Tryd.func75 (by kernel_rfl) rfl, z7k⟩, ⟨z06 Tryd.func76 (by kernel_rfl) rfl, zl8⟩, ⟨z06 Tryd.func83 (by kernel_rfl) rfl, ze1⟩, ⟨z06 Tryd.func80 (by kernel_rfl) rfl, ze0 (z06 Tryd.func84 (by kernel_rfl) rfl) sta1_ok (z06 Tryd.func85 (by kernel_rfl) rfl) sta2_ok (by decide)⟩, trivial⟩, mixed⟩
@[simp] theorem gh4_ty : gh4.ty = ty := rfl

def zzn : QSpec := fun vs K => ∃ d : Dfa, vs = [dfaV d] ∧ d.wf ∧ K (resV (starR d))
set_option maxHeartbeats 2000000 in
set_option maxRecDepth 4000 in
theorem zt1 : z2r Tryd.prog gl 24 zzn := by
 refine z2a (Γ := gh4) (N := 42) Tryd.func24 rfl rfl fun vs K h => ?_; obtain ⟨d, rfl, hd, h⟩ := h; refine ⟨_, h, z19 _, by simp, fun w I => ?_⟩; refine seq_k fun _ hK1 => ?_; refine z00 z8h fun _ hK2 => ?_
 iterate 3 refine z3l ?_
 refine s_nil ?_; apply hK2; apply hK1; refine seq_k fun _ hK3 => ?_; refine seq_k fun _ hK4 => ?_; refine z00 z8h fun _ hK5 => ?_; refine z3l ?_; refine z4a ?_; refine ⟨d, rfl, hd, ?_⟩; refine zbh ?_
 first | refine exI ?_ | (intro cap1 hcap1; refine exI ?_)
 refine z3l ?_; refine s_nil ?_; apply hK5; apply hK4; refine z08 (b := _) rfl (fun h_t12 => ?_) (fun h_t12 => ?_)
 ·try simp only [dQ, if_true, if_false, reduceIte] at h_t12
  refine seq_k fun _ hK6 => ?_; refine z00 z8h fun _ hK7 => ?_; refine z3l ?_; refine zb8 ?_; refine z3l ?_; refine s_nil ?_; apply hK7; apply hK6; rw [starR, if_neg (by simpa using h_t12)]; refine z0e (z0j z8h (fun _ _ h => h) (z19 _) [] [.cell 2 30, .tmp 3] rfl ?_)
  repeat first | refine aI (by first | exact trivial | rfl | exact ⟨rfl, rfl⟩ | decide) ?_ | refine z05 (by first | rfl | decide) ?_ | refine z04 (by first | rfl | decide) ?_
  all_goals exact zzm
 ·try simp only [dQ, if_true, if_false, reduceIte] at h_t12
  refine z0c ?_; apply hK3; refine seq_k fun _ hK8 => ?_
  have hg := (z2x hd).1 (by simpa using h_t12)
  have gd := z49 hg
  have hx := z0z gd.1
  have hcc : ∀ w, Bytes w → _ := fun w hw => zzf hg hw
  obtain ⟨x, hxe⟩ : ∃ x, x = (tabD (canD (langD d))) := ⟨_, rfl⟩; rw [← hxe] at hx hcc
  have hex := sta_exin hx
  refine z00 z8h fun _ hK9 => ?_; refine z3l ?_; refine z4a ?_; refine ⟨d, rfl, hg, ?_⟩; refine zbh ?_
  first | refine exI ?_ | (intro cap1 hcap1; refine exI ?_)
  refine z4a ?_; refine aI (z0t _) ?_; refine z13 _ ?_; refine ⟨tabD d, rfl, z0z hg, ?_⟩; rw [z5r]
  simp only [z23]
  refine zbh ?_
  first | refine exI ?_ | (intro cap2 hcap2; refine exI ?_)
  refine z4a ?_; refine ⟨canD (langD d), rfl, gd.1, ?_⟩; rw [← hxe]; refine zbh ?_
  first | refine exI ?_ | (intro cap3 hcap3; refine exI ?_)
  refine z3l ?_; refine zb8 ?_; refine s_nil ?_; apply hK9; apply hK8; refine seq_k fun _ hK10 => ?_; refine leW [2] (fun _ => 1) [(2, .c (.ptr 0 0)), (4, .c (dpT x))] [(0, .own 30 (.cells [.nils, .nils, .nils]) 3)] 1 [1] ?_ ?_ ?_ ?_ ?_
  ·exact zf8
  ·exact zf8
  ·exact zf8
  ·exact zf8
  refine z00 z8h fun _ hK11 => ?_; refine z4a ?_; refine exA (tabV x) (SV.as_refl _) ?_; refine z4a ?_; refine exA (tabV x) (SV.as_refl _) ?_; refine z4a ?_; refine aI (z0t _) ?_; refine z13 _ ?_; refine aI (z0t _) ?_; refine z13 _ ?_; refine ⟨x, x, rfl, ⟨hx, hx⟩, ?_⟩
  simp only [z23]
  refine zbh ?_
  first | refine exI ?_ | (intro cap2 hcap2; refine exI ?_)
  iterate 4 refine z3l ?_
  refine zb8 ?_; refine z3l ?_; refine s_nil ?_; apply hK11; apply hK10; refine seq_k fun _ hK12 => ?_; refine leW [1] id [(2, .c (.ptr 0 0)), (4, .c (dpT x)), (5, .c (.dp (.ints .i64 (jL x x 256)) 0)), (6, .c (.ds (jrep (cN x) (cN x)).length (.ints .i64 (natsI (jrep (cN x) (cN x))))))] [(0, .own 30 (.cells [.nils, .nils, .nils]) 3)] 1 [0] ?_ ?_ ?_ ?_ ?_
  ·exact zf8
  ·exact zf8
  ·exact zf8
  ·exact zf8
  refine z00 z8h fun _ hK13 => ?_
  iterate 2 refine z3l ?_
  refine s_nil ?_; apply hK13; apply hK12; refine seq_k fun _ hK14 => ?_; refine z00 z8h fun _ hK15 => ?_; refine z4a ?_; refine exA (.agg (.ints .i64 (jL x x 256))) (SV.as_refl _) ?_; refine z3l ?_; refine z4a ?_; refine exA (.agg (.u64s [1])) (SV.as_refl _) ?_; refine z4a ?_; refine exA (stV (1, 0, 1)) (as_eq rfl) ?_
  iterate 2 refine z3l ?_
  refine z4a ?_; refine aI (nc_st _) ?_; refine aI (nc_1 _) ?_; refine aI (nc_1 _) ?_; refine ⟨staG x, staA x, staI, jL x x 256, jrep (cN x) (cN x), (1, 0, 1), [dpT x], [dpT x], 4096, rfl, hex, ?_⟩
  have hrc : (exR (staG x) (staA x) (jL x x 256) (jrep (cN x) (cN x)) (1, 0, 1) 4096).1.cell.length = 256 := zlh (z0k x x 256)
  have hry : (exR (staG x) (staA x) (jL x x 256) (jrep (cN x) (cN x)) (1, 0, 1) 4096).2 = true → (exR (staG x) (staA x) (jL x x 256) (jrep (cN x) (cN x)) (1, 0, 1) 4096).1.fit ∧ _ := fun hh => (zb7 (by decide) (fun s c hc => znm s hc) hcc (zf4 hh)).imp_right And.right
  have hrn : (exR (staG x) (staA x) (jL x x 256) (jrep (cN x) (cN x)) (1, 0, 1) 4096).2 = false → _ := fun hh => ex_no hh
  have hrs : (exR (staG x) (staA x) (jL x x 256) (jrep (cN x) (cN x)) (1, 0, 1) 4096).2 = true → _ := fun hh => zf4 hh
  obtain ⟨r, hr⟩ : ∃ r, r = (exR (staG x) (staA x) (jL x x 256) (jrep (cN x) (cN x)) (1, 0, 1) 4096) := ⟨_, rfl⟩; rw [← hr] at hrc hry hrn hrs ⊢; refine zbh ?_
  first | refine exI ?_ | (intro cap6 hcap6; refine exI ?_)
  iterate 4 refine z3l ?_
  refine zb8 ?_; refine z3l ?_; refine s_nil ?_; apply hK15; apply hK14; refine seq_k fun _ hK16 => ?_; refine seq_k fun _ hK17 => ?_; refine z00 z8h fun _ hK18 => ?_
  iterate 2 refine z3l ?_
  refine s_nil ?_; apply hK18; apply hK17; refine z08 (b := _) rfl (fun h_t36 => ?_) (fun h_t36 => ?_)
  ·try simp only [dQ, if_true, if_false, reduceIte] at h_t36
   refine seq_k fun _ hK19 => ?_; refine z00 z8h fun _ hK20 => ?_; refine z3l ?_; refine zb8 ?_; refine z3l ?_; refine s_nil ?_; apply hK20; apply hK19; rw [starR, if_pos (z0q hg), ← hxe, if_pos (hrn (by simpa using h_t36))]; refine z0e (z0j z8h (fun _ _ h => h) (z19 _) [] [.cell 2 30, .tmp 3] rfl ?_)
   repeat first | refine aI (by first | exact trivial | rfl | exact ⟨rfl, rfl⟩ | decide) ?_ | refine z05 (by first | rfl | decide) ?_ | refine z04 (by first | rfl | decide) ?_
   all_goals exact zzm
  ·try simp only [dQ, if_true, if_false, reduceIte] at h_t36
   refine z0c ?_; apply hK16; refine seq_k fun _ hK21 => ?_
   have hr2 : r.2 = true := by simpa using h_t36
   obtain ⟨hrf, hrcan⟩ := hry hr2; refine z00 z8h fun _ hK22 => ?_; refine z4a ?_; refine exA (tabV r.1) (SV.as_refl _) ?_; refine z4a ?_; refine aI (z0t _) ?_; refine z13 _ ?_; refine ⟨r.1, rfl, hrf, ?_⟩; rw [hrcan]
   simp only [z23]
   refine zbh ?_
   first | refine exI ?_ | (intro cap1 hcap1; refine exI ?_)
   iterate 2 refine z3l ?_
   refine zb8 ?_; refine z3l ?_; refine s_nil ?_; apply hK22; apply hK21; rw [starR, if_pos (z0q hg), ← hxe, if_neg (hrs hr2)]; refine z0e (z0j z8h (fun _ _ h => h) (z19 _) [] [.cell 2 30, .tmp 3] rfl ?_)
   repeat first | refine aI (by first | exact trivial | rfl | exact ⟨rfl, rfl⟩ | decide) ?_ | refine z05 (by first | rfl | decide) ?_ | refine z04 (by first | rfl | decide) ?_
   all_goals exact zzm


end Go.Proofs.YtppmnaoollkboaaDoor
