/- The laws: moved states. -/
import Derived.Test.YtppmnaoollkboaaDoorWVv
import Derived.Test.YtppmnaoollkboaaDoorQb
import Derived.Test.YtppmnaoollkboaaDoorQn
namespace Go.Proofs.YtppmnaoollkboaaDoor
set_option linter.all false
open Go.Ab Go.RowKit

theorem qVw0 {a : Prop} (h : a := by first | exact vcA | (simp <;> omega) | exact ⟨by omega, by omega, trivial, trivial⟩ | (show (g.1 + 1) * 24 ≤ 140737488355328 ∧ g.1 + 1 ≤ 9223372036854775807 ∧ _; exact ⟨by omega, by omega, trivial, trivial⟩) | (refine ⟨by omega, by omega⟩) | (refine ⟨by omega, by omega, ?_⟩; decide) | (simp only [z1b, z6c]; omega) | (simp only [z1b]; omega) | (simp only [z3m, z6d]; omega) | (simp only [z3m]; omega) | (simp only [z2m]; omega) | (simp only [z2m]; rw [z5o (by omega)]; omega) | (show _ < d.acc.length; omega) | exact vcB) : a := h
theorem qVw1 {a : Prop} (h : a := by show (mvRow _ _ _).length = _ * 1; rw [z5o (by omega), Nat.mul_one]) : a := h
theorem qVw2 {a : Prop} (h : a := by show (rowsC _).length = _ * 1; rw [z1b, z6c, Nat.mul_one]) : a := h
theorem qVw3 {a : Prop} (h : a := by show (mvA _ _ _).length = _ * 1; rw [z6d, Nat.mul_one]) : a := h
theorem uVw_0 {a : Prop} (h : a := by
    repeat' (first | exact pT  | exact trivial | refine aI ?_ ?_ | exact cC0 | refine low_cons' ?_ ?_ | exact cC1 | fail)
    all_goals first | omega | exact z1f _ | (show (_ : List Int) = _; exact ztj hkl rfl) | (show (_ : List Bool) = _; exact mvA_succ rfl) | (show allTo _ _ _; rw [mvR_succ rfl]; exact z27 _) | exact z27 _ | exact z8l _ | (rw [if_pos ⟨rfl, qVw1⟩, hj]; done) | (show _ = (mvR _ _ _).length; rw [z6c]; done) | (show _ = (mvA _ _ _).length; rw [z6d]; done) | (rw [if_pos ⟨rfl, qVw2⟩]; rfl) | (rw [if_pos ⟨rfl, qVw3⟩]; rfl) | (rw [z6c]; done) | (rw [z6d]; done) | (show (_ : List Int) = _; unfold mvRow; rfl) | (show (_ : List Bool) = _; unfold mvA; rfl) | (show allTo _ _ _; unfold mvR; exact trivial) | (show 0 + _ * 1 ≤ (mvRow _ _ _).length; rw [z5o (by omega)]; omega) | (show 0 + _ * 1 ≤ (rowsC _).length; rw [z1b, z6c]; omega) | (show 0 + _ * 1 ≤ (mvA _ _ _).length; rw [z6d]; omega) | (simp; done)| (show (0 : Nat) < (z02 _ _ _ _).length; rw [z01 hcl]; decide) | (simp [-List.reduceReplicate]; done) | (simp [-List.reduceReplicate] <;> omega) | skip) : a := h
theorem DVw_0 {a b : Prop} (kZ : b) (h : HidB b → a := by intro kZ; (repeat first | refine aI qVw0 ?_ | refine z06 qVw0 ?_ | refine z04 qVw0 ?_ | refine z0k qVw0 ?_ | refine z0a ?_); exact kZ.out) : a := h ⟨kZ⟩
theorem z5y {a b : Prop} (kZ : b) (h : HidB b → a := by intro kZ; refine sX ?_; refine DVw_0 ?_; refine exI ?_; exact kZ.out) : a := h ⟨kZ⟩
theorem zp7 {a b : Prop} (kZ : b) (h : HidB b → a := by intro kZ; refine sX0 ?_; refine DVw_0 ?_; refine exI ?_; exact kZ.out) : a := h ⟨kZ⟩
theorem zyz {a b : Prop} (kZ : b) (h : HidB b → a := by intro kZ; refine qX ?_; refine DVw_0 ?_; refine exI ?_; exact kZ.out) : a := h ⟨kZ⟩
theorem zz0 {a b : Prop} (kZ : b) (h : HidB b → a := by intro kZ; refine dX ?_; refine DVw_0 ?_; refine exI ?_; exact kZ.out) : a := h ⟨kZ⟩
theorem gXVw_5 {a b : Prop} (kZ : b) (h : HidB b → a := by intro kZ; refine gX ?_; refine DVw_0 ?_; refine exI ?_; exact kZ.out) : a := h ⟨kZ⟩
theorem gX0Vw_6 {a b : Prop} (kZ : b) (h : HidB b → a := by intro kZ; refine gX0 ?_; refine DVw_0 ?_; refine exI ?_; exact kZ.out) : a := h ⟨kZ⟩
theorem zz1 {a b : Prop} (kZ : b) (h : HidB b → a := by intro kZ; refine qX ?_; refine DVw_0 ?_; exact kZ.out) : a := h ⟨kZ⟩
theorem zkc {a b : Prop} (kZ : b) (h : HidB b → a := by intro kZ; refine sX ?_; refine DVw_0 ?_; exact kZ.out) : a := h ⟨kZ⟩
theorem zz2 {a b : Prop} (kZ : b) (h : HidB b → a := by intro kZ; refine gX ?_; refine DVw_0 ?_; exact kZ.out) : a := h ⟨kZ⟩
theorem dXEVw_10 {a b : Prop} (kZ : b) (h : HidB b → a := by intro kZ; refine dX ?_; refine DVw_0 ?_; exact kZ.out) : a := h ⟨kZ⟩

open Go.Aut
attribute [local irreducible] z0q z1z zl z02 z18 putB mvRow mvR mvA
noncomputable def gx33 : Ctx := { P := Tryd.prog, ty := ty, glob := gl, fs := [(90, .flat placeS)] }
theorem z4l : gx33.OK := ⟨tyOK, ⟨⟨z07 Tryd.func90 (by kernel_rfl) rfl, place_ok⟩, trivial⟩, mixed⟩
@[simp] theorem gx33_ty : gx33.ty = ty := rfl

def movedS : QSpec := fun vs K => ∃ (d : Dfa) (s : Nat), vs = [dfaV d, .c (.int .i64 (s : Nat))] ∧ (d.good ∧ s < d.next.length) ∧ K (dfaV (z5n d s))
set_option maxHeartbeats 1000000 in
set_option maxRecDepth 4000 in
theorem moved_ok : z2p Tryd.prog gl 33 movedS := by
 refine z2e (Γ := gx33) (N := 62) Tryd.func33 rfl rfl fun vs K h => ?_; obtain ⟨d, s, rfl, ⟨hd, hs⟩, h⟩ := h; refine ⟨_, h, zd4 _, by simp, fun w I => ?_⟩
 have hd1 := hd.2
 have hda := hd.1.alen
 have hrow : ∀ i, i < d.next.length → (d.next.getD i []).length ≤ 256 := fun i hi => by rw [(hd.1.rows _ (z2i (d := []) hi)).1]; exact hd.1.cmax
 refine seq_k fun _ hK1 => ?_; refine z00 z4l fun _ hK2 => ?_
 iterate 2 refine z5y ?_
 refine s_nil ?_; apply hK2; apply hK1; refine seq_k fun _ hK3 => ?_; refine z00 z4l fun _ hK4 => ?_
 iterate 4 refine z5y ?_
 refine zp7 ?_; refine s_nil ?_; apply hK4; apply hK3; refine seq_k fun _ hK5 => ?_; refine seq_k fun _ hK6 => ?_; refine z00 z4l fun _ hK7 => ?_; refine z5y ?_; refine s_nil ?_; apply hK7; apply hK6; refine z09 ?_
 refine z4v 2 1 51 (.cells []) rfl rfl rfl (fun _ h => by cases h) ?_
 refine z4v 2 2 4 (.bools []) rfl rfl rfl trivial ?_; refine z0t (α := Nat × Nat × Nat) (fun g => [(1, .c (.int .i64 (s : Nat))), (2, .c (.dp (dfaC d) 0)), (4, .c (.ptr 0 0)), (5, .c (.ptr 1 0)), (6, .c (.int .i64 (g.1 : Nat)))]) (fun g => [(0, .own 30 (.cells [.nils, .nils, .nils]) 3), (1, .own 30 (.cells [.ds d.nc (.u64s d.cls), .slice 2 0 g.1 g.2.1, .slice 3 0 g.1 g.2.2]) 3), (2, .own 51 (.cells (rowsC (mvR d s g.1))) g.2.1), (3, .own 4 (.bools (mvA d s g.1)) g.2.2)]) 4 (fun g => g.1 ≤ d.next.length ∧ g.1 ≤ g.2.1 ∧ g.1 ≤ g.2.2) (fun g => d.next.length - g.1) ?_ ?_
 ·refine dnS [0] (fun i => i + 1) (0, 0, 0) ⟨Nat.zero_le _, Nat.le_refl _, Nat.le_refl _⟩ [1, 2, 3, 4] uVw_0 uVw_0 uVw_0 uVw_0
 ·intro g hg
  refine seq_k fun _ hK8 => ?_; refine seq_k fun _ hK9 => ?_; refine z00 z4l fun _ hK10 => ?_
  iterate 5 refine z5y ?_
  refine s_nil ?_; apply hK10; apply hK9; refine z08 (b := _) rfl (fun h_t17 => ?_) (fun h_t17 => ?_)
  ·try simp only [dQ, if_true, if_false, reduceIte] at h_t17
   refine z0c ?_; apply hK8; refine seq_k fun _ hK11 => ?_; refine z09 ?_; refine seq_k fun _ hK12 => ?_
   have hgl : g.1 < d.next.length := by omega
   have hpl := zim hgl hs
   have hfr := hrow _ hpl
   refine z75 z4l (by kernel_rfl) fun _ hK13 => ?_
   iterate 4 refine zyz ?_
   refine zz1 ?_; refine ⟨(g.1 : Int), (s : Int), rfl, ?_⟩; refine DVw_0 ?_
   first | refine exA (.c (.int .i64 (((plN g.1 s : Nat) : Int)))) (as_eq (congrArg (fun v => SV.c (Cell.int IntKind.i64 v)) (zhd _ _))) ?_ | (intro cap4 hcap4; refine exA (.c (.int .i64 (((plN g.1 s : Nat) : Int)))) (as_eq (congrArg (fun v => SV.c (Cell.int IntKind.i64 v)) (zhd _ _))) ?_)
   refine zyz ?_; refine zz1 ?_; refine exA (.c (.ds (d.next.getD (plN g.1 s) []).length (.ints .i64 (d.next.getD (plN g.1 s) [])))) (as_eq (congrArg SV.c (z6y ⟨hpl, by omega⟩))) ?_; refine zyz ?_; refine q_nil ?_; apply hK13; apply hK12; refine seq_k fun _ hK14 => ?_; refine z00 z4l fun _ hK15 => ?_
   iterate 2 refine z5y ?_
   refine s_nil ?_; apply hK15; apply hK14; refine seq_k fun _ hK16 => ?_; refine seq_k fun _ hK17 => ?_; refine z00 z4l fun _ hK18 => ?_; refine z5y ?_; refine s_nil ?_; apply hK18; apply hK17; refine z09 ?_; refine z0t (α := Nat × Nat) (fun k => [(1, .c (.int .i64 (s : Nat))), (2, .c (.dp (dfaC d) 0)), (4, .c (.ptr 0 0)), (5, .c (.ptr 1 0)), (6, .c (.int .i64 (g.1 : Nat))), (7, .c (.ds (d.next.getD (plN g.1 s) []).length (.ints .i64 (d.next.getD (plN g.1 s) [])))), (8, .c (.slice 4 0 k.1 k.2)), (9, .c (.int .i64 (k.1 : Nat)))]) (fun k => [(0, .own 30 (.cells [.nils, .nils, .nils]) 3), (1, .own 30 (.cells [.ds d.nc (.u64s d.cls), .slice 2 0 g.1 g.2.1, .slice 3 0 g.1 g.2.2]) 3), (2, .own 51 (.cells (rowsC (mvR d s g.1))) g.2.1), (3, .own 4 (.bools (mvA d s g.1)) g.2.2), (4, .own 3 (.ints .i64 (mvRow (d.next.getD (plN g.1 s) []) s k.1)) k.2)]) 5 (fun k => k.1 ≤ (d.next.getD (plN g.1 s) []).length ∧ k.1 ≤ k.2) (fun k => (d.next.getD (plN g.1 s) []).length - k.1) ?_ ?_
   ·refine dnS [] id (0, 0) ⟨Nat.zero_le _, Nat.le_refl _⟩ [0, 1, 2, 3, 4] uVw_0 uVw_0 uVw_0 uVw_0
   ·intro k hk
    refine seq_k fun _ hK19 => ?_; refine seq_k fun _ hK20 => ?_; refine z00 z4l fun _ hK21 => ?_
    iterate 4 refine z5y ?_
    refine s_nil ?_; apply hK21; apply hK20; refine z08 (b := _) rfl (fun h_t31 => ?_) (fun h_t31 => ?_)
    ·try simp only [dQ, if_true, if_false, reduceIte] at h_t31
     refine z0c ?_; apply hK19; refine seq_k fun _ hK22 => ?_; refine z09 ?_
     have hkl : k.1 < (d.next.getD (plN g.1 s) []).length := by omega
     refine z00 z4l fun _ hK23 => ?_
     iterate 4 refine z5y ?_
     refine zkc ?_; refine exA (.c (.int .i64 ((d.next.getD (plN g.1 s) []).getD k.1 0))) (as_eq (congrArg (fun v => SV.c (Cell.int IntKind.i64 v)) (congrArg (fun i => (d.next.getD (plN g.1 s) []).getD i 0) (by omega)))) ?_; refine z5y ?_; refine zkc ?_; refine ⟨(d.next.getD (plN g.1 s) []).getD k.1 0, (s : Int), rfl, ?_⟩; refine DVw_0 ?_
     first | refine exI ?_ | (intro cap6 hcap6; refine exI ?_)
     refine z5y ?_; refine zkc ?_; intro cap8 hcap8; refine exI ?_; refine z5y ?_; refine s_nil ?_; apply hK23; refine z0b ?_; apply hK22; refine z00 z4l fun _ hK24 => ?_
     iterate 3 refine z5y ?_
     refine s_nil ?_; apply hK24; refine dnS [] (fun i => if i = 4 then 6 else i) (k.1 + 1, cap8) ⟨⟨by omega, by omega⟩, by omega⟩ [0, 1, 2, 3, 6] uVw_0 uVw_0 uVw_0 uVw_0
    ·try simp only [dQ, if_true, if_false, reduceIte] at h_t31
     refine z0r ?_; refine z05 ?_; refine z05 ?_; refine z0m ?_; apply hK16; refine seq_k fun _ hK25 => ?_
     obtain hj : k.1 = (d.next.getD (plN g.1 s) []).length := by omega
     refine leW [4] id [(1, .c (.int .i64 (s : Nat))), (2, .c (.dp (dfaC d) 0)), (4, .c (.ptr 0 0)), (5, .c (.ptr 1 0)), (6, .c (.int .i64 (g.1 : Nat))), (8, .c (.ds (d.next.getD (plN g.1 s) []).length (.ints .i64 (mvRow (d.next.getD (plN g.1 s) []) s (d.next.getD (plN g.1 s) []).length))))] [(0, .own 30 (.cells [.nils, .nils, .nils]) 3), (1, .own 30 (.cells [.ds d.nc (.u64s d.cls), .slice 2 0 g.1 g.2.1, .slice 3 0 g.1 g.2.2]) 3), (2, .own 51 (.cells (rowsC (mvR d s g.1))) g.2.1), (3, .own 4 (.bools (mvA d s g.1)) g.2.2)] 4 [0, 1, 2, 3] uVw_0 uVw_0 uVw_0 uVw_0 ?_; refine z00 z4l fun _ hK26 => ?_
     iterate 4 refine z5y ?_
     refine zkc ?_; intro cap4 hcap4; refine exI ?_; refine z5y ?_; refine zp7 ?_; refine s_nil ?_; apply hK26; apply hK25; refine z3l z4l [(0, true), (1, true), (2, true), (3, true), (4, true), (5, true), (6, false), (7, true), (8, true), (9, false), (10, false), (11, true), (12, false)] rfl (by kernel_rfl) (by kernel_rfl) fun _ hK27 => ?_
     iterate 6 refine zz0 ?_
     refine zz2 ?_; refine ⟨(g.1 : Int), (s : Int), rfl, ?_⟩; refine DVw_0 ?_
     first | refine exA (.c (.int .i64 (((plN g.1 s : Nat) : Int)))) (as_eq (congrArg (fun v => SV.c (Cell.int IntKind.i64 v)) (zhd _ _))) ?_ | (intro cap6 hcap6; refine exA (.c (.int .i64 (((plN g.1 s : Nat) : Int)))) (as_eq (congrArg (fun v => SV.c (Cell.int IntKind.i64 v)) (zhd _ _))) ?_)
     refine zz0 ?_; refine dXEVw_10 ?_; refine exA (.c (.bool (d.acc.getD (plN g.1 s) false))) (as_eq (congrArg (fun v => SV.c (Cell.bool v)) (congrArg (fun i => d.acc.getD i false) (by omega)))) ?_; refine gXVw_5 ?_; refine zz2 ?_; intro cap10 hcap10; refine exI ?_; refine zz0 ?_; refine gX0Vw_6 ?_; refine d_nil ?_; apply hK27; refine z0b ?_; apply hK11; refine z00 z4l fun _ hK28 => ?_
     iterate 3 refine z5y ?_
     refine s_nil ?_; apply hK28; refine dnS [] (fun i => if i = 2 then 5 else if i = 3 then 7 else i) (g.1 + 1, cap4, cap10) ⟨⟨by omega, by omega, by omega⟩, by omega⟩ [0, 1, 5, 7] uVw_0 uVw_0 uVw_0 uVw_0
  ·try simp only [dQ, if_true, if_false, reduceIte] at h_t17
   refine z0r ?_; refine z05 ?_; refine z05 ?_; refine z0m ?_; apply hK5; refine seq_k fun _ hK29 => ?_; refine z00 z4l fun _ hK30 => ?_; refine z5y ?_; refine zp7 ?_; refine s_nil ?_; apply hK30; apply hK29
   obtain hsn : g.1 = d.next.length := by omega
   rw [hsn]; refine z0f (z0n z4l (fun _ _ h => h) (zd4 _) [2, 3] [.cell 4 30] rfl ?_)
   all_goals exact uVw_0


end Go.Proofs.YtppmnaoollkboaaDoor
