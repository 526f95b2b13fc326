/- The law of the algebra of automata. -/
import Derived.Test.YtppmnaoollkboaaDoorWVt
import Derived.Test.YtppmnaoollkboaaDoorQo
namespace Go.Proofs.YtppmnaoollkboaaDoor
set_option linter.all false
open Go.Ab Go.RowKit

theorem qVu0 {a : Prop} (h : a := by first | exact vcA | (simp <;> omega) | exact ⟨by omega, by omega⟩ | exact vcB) : a := h
theorem uVu_0 {a : Prop} (h : a := by
    repeat' (first | exact pT  | exact trivial | refine aI ?_ ?_ | exact cC0 | refine low_cons' ?_ ?_ | exact cC1 | fail)
    all_goals first | omega | exact z1f _ | exact z1d _ | (simp; done) | (show Cont.u8s _ = _; simp; done)| (show (0 : Nat) < (z02 _ _ _ _).length; rw [z01 hcl]; decide) | (simp [-List.reduceReplicate]; done) | (simp [-List.reduceReplicate] <;> omega) | skip) : a := h
theorem DVu_0 {a b : Prop} (kZ : b) (h : HidB b → a := by intro kZ; (repeat first | refine aI qVu0 ?_ | refine z06 qVu0 ?_ | refine z04 qVu0 ?_ | refine z0k qVu0 ?_ | refine z0a ?_); exact kZ.out) : a := h ⟨kZ⟩
theorem z14 {a b : Prop} (kZ : b) (h : HidB b → a := by intro kZ; refine sX ?_; refine DVu_0 ?_; refine exI ?_; exact kZ.out) : a := h ⟨kZ⟩
theorem gX0Vu_2 {a b : Prop} (kZ : b) (h : HidB b → a := by intro kZ; refine gX0 ?_; refine DVu_0 ?_; refine exI ?_; exact kZ.out) : a := h ⟨kZ⟩
theorem dXVu_3 {a b : Prop} (kZ : b) (h : HidB b → a := by intro kZ; refine dX ?_; refine DVu_0 ?_; refine exI ?_; exact kZ.out) : a := h ⟨kZ⟩
theorem z7e {a b : Prop} (kZ : b) (h : HidB b → a := by intro kZ; refine sX0 ?_; refine DVu_0 ?_; refine exI ?_; exact kZ.out) : a := h ⟨kZ⟩
theorem z4m {a b : Prop} (kZ : b) (h : HidB b → a := by intro kZ; refine sXT ?_; refine DVu_0 ?_; refine exI ?_; exact kZ.out) : a := h ⟨kZ⟩
theorem z2f {a b : Prop} (kZ : b) (h : HidB b → a := by intro kZ; refine sX ?_; refine DVu_0 ?_; exact kZ.out) : a := h ⟨kZ⟩
theorem zke {a b : Prop} (kZ : b) (h : HidB b → a := by intro kZ; refine sXT ?_; refine DVu_0 ?_; exact kZ.out) : a := h ⟨kZ⟩

open Go.Aut
def wordNS : QSpec := fun vs K => vs = [.c .nils] ∧ K (resV (wordR []))
theorem wordN_ok : z2p Tryd.prog gl 27 wordNS := by
 rintro vs K ⟨rfl, hq⟩
 obtain ⟨v, hK, hlow, hc⟩ := zx7 [.c (.ds ([] : List UInt8).length (.u8s []))] K ⟨[], rfl, by decide, hq⟩; refine ⟨v, hK, hlow, fun I w xs hG hlt hA => hc I w xs hG hlt ⟨hA.1, fun j u hu => ?_⟩⟩
 cases j with
 | zero =>
  cases hu; obtain ⟨x, hx, hr, hl⟩ := hA.2 0 (.c .nils) rfl
  have hx' := (SV.rel_flat (x := .c .nils) rfl).1 hr
  subst hx'; exact ⟨_, hx, CellD.ds0 (.u8s []) _ _ rfl, trivial⟩
 | succ j => cases hu
theorem word_nil : wordR [] = (wD [], 0) := znq (by decide)
theorem catB_nil (L : List Nat → Bool) (w : List Nat) : catB (langW []) L w = L w := by
  rw [Bool.eq_iff_iff, z3z]
  constructor
  · rintro ⟨u, v, rfl, h1, h2⟩
    rw [show u = [] from of_decide_eq_true h1]; exact h2
  · exact fun h => ⟨[], w, rfl, decide_eq_true rfl, h⟩
theorem unit_cat {d : Dfa} (h : d.good) (hn : d.next.length ≤ 5) : z3d (wD []) d = (canD (langD d), 0) := by
  have h0 : ([] : List UInt8).length ≤ 62 := by decide
  have gu := zyg h0
  have nu : (wD []).next.length ≤ 2 := (z7z h0).2.2
  have gc := (z42 h).1
  have nc : (canD (langD d)).next.length ≤ 5 := Nat.le_trans (can_len h) hn
  have hs := zmi (x := tabD (wD [])) (y := tabD (canD (langD d))) (z0y gu) (z0y gc).1 (n := 5) (by decide) (by decide) nc (q := 4096) (Nat.le_trans (Nat.mul_le_mul_right _ nu) (by decide))
  have e : canD (catB (langD (wD [])) (langD d)) = canD (langD d) := z1n fun w hw => by
    rw [Go.Aut.catB_congr (fun w hw => wD_lang h0 hw) (fun _ _ => rfl) hw]; exact catB_nil _ w
  rw [z3d, if_pos ⟨z0w gu, z0w h⟩, canD_wD h0, if_neg hs, e, limL, if_neg (by omega)]
theorem starW {d : Dfa} (wd : d.wf) : ∃ (c : Dfa) (n : Nat), starR d = (c, n) ∧ c.wf ∧ (n = 0 → d.good ∧ c = canD (starB (langD d)) ∧ c.good) := by
  by_cases hd : z0s d = true
  · have gd := (z1o wd).1 hd
    rcases zyl gd with h | ⟨h, hg⟩
    · exact ⟨_, _, h, zeb, fun e => by cases e⟩
    · exact ⟨_, _, h, z2v hg, fun _ => ⟨gd, rfl, hg⟩⟩
  · exact ⟨noD, 1, by rw [starR, if_neg hd], zeb, fun e => by cases e⟩
theorem ztn {d s t : Dfa} (h1 : s = canD (starB (langD d)) ∧ s.good) (h2 : t = canD (starB (langD s))) : t = s := by
  obtain ⟨e1, g1⟩ := h1
  have l1 : ∀ w, Bytes w → langD s w = starB (langD d) w := by rw [e1] at g1 ⊢; exact (z65 g1).2
  rw [h2, e1]; rw [← e1]; rw [e1]
  exact z1n fun w hw => by rw [← e1, Go.Aut.starB_congr l1 hw, zth]
theorem zz7 {d e p q a : Dfa} (hp : ∀ w, Bytes w → langD p w = !langD d w) (hq : ∀ w, Bytes w → langD q w = !langD e w) (ha : ∀ w, Bytes w → langD a w = (langD d w && langD e w)) : canD (combB (fun x y => x || y) p q) = canD fun w => !langD a w := z1n fun w hw => by
  show (langD p w || langD q w) = !langD a w
  rw [hp w hw, hq w hw, ha w hw, Bool.not_and]
attribute [local irreducible] z0q z1z zl z02 z18 putB madeD
noncomputable def gx11 : Ctx := { P := Tryd.prog, ty := ty, glob := gl, fs := [(20, .flat zp4), (21, .data madeS), (47, .data notAS), (36, .data andAS), (38, .data orAS), (28, .flat sameS), (27, .data wordNS), (23, .data zez), (30, .data zx4), (24, .data zy3), (52, .flat zrw)] }
theorem z0e : gx11.OK := ⟨tyOK, ⟨⟨z07 Tryd.func20 (by kernel_rfl) rfl, zmk⟩, ⟨z07 Tryd.func21 (by kernel_rfl) rfl, zya⟩, ⟨z07 Tryd.func47 (by kernel_rfl) rfl, notA_ok⟩, ⟨z07 Tryd.func36 (by kernel_rfl) rfl, andA_ok⟩, ⟨z07 Tryd.func38 (by kernel_rfl) rfl, orA_ok⟩, ⟨z07 Tryd.func28 (by kernel_rfl) rfl, zk8⟩, ⟨z07 Tryd.func27 (by kernel_rfl) rfl, wordN_ok⟩, ⟨z07 Tryd.func23 (by kernel_rfl) rfl, zde⟩, ⟨z07 Tryd.func30 (by kernel_rfl) rfl, zr0⟩, ⟨z07 Tryd.func24 (by kernel_rfl) rfl, zrn⟩, ⟨z07 Tryd.func52 (by kernel_rfl) rfl, ztm⟩, trivial⟩, mixed⟩
@[simp] theorem gx11_ty : gx11.ty = ty := rfl

def zpa : QSpec := fun vs K => ∃ (a0 : UInt8) (l0 : List UInt8) (m0 : UInt8) (a1 : UInt8) (l1 : List UInt8) (m1 : UInt8) (a2 : UInt8) (l2 : List UInt8) (m2 : UInt8), vs = [shpV a0 l0 m0, shpV a1 l1 m1, shpV a2 l2 m2] ∧ (l0.length ≤ 9223372036854775807 ∧ l1.length ≤ 9223372036854775807 ∧ l2.length ≤ 9223372036854775807) ∧ K (.c (.bool true))
set_option maxHeartbeats 8000000 in
set_option maxRecDepth 4000 in
theorem zkf : z16 Tryd.prog gl 11 zpa := by
 refine z1a (Γ := gx11) (N := 147) Tryd.func11 rfl rfl fun vs K h => ?_; obtain ⟨a0, l0, m0, a1, l1, m1, a2, l2, m2, rfl, ⟨hl0, hl1, hl2⟩, h⟩ := h; refine ⟨_, h, rfl, by simp, fun w I => ?_⟩; obtain ⟨d0, hd0⟩ : ∃ d, madeD a0 l0 m0 = d := ⟨_, rfl⟩
 have g0 : d0.good := hd0 ▸ zca a0 l0 m0
 have w0 := z2v g0
 have n0 : d0.next.length ≤ 5 := by rw [← hd0, zc9]; exact (zc8 a0).2
 obtain ⟨d1, hd1⟩ : ∃ d, madeD a1 l1 m1 = d := ⟨_, rfl⟩
 have g1 : d1.good := hd1 ▸ zca a1 l1 m1
 have w1 := z2v g1
 have n1 : d1.next.length ≤ 5 := by rw [← hd1, zc9]; exact (zc8 a1).2
 obtain ⟨d2, hd2⟩ : ∃ d, madeD a2 l2 m2 = d := ⟨_, rfl⟩
 have g2 : d2.good := hd2 ▸ zca a2 l2 m2
 have w2 := z2v g2
 have n2 : d2.next.length ≤ 5 := by rw [← hd2, zc9]; exact (zc8 a2).2
 obtain ⟨rP, gP, nP⟩ := zp3 g0; obtain ⟨rQ, gQ, nQ⟩ := zp3 g1; obtain ⟨rA, gA, _⟩ := zrt (op := (fun x y => x && y)) g0 g1 (Nat.le_trans (Nat.mul_le_mul n0 n1) (by decide))
 have LP := (z65 gP).2
 have LQ := (z65 gQ).2
 have LA := (z65 gA).2
 obtain ⟨cP, eP⟩ : ∃ c, (canD fun w => !langD d0 w) = c := ⟨_, rfl⟩; rw [eP] at rP gP nP LP; obtain ⟨cQ, eQ⟩ : ∃ c, (canD fun w => !langD d1 w) = c := ⟨_, rfl⟩; rw [eQ] at rQ gQ nQ LQ; obtain ⟨cA, eA⟩ : ∃ c, canD (combB (fun x y => x && y) d0 d1) = c := ⟨_, rfl⟩; rw [eA] at rA gA LA; obtain ⟨rO, gO, _⟩ := zrt (op := (fun x y => x || y)) gP gQ (Nat.le_trans (Nat.mul_le_mul (Nat.le_trans nP n0) (Nat.le_trans nQ n1)) (by decide)); obtain ⟨rN, gN, _⟩ := zp3 gA
 have hON := zz7 LP LQ LA
 obtain ⟨cO, eO⟩ : ∃ c, canD (combB (fun x y => x || y) cP cQ) = c := ⟨_, rfl⟩; rw [eO] at rO gO hON; obtain ⟨cN', eN⟩ : ∃ c, (canD fun w => !langD cA w) = c := ⟨_, rfl⟩; rw [eN] at rN gN hON
 have rU := unit_cat g0 n0
 have gC := (z42 g0).1
 have rC := canR g0
 obtain ⟨cC, eC⟩ : ∃ c, canD (langD d0) = c := ⟨_, rfl⟩; rw [eC] at rU gC rC; obtain ⟨cS, mS, rS, vS, tS⟩ := starW w0; obtain ⟨cT, mT, rT, vT, tT⟩ := starW vS
 have hST : mS = 0 → mT = 0 → cT = cS := fun a b => ztn (tS a).2 (tT b).2.1
 have vP := z2v gP
 have vQ := z2v gQ
 have vA := z2v gA
 have vO := z2v gO
 have vN := z2v gN
 have vC := z2v gC
 have gU := zyg (x := []) (by decide)
 have vU := z2v gU
 refine seq_k fun _ hK1 => ?_; refine z00 z0e fun _ hK2 => ?_
 iterate 4 refine z14 ?_
 refine s_nil ?_; apply hK2; apply hK1; refine seq_k fun _ hK3 => ?_; refine z00 z0e fun _ hK4 => ?_
 iterate 2 refine z14 ?_
 refine s_nil ?_; apply hK4; apply hK3; refine zbm (α := Unit) (fun _ => [(7, .c (.bool true)), (8, .c (.dp (dfaC d0) 0)), (9, .c (.dp (dfaC d1) 0)), (10, .c (.dp (dfaC d2) 0))]) (fun _ => []) 0 (fun _ => True) ?_ ?_
 ·refine leW [0, 1, 2] id [(3, .c (.dp (.cells [.u8 a0, .ds l0.length (.u8s l0), .u8 m0]) 0)), (4, .c (.dp (.cells [.u8 a1, .ds l1.length (.u8s l1), .u8 m1]) 0)), (5, .c (.dp (.cells [.u8 a2, .ds l2.length (.u8s l2), .u8 m2]) 0)), (7, .c (.bool true))] [] 0 [] uVu_0 uVu_0 uVu_0 uVu_0 ?_
  refine zpp z0e ?_; refine z0j 3 #[true, true, true, true, true, true, true, true, true, false, false, false] [(7, .c (.bool true)), (33, dfaV d0), (35, dfaV d1), (37, dfaV d2), (8, .c (.ptr 0 0)), (9, .c (.ptr 1 0)), (10, .c (.ptr 2 0))] [(0, .own 30 (.cells [.nils, .nils, .nils]) 3), (1, .own 30 (.cells [.nils, .nils, .nils]) 3), (2, .own 30 (.cells [.nils, .nils, .nils]) 3)] 3 ?_ fun nd_1_3_5_6_7_8 => ?_
  ·refine z4a z0e (g := 0) (by kernel_rfl) [(9, false), (10, false), (11, false)] (by kernel_rfl) fun _ hK6 => ?_
   iterate 3 refine gX0Vu_2 ?_
   refine d_nil ?_; apply hK6; refine z3n (by kernel_rfl) ?_; refine dnS [0, 1, 2] id () trivial [] uVu_0 uVu_0 uVu_0 uVu_0
  refine z0j 4 #[true, true, true, true, true, true, true, true, false, false, false, false] [(7, .c (.bool true)), (33, dfaV d0), (35, dfaV d1), (37, dfaV d2), (8, .c (.ptr 0 0)), (9, .c (.ptr 1 0))] [(0, .own 30 (.cells [.nils, .nils, .nils]) 3), (1, .own 30 (.cells [.nils, .nils, .nils]) 3)] 2 ?_ fun nd_1_3_5_6_7 => ?_
  ·refine z0u [8] (by kernel_rfl) (by decide) (List.forall_mem_cons.2 ⟨?_, fun _ h => by cases h⟩)
   ·refine z03 z0e ?_
    refine DVu_0 ?_; refine exI ?_; refine bleW [] (fun i => i) [0, 1, 2] nd_1_3_5_6_7_8 (by kernel_rfl) uVu_0 uVu_0 uVu_0 uVu_0
  refine z0j 4 #[true, true, true, true, true, true, true, false, true, false, false, false] [(7, .c (.bool true)), (33, dfaV d0), (35, dfaV d1), (37, dfaV d2), (8, .c (.ptr 0 0)), (10, .c (.ptr 1 0))] [(0, .own 30 (.cells [.nils, .nils, .nils]) 3), (1, .own 30 (.cells [.nils, .nils, .nils]) 3)] 2 ?_ fun nd_1_3_5_6_8 => ?_
  ·refine z0u [7] (by kernel_rfl) (by decide) (List.forall_mem_cons.2 ⟨?_, fun _ h => by cases h⟩)
   ·refine z03 z0e ?_
    refine DVu_0 ?_; refine exI ?_; refine bleW [] (fun i => if i = 1 then 2 else if i = 2 then 1 else i) [0, 2, 1] nd_1_3_5_6_7_8 (by kernel_rfl) uVu_0 uVu_0 uVu_0 uVu_0
  refine z0j 4 #[true, true, true, true, true, true, false, true, true, false, false, false] [(7, .c (.bool true)), (33, dfaV d0), (35, dfaV d1), (37, dfaV d2), (9, .c (.ptr 0 0)), (10, .c (.ptr 1 0))] [(0, .own 30 (.cells [.nils, .nils, .nils]) 3), (1, .own 30 (.cells [.nils, .nils, .nils]) 3)] 2 ?_ fun nd_1_3_5_7_8 => ?_
  ·refine z0u [6] (by kernel_rfl) (by decide) (List.forall_mem_cons.2 ⟨?_, fun _ h => by cases h⟩)
   ·refine z03 z0e ?_
    refine DVu_0 ?_; refine exI ?_; refine bleW [] (fun i => if i = 0 then 2 else if i = 1 then 0 else if i = 2 then 1 else i) [2, 0, 1] nd_1_3_5_6_7_8 (by kernel_rfl) uVu_0 uVu_0 uVu_0 uVu_0
  refine z0j 4 #[true, true, true, true, true, false, true, true, true, false, false, false] [(7, .c (.bool true)), (33, dfaV d0), (35, dfaV d1), (36, shpV a2 l2 m2), (8, .c (.ptr 0 0)), (9, .c (.ptr 1 0)), (10, .c (.ptr 2 0))] [(0, .own 30 (.cells [.nils, .nils, .nils]) 3), (1, .own 30 (.cells [.nils, .nils, .nils]) 3), (2, .own 30 (.cells [.nils, .nils, .nils]) 3)] 3 ?_ fun nd_1_3_6_7_8 => ?_
  ·refine z0u [5] (by kernel_rfl) (by decide) (List.forall_mem_cons.2 ⟨?_, fun _ h => by cases h⟩)
   ·refine z03 z0e ?_
    refine DVu_0 ?_; refine ⟨a2, l2, m2, rfl, hl2, ?_⟩; rw [hd2]; refine DVu_0 ?_
    refine exI ?_
    refine bleW [] (fun i => i) [0, 1, 2] nd_1_3_5_6_7_8 (by kernel_rfl) uVu_0 uVu_0 uVu_0 uVu_0
  refine z0j 5 #[true, true, true, true, true, true, true, false, false, false, false, false] [(7, .c (.bool true)), (33, dfaV d0), (35, dfaV d1), (37, dfaV d2), (8, .c (.ptr 0 0))] [(0, .own 30 (.cells [.nils, .nils, .nils]) 3)] 1 ?_ fun nd_1_3_5_6 => ?_
  ·refine z0u [7, 8] (by kernel_rfl) (by decide) (List.forall_mem_cons.2 ⟨?_, List.forall_mem_cons.2 ⟨?_, fun _ h => by cases h⟩⟩)
   ·refine z03 z0e ?_
    refine DVu_0 ?_; refine exI ?_; refine bleW [] (fun i => i) [0, 1] nd_1_3_5_6_7 (by kernel_rfl) uVu_0 uVu_0 uVu_0 uVu_0
   ·refine z03 z0e ?_
    refine DVu_0 ?_; refine exI ?_; refine bleW [] (fun i => i) [0, 1] nd_1_3_5_6_8 (by kernel_rfl) uVu_0 uVu_0 uVu_0 uVu_0
  refine z0j 5 #[true, true, true, true, true, true, false, true, false, false, false, false] [(7, .c (.bool true)), (33, dfaV d0), (35, dfaV d1), (37, dfaV d2), (9, .c (.ptr 0 0))] [(0, .own 30 (.cells [.nils, .nils, .nils]) 3)] 1 ?_ fun nd_1_3_5_7 => ?_
  ·refine z0u [6, 8] (by kernel_rfl) (by decide) (List.forall_mem_cons.2 ⟨?_, List.forall_mem_cons.2 ⟨?_, fun _ h => by cases h⟩⟩)
   ·refine z03 z0e ?_
    refine DVu_0 ?_; refine exI ?_; refine bleW [] (fun i => if i = 0 then 1 else if i = 1 then 0 else i) [1, 0] nd_1_3_5_6_7 (by kernel_rfl) uVu_0 uVu_0 uVu_0 uVu_0
   ·refine z03 z0e ?_
    refine DVu_0 ?_; refine exI ?_; refine bleW [] (fun i => i) [0, 1] nd_1_3_5_7_8 (by kernel_rfl) uVu_0 uVu_0 uVu_0 uVu_0
  refine z0j 5 #[true, true, true, true, true, true, false, false, true, false, false, false] [(7, .c (.bool true)), (33, dfaV d0), (35, dfaV d1), (37, dfaV d2), (10, .c (.ptr 0 0))] [(0, .own 30 (.cells [.nils, .nils, .nils]) 3)] 1 ?_ fun nd_1_3_5_8 => ?_
  ·refine z0u [6, 7] (by kernel_rfl) (by decide) (List.forall_mem_cons.2 ⟨?_, List.forall_mem_cons.2 ⟨?_, fun _ h => by cases h⟩⟩)
   ·refine z03 z0e ?_
    refine DVu_0 ?_; refine exI ?_; refine bleW [] (fun i => if i = 0 then 1 else if i = 1 then 0 else i) [1, 0] nd_1_3_5_6_8 (by kernel_rfl) uVu_0 uVu_0 uVu_0 uVu_0
   ·refine z03 z0e ?_
    refine DVu_0 ?_; refine exI ?_; refine bleW [] (fun i => if i = 0 then 1 else if i = 1 then 0 else i) [1, 0] nd_1_3_5_7_8 (by kernel_rfl) uVu_0 uVu_0 uVu_0 uVu_0
  refine z0j 5 #[true, true, true, true, true, false, true, true, false, false, false, false] [(7, .c (.bool true)), (33, dfaV d0), (35, dfaV d1), (36, shpV a2 l2 m2), (8, .c (.ptr 0 0)), (9, .c (.ptr 1 0))] [(0, .own 30 (.cells [.nils, .nils, .nils]) 3), (1, .own 30 (.cells [.nils, .nils, .nils]) 3)] 2 ?_ fun nd_1_3_6_7 => ?_
  ·refine z0u [5, 8] (by kernel_rfl) (by decide) (List.forall_mem_cons.2 ⟨?_, List.forall_mem_cons.2 ⟨?_, fun _ h => by cases h⟩⟩)
   ·refine z03 z0e ?_
    refine DVu_0 ?_; refine ⟨a2, l2, m2, rfl, hl2, ?_⟩; rw [hd2]; refine DVu_0 ?_
    refine exI ?_
    refine bleW [] (fun i => i) [0, 1] nd_1_3_5_6_7 (by kernel_rfl) uVu_0 uVu_0 uVu_0 uVu_0
   ·refine z03 z0e ?_
    refine DVu_0 ?_; refine exI ?_; refine bleW [] (fun i => i) [0, 1, 2] nd_1_3_6_7_8 (by kernel_rfl) uVu_0 uVu_0 uVu_0 uVu_0
  refine z0j 5 #[true, true, true, true, true, false, true, false, true, false, false, false] [(7, .c (.bool true)), (33, dfaV d0), (35, dfaV d1), (36, shpV a2 l2 m2), (8, .c (.ptr 0 0)), (10, .c (.ptr 1 0))] [(0, .own 30 (.cells [.nils, .nils, .nils]) 3), (1, .own 30 (.cells [.nils, .nils, .nils]) 3)] 2 ?_ fun nd_1_3_6_8 => ?_
  ·refine z0u [5, 7] (by kernel_rfl) (by decide) (List.forall_mem_cons.2 ⟨?_, List.forall_mem_cons.2 ⟨?_, fun _ h => by cases h⟩⟩)
   ·refine z03 z0e ?_
    refine DVu_0 ?_; refine ⟨a2, l2, m2, rfl, hl2, ?_⟩; rw [hd2]; refine DVu_0 ?_
    refine exI ?_
    refine bleW [] (fun i => i) [0, 1] nd_1_3_5_6_8 (by kernel_rfl) uVu_0 uVu_0 uVu_0 uVu_0
   ·refine z03 z0e ?_
    refine DVu_0 ?_; refine exI ?_; refine bleW [] (fun i => if i = 1 then 2 else if i = 2 then 1 else i) [0, 2, 1] nd_1_3_6_7_8 (by kernel_rfl) uVu_0 uVu_0 uVu_0 uVu_0
  refine z0j 5 #[true, true, true, true, true, false, false, true, true, false, false, false] [(7, .c (.bool true)), (33, dfaV d0), (35, dfaV d1), (36, shpV a2 l2 m2), (9, .c (.ptr 0 0)), (10, .c (.ptr 1 0))] [(0, .own 30 (.cells [.nils, .nils, .nils]) 3), (1, .own 30 (.cells [.nils, .nils, .nils]) 3)] 2 ?_ fun nd_1_3_7_8 => ?_
  ·refine z0u [5, 6] (by kernel_rfl) (by decide) (List.forall_mem_cons.2 ⟨?_, List.forall_mem_cons.2 ⟨?_, fun _ h => by cases h⟩⟩)
   ·refine z03 z0e ?_
    refine DVu_0 ?_; refine ⟨a2, l2, m2, rfl, hl2, ?_⟩; rw [hd2]; refine DVu_0 ?_
    refine exI ?_
    refine bleW [] (fun i => i) [0, 1] nd_1_3_5_7_8 (by kernel_rfl) uVu_0 uVu_0 uVu_0 uVu_0
   ·refine z03 z0e ?_
    refine DVu_0 ?_; refine exI ?_; refine bleW [] (fun i => if i = 0 then 2 else if i = 1 then 0 else if i = 2 then 1 else i) [2, 0, 1] nd_1_3_6_7_8 (by kernel_rfl) uVu_0 uVu_0 uVu_0 uVu_0
  refine z0j 5 #[true, true, true, false, true, false, true, true, true, false, false, false] [(7, .c (.bool true)), (33, dfaV d0), (34, shpV a1 l1 m1), (36, shpV a2 l2 m2), (8, .c (.ptr 0 0)), (9, .c (.ptr 1 0)), (10, .c (.ptr 2 0))] [(0, .own 30 (.cells [.nils, .nils, .nils]) 3), (1, .own 30 (.cells [.nils, .nils, .nils]) 3), (2, .own 30 (.cells [.nils, .nils, .nils]) 3)] 3 ?_ fun nd_1_6_7_8 => ?_
  ·refine z0u [3] (by kernel_rfl) (by decide) (List.forall_mem_cons.2 ⟨?_, fun _ h => by cases h⟩)
   ·refine z03 z0e ?_
    refine DVu_0 ?_; refine ⟨a1, l1, m1, rfl, hl1, ?_⟩; rw [hd1]; refine DVu_0 ?_
    refine exI ?_
    refine bleW [] (fun i => i) [0, 1, 2] nd_1_3_6_7_8 (by kernel_rfl) uVu_0 uVu_0 uVu_0 uVu_0
  refine z0j 6 #[true, true, true, true, true, true, false, false, false, false, false, false] [(7, .c (.bool true)), (33, dfaV d0), (35, dfaV d1), (37, dfaV d2)] [] 0 ?_ fun nd_1_3_5 => ?_
  ·refine z0u [6, 7, 8] (by kernel_rfl) (by decide) (List.forall_mem_cons.2 ⟨?_, List.forall_mem_cons.2 ⟨?_, List.forall_mem_cons.2 ⟨?_, fun _ h => by cases h⟩⟩⟩)
   ·refine z03 z0e ?_
    refine DVu_0 ?_; refine exI ?_; refine bleW [] (fun i => i) [0] nd_1_3_5_6 (by kernel_rfl) uVu_0 uVu_0 uVu_0 uVu_0
   ·refine z03 z0e ?_
    refine DVu_0 ?_; refine exI ?_; refine bleW [] (fun i => i) [0] nd_1_3_5_7 (by kernel_rfl) uVu_0 uVu_0 uVu_0 uVu_0
   ·refine z03 z0e ?_
    refine DVu_0 ?_; refine exI ?_; refine bleW [] (fun i => i) [0] nd_1_3_5_8 (by kernel_rfl) uVu_0 uVu_0 uVu_0 uVu_0
  refine z0j 6 #[true, true, true, true, true, false, true, false, false, false, false, false] [(7, .c (.bool true)), (33, dfaV d0), (35, dfaV d1), (36, shpV a2 l2 m2), (8, .c (.ptr 0 0))] [(0, .own 30 (.cells [.nils, .nils, .nils]) 3)] 1 ?_ fun nd_1_3_6 => ?_
  ·refine z0u [5, 7, 8] (by kernel_rfl) (by decide) (List.forall_mem_cons.2 ⟨?_, List.forall_mem_cons.2 ⟨?_, List.forall_mem_cons.2 ⟨?_, fun _ h => by cases h⟩⟩⟩)
   ·refine z03 z0e ?_
    refine DVu_0 ?_; refine ⟨a2, l2, m2, rfl, hl2, ?_⟩; rw [hd2]; refine DVu_0 ?_
    refine exI ?_
    refine bleW [] (fun i => i) [0] nd_1_3_5_6 (by kernel_rfl) uVu_0 uVu_0 uVu_0 uVu_0
   ·refine z03 z0e ?_
    refine DVu_0 ?_; refine exI ?_; refine bleW [] (fun i => i) [0, 1] nd_1_3_6_7 (by kernel_rfl) uVu_0 uVu_0 uVu_0 uVu_0
   ·refine z03 z0e ?_
    refine DVu_0 ?_; refine exI ?_; refine bleW [] (fun i => i) [0, 1] nd_1_3_6_8 (by kernel_rfl) uVu_0 uVu_0 uVu_0 uVu_0
  refine z0j 6 #[true, true, true, true, true, false, false, true, false, false, false, false] [(7, .c (.bool true)), (33, dfaV d0), (35, dfaV d1), (36, shpV a2 l2 m2), (9, .c (.ptr 0 0))] [(0, .own 30 (.cells [.nils, .nils, .nils]) 3)] 1 ?_ fun nd_1_3_7 => ?_
  ·refine z0u [5, 6, 8] (by kernel_rfl) (by decide) (List.forall_mem_cons.2 ⟨?_, List.forall_mem_cons.2 ⟨?_, List.forall_mem_cons.2 ⟨?_, fun _ h => by cases h⟩⟩⟩)
   ·refine z03 z0e ?_
    refine DVu_0 ?_; refine ⟨a2, l2, m2, rfl, hl2, ?_⟩; rw [hd2]; refine DVu_0 ?_
    refine exI ?_
    refine bleW [] (fun i => i) [0] nd_1_3_5_7 (by kernel_rfl) uVu_0 uVu_0 uVu_0 uVu_0
   ·refine z03 z0e ?_
    refine DVu_0 ?_; refine exI ?_; refine bleW [] (fun i => if i = 0 then 1 else if i = 1 then 0 else i) [1, 0] nd_1_3_6_7 (by kernel_rfl) uVu_0 uVu_0 uVu_0 uVu_0
   ·refine z03 z0e ?_
    refine DVu_0 ?_; refine exI ?_; refine bleW [] (fun i => i) [0, 1] nd_1_3_7_8 (by kernel_rfl) uVu_0 uVu_0 uVu_0 uVu_0
  refine z0j 6 #[true, true, true, true, true, false, false, false, true, false, false, false] [(7, .c (.bool true)), (33, dfaV d0), (35, dfaV d1), (36, shpV a2 l2 m2), (10, .c (.ptr 0 0))] [(0, .own 30 (.cells [.nils, .nils, .nils]) 3)] 1 ?_ fun nd_1_3_8 => ?_
  ·refine z0u [5, 6, 7] (by kernel_rfl) (by decide) (List.forall_mem_cons.2 ⟨?_, List.forall_mem_cons.2 ⟨?_, List.forall_mem_cons.2 ⟨?_, fun _ h => by cases h⟩⟩⟩)
   ·refine z03 z0e ?_
    refine DVu_0 ?_; refine ⟨a2, l2, m2, rfl, hl2, ?_⟩; rw [hd2]; refine DVu_0 ?_
    refine exI ?_
    refine bleW [] (fun i => i) [0] nd_1_3_5_8 (by kernel_rfl) uVu_0 uVu_0 uVu_0 uVu_0
   ·refine z03 z0e ?_
    refine DVu_0 ?_; refine exI ?_; refine bleW [] (fun i => if i = 0 then 1 else if i = 1 then 0 else i) [1, 0] nd_1_3_6_8 (by kernel_rfl) uVu_0 uVu_0 uVu_0 uVu_0
   ·refine z03 z0e ?_
    refine DVu_0 ?_; refine exI ?_; refine bleW [] (fun i => if i = 0 then 1 else if i = 1 then 0 else i) [1, 0] nd_1_3_7_8 (by kernel_rfl) uVu_0 uVu_0 uVu_0 uVu_0
  refine z0j 6 #[true, true, true, false, true, false, true, true, false, false, false, false] [(7, .c (.bool true)), (33, dfaV d0), (34, shpV a1 l1 m1), (36, shpV a2 l2 m2), (8, .c (.ptr 0 0)), (9, .c (.ptr 1 0))] [(0, .own 30 (.cells [.nils, .nils, .nils]) 3), (1, .own 30 (.cells [.nils, .nils, .nils]) 3)] 2 ?_ fun nd_1_6_7 => ?_
  ·refine z0u [3, 8] (by kernel_rfl) (by decide) (List.forall_mem_cons.2 ⟨?_, List.forall_mem_cons.2 ⟨?_, fun _ h => by cases h⟩⟩)
   ·refine z03 z0e ?_
    refine DVu_0 ?_; refine ⟨a1, l1, m1, rfl, hl1, ?_⟩; rw [hd1]; refine DVu_0 ?_
    refine exI ?_
    refine bleW [] (fun i => i) [0, 1] nd_1_3_6_7 (by kernel_rfl) uVu_0 uVu_0 uVu_0 uVu_0
   ·refine z03 z0e ?_
    refine DVu_0 ?_; refine exI ?_; refine bleW [] (fun i => i) [0, 1, 2] nd_1_6_7_8 (by kernel_rfl) uVu_0 uVu_0 uVu_0 uVu_0
  refine z0j 6 #[true, true, true, false, true, false, true, false, true, false, false, false] [(7, .c (.bool true)), (33, dfaV d0), (34, shpV a1 l1 m1), (36, shpV a2 l2 m2), (8, .c (.ptr 0 0)), (10, .c (.ptr 1 0))] [(0, .own 30 (.cells [.nils, .nils, .nils]) 3), (1, .own 30 (.cells [.nils, .nils, .nils]) 3)] 2 ?_ fun nd_1_6_8 => ?_
  ·refine z0u [3, 7] (by kernel_rfl) (by decide) (List.forall_mem_cons.2 ⟨?_, List.forall_mem_cons.2 ⟨?_, fun _ h => by cases h⟩⟩)
   ·refine z03 z0e ?_
    refine DVu_0 ?_; refine ⟨a1, l1, m1, rfl, hl1, ?_⟩; rw [hd1]; refine DVu_0 ?_
    refine exI ?_
    refine bleW [] (fun i => i) [0, 1] nd_1_3_6_8 (by kernel_rfl) uVu_0 uVu_0 uVu_0 uVu_0
   ·refine z03 z0e ?_
    refine DVu_0 ?_; refine exI ?_; refine bleW [] (fun i => if i = 1 then 2 else if i = 2 then 1 else i) [0, 2, 1] nd_1_6_7_8 (by kernel_rfl) uVu_0 uVu_0 uVu_0 uVu_0
  refine z0j 6 #[true, true, true, false, true, false, false, true, true, false, false, false] [(7, .c (.bool true)), (33, dfaV d0), (34, shpV a1 l1 m1), (36, shpV a2 l2 m2), (9, .c (.ptr 0 0)), (10, .c (.ptr 1 0))] [(0, .own 30 (.cells [.nils, .nils, .nils]) 3), (1, .own 30 (.cells [.nils, .nils, .nils]) 3)] 2 ?_ fun nd_1_7_8 => ?_
  ·refine z0u [3, 6] (by kernel_rfl) (by decide) (List.forall_mem_cons.2 ⟨?_, List.forall_mem_cons.2 ⟨?_, fun _ h => by cases h⟩⟩)
   ·refine z03 z0e ?_
    refine DVu_0 ?_; refine ⟨a1, l1, m1, rfl, hl1, ?_⟩; rw [hd1]; refine DVu_0 ?_
    refine exI ?_
    refine bleW [] (fun i => i) [0, 1] nd_1_3_7_8 (by kernel_rfl) uVu_0 uVu_0 uVu_0 uVu_0
   ·refine z03 z0e ?_
    refine DVu_0 ?_; refine exI ?_; refine bleW [] (fun i => if i = 0 then 2 else if i = 1 then 0 else if i = 2 then 1 else i) [2, 0, 1] nd_1_6_7_8 (by kernel_rfl) uVu_0 uVu_0 uVu_0 uVu_0
  refine z0j 6 #[true, false, true, false, true, false, true, true, true, false, false, false] [(7, .c (.bool true)), (32, shpV a0 l0 m0), (34, shpV a1 l1 m1), (36, shpV a2 l2 m2), (8, .c (.ptr 0 0)), (9, .c (.ptr 1 0)), (10, .c (.ptr 2 0))] [(0, .own 30 (.cells [.nils, .nils, .nils]) 3), (1, .own 30 (.cells [.nils, .nils, .nils]) 3), (2, .own 30 (.cells [.nils, .nils, .nils]) 3)] 3 ?_ fun nd_6_7_8 => ?_
  ·refine z0u [1] (by kernel_rfl) (by decide) (List.forall_mem_cons.2 ⟨?_, fun _ h => by cases h⟩)
   ·refine z03 z0e ?_
    refine DVu_0 ?_; refine ⟨a0, l0, m0, rfl, hl0, ?_⟩; rw [hd0]; refine DVu_0 ?_
    refine exI ?_
    refine bleW [] (fun i => i) [0, 1, 2] nd_1_6_7_8 (by kernel_rfl) uVu_0 uVu_0 uVu_0 uVu_0
  refine z0j 7 #[true, true, true, true, true, false, false, false, false, false, false, false] [(7, .c (.bool true)), (33, dfaV d0), (35, dfaV d1), (36, shpV a2 l2 m2)] [] 0 ?_ fun nd_1_3 => ?_
  ·refine z0u [5, 6, 7, 8] (by kernel_rfl) (by decide) (List.forall_mem_cons.2 ⟨?_, List.forall_mem_cons.2 ⟨?_, List.forall_mem_cons.2 ⟨?_, List.forall_mem_cons.2 ⟨?_, fun _ h => by cases h⟩⟩⟩⟩)
   ·refine z03 z0e ?_
    refine DVu_0 ?_; refine ⟨a2, l2, m2, rfl, hl2, ?_⟩; rw [hd2]; refine DVu_0 ?_
    refine exI ?_
    refine bleW [] (fun i => i) [] nd_1_3_5 (by kernel_rfl) uVu_0 uVu_0 uVu_0 uVu_0
   ·refine z03 z0e ?_
    refine DVu_0 ?_; refine exI ?_; refine bleW [] (fun i => i) [0] nd_1_3_6 (by kernel_rfl) uVu_0 uVu_0 uVu_0 uVu_0
   ·refine z03 z0e ?_
    refine DVu_0 ?_; refine exI ?_; refine bleW [] (fun i => i) [0] nd_1_3_7 (by kernel_rfl) uVu_0 uVu_0 uVu_0 uVu_0
   ·refine z03 z0e ?_
    refine DVu_0 ?_; refine exI ?_; refine bleW [] (fun i => i) [0] nd_1_3_8 (by kernel_rfl) uVu_0 uVu_0 uVu_0 uVu_0
  refine z0j 7 #[true, true, true, false, true, false, true, false, false, false, false, false] [(7, .c (.bool true)), (33, dfaV d0), (34, shpV a1 l1 m1), (36, shpV a2 l2 m2), (8, .c (.ptr 0 0))] [(0, .own 30 (.cells [.nils, .nils, .nils]) 3)] 1 ?_ fun nd_1_6 => ?_
  ·refine z0u [3, 7, 8] (by kernel_rfl) (by decide) (List.forall_mem_cons.2 ⟨?_, List.forall_mem_cons.2 ⟨?_, List.forall_mem_cons.2 ⟨?_, fun _ h => by cases h⟩⟩⟩)
   ·refine z03 z0e ?_
    refine DVu_0 ?_; refine ⟨a1, l1, m1, rfl, hl1, ?_⟩; rw [hd1]; refine DVu_0 ?_
    refine exI ?_
    refine bleW [] (fun i => i) [0] nd_1_3_6 (by kernel_rfl) uVu_0 uVu_0 uVu_0 uVu_0
   ·refine z03 z0e ?_
    refine DVu_0 ?_; refine exI ?_; refine bleW [] (fun i => i) [0, 1] nd_1_6_7 (by kernel_rfl) uVu_0 uVu_0 uVu_0 uVu_0
   ·refine z03 z0e ?_
    refine DVu_0 ?_; refine exI ?_; refine bleW [] (fun i => i) [0, 1] nd_1_6_8 (by kernel_rfl) uVu_0 uVu_0 uVu_0 uVu_0
  refine z0j 7 #[true, true, true, false, true, false, false, true, false, false, false, false] [(7, .c (.bool true)), (33, dfaV d0), (34, shpV a1 l1 m1), (36, shpV a2 l2 m2), (9, .c (.ptr 0 0))] [(0, .own 30 (.cells [.nils, .nils, .nils]) 3)] 1 ?_ fun nd_1_7 => ?_
  ·refine z0u [3, 6, 8] (by kernel_rfl) (by decide) (List.forall_mem_cons.2 ⟨?_, List.forall_mem_cons.2 ⟨?_, List.forall_mem_cons.2 ⟨?_, fun _ h => by cases h⟩⟩⟩)
   ·refine z03 z0e ?_
    refine DVu_0 ?_; refine ⟨a1, l1, m1, rfl, hl1, ?_⟩; rw [hd1]; refine DVu_0 ?_
    refine exI ?_
    refine bleW [] (fun i => i) [0] nd_1_3_7 (by kernel_rfl) uVu_0 uVu_0 uVu_0 uVu_0
   ·refine z03 z0e ?_
    refine DVu_0 ?_; refine exI ?_; refine bleW [] (fun i => if i = 0 then 1 else if i = 1 then 0 else i) [1, 0] nd_1_6_7 (by kernel_rfl) uVu_0 uVu_0 uVu_0 uVu_0
   ·refine z03 z0e ?_
    refine DVu_0 ?_; refine exI ?_; refine bleW [] (fun i => i) [0, 1] nd_1_7_8 (by kernel_rfl) uVu_0 uVu_0 uVu_0 uVu_0
  refine z0j 7 #[true, true, true, false, true, false, false, false, true, false, false, false] [(7, .c (.bool true)), (33, dfaV d0), (34, shpV a1 l1 m1), (36, shpV a2 l2 m2), (10, .c (.ptr 0 0))] [(0, .own 30 (.cells [.nils, .nils, .nils]) 3)] 1 ?_ fun nd_1_8 => ?_
  ·refine z0u [3, 6, 7] (by kernel_rfl) (by decide) (List.forall_mem_cons.2 ⟨?_, List.forall_mem_cons.2 ⟨?_, List.forall_mem_cons.2 ⟨?_, fun _ h => by cases h⟩⟩⟩)
   ·refine z03 z0e ?_
    refine DVu_0 ?_; refine ⟨a1, l1, m1, rfl, hl1, ?_⟩; rw [hd1]; refine DVu_0 ?_
    refine exI ?_
    refine bleW [] (fun i => i) [0] nd_1_3_8 (by kernel_rfl) uVu_0 uVu_0 uVu_0 uVu_0
   ·refine z03 z0e ?_
    refine DVu_0 ?_; refine exI ?_; refine bleW [] (fun i => if i = 0 then 1 else if i = 1 then 0 else i) [1, 0] nd_1_6_8 (by kernel_rfl) uVu_0 uVu_0 uVu_0 uVu_0
   ·refine z03 z0e ?_
    refine DVu_0 ?_; refine exI ?_; refine bleW [] (fun i => if i = 0 then 1 else if i = 1 then 0 else i) [1, 0] nd_1_7_8 (by kernel_rfl) uVu_0 uVu_0 uVu_0 uVu_0
  refine z0j 7 #[true, false, true, false, true, false, true, true, false, false, false, false] [(7, .c (.bool true)), (32, shpV a0 l0 m0), (34, shpV a1 l1 m1), (36, shpV a2 l2 m2), (8, .c (.ptr 0 0)), (9, .c (.ptr 1 0))] [(0, .own 30 (.cells [.nils, .nils, .nils]) 3), (1, .own 30 (.cells [.nils, .nils, .nils]) 3)] 2 ?_ fun nd_6_7 => ?_
  ·refine z0u [1, 8] (by kernel_rfl) (by decide) (List.forall_mem_cons.2 ⟨?_, List.forall_mem_cons.2 ⟨?_, fun _ h => by cases h⟩⟩)
   ·refine z03 z0e ?_
    refine DVu_0 ?_; refine ⟨a0, l0, m0, rfl, hl0, ?_⟩; rw [hd0]; refine DVu_0 ?_
    refine exI ?_
    refine bleW [] (fun i => i) [0, 1] nd_1_6_7 (by kernel_rfl) uVu_0 uVu_0 uVu_0 uVu_0
   ·refine z03 z0e ?_
    refine DVu_0 ?_; refine exI ?_; refine bleW [] (fun i => i) [0, 1, 2] nd_6_7_8 (by kernel_rfl) uVu_0 uVu_0 uVu_0 uVu_0
  refine z0j 7 #[true, false, true, false, true, false, true, false, true, false, false, false] [(7, .c (.bool true)), (32, shpV a0 l0 m0), (34, shpV a1 l1 m1), (36, shpV a2 l2 m2), (8, .c (.ptr 0 0)), (10, .c (.ptr 1 0))] [(0, .own 30 (.cells [.nils, .nils, .nils]) 3), (1, .own 30 (.cells [.nils, .nils, .nils]) 3)] 2 ?_ fun nd_6_8 => ?_
  ·refine z0u [1, 7] (by kernel_rfl) (by decide) (List.forall_mem_cons.2 ⟨?_, List.forall_mem_cons.2 ⟨?_, fun _ h => by cases h⟩⟩)
   ·refine z03 z0e ?_
    refine DVu_0 ?_; refine ⟨a0, l0, m0, rfl, hl0, ?_⟩; rw [hd0]; refine DVu_0 ?_
    refine exI ?_
    refine bleW [] (fun i => i) [0, 1] nd_1_6_8 (by kernel_rfl) uVu_0 uVu_0 uVu_0 uVu_0
   ·refine z03 z0e ?_
    refine DVu_0 ?_; refine exI ?_; refine bleW [] (fun i => if i = 1 then 2 else if i = 2 then 1 else i) [0, 2, 1] nd_6_7_8 (by kernel_rfl) uVu_0 uVu_0 uVu_0 uVu_0
  refine z0j 7 #[true, false, true, false, true, false, false, true, true, false, false, false] [(7, .c (.bool true)), (32, shpV a0 l0 m0), (34, shpV a1 l1 m1), (36, shpV a2 l2 m2), (9, .c (.ptr 0 0)), (10, .c (.ptr 1 0))] [(0, .own 30 (.cells [.nils, .nils, .nils]) 3), (1, .own 30 (.cells [.nils, .nils, .nils]) 3)] 2 ?_ fun nd_7_8 => ?_
  ·refine z0u [1, 6] (by kernel_rfl) (by decide) (List.forall_mem_cons.2 ⟨?_, List.forall_mem_cons.2 ⟨?_, fun _ h => by cases h⟩⟩)
   ·refine z03 z0e ?_
    refine DVu_0 ?_; refine ⟨a0, l0, m0, rfl, hl0, ?_⟩; rw [hd0]; refine DVu_0 ?_
    refine exI ?_
    refine bleW [] (fun i => i) [0, 1] nd_1_7_8 (by kernel_rfl) uVu_0 uVu_0 uVu_0 uVu_0
   ·refine z03 z0e ?_
    refine DVu_0 ?_; refine exI ?_; refine bleW [] (fun i => if i = 0 then 2 else if i = 1 then 0 else if i = 2 then 1 else i) [2, 0, 1] nd_6_7_8 (by kernel_rfl) uVu_0 uVu_0 uVu_0 uVu_0
  refine z0j 8 #[true, true, true, false, true, false, false, false, false, false, false, false] [(7, .c (.bool true)), (33, dfaV d0), (34, shpV a1 l1 m1), (36, shpV a2 l2 m2)] [] 0 ?_ fun nd_1 => ?_
  ·refine z0u [3, 6, 7, 8] (by kernel_rfl) (by decide) (List.forall_mem_cons.2 ⟨?_, List.forall_mem_cons.2 ⟨?_, List.forall_mem_cons.2 ⟨?_, List.forall_mem_cons.2 ⟨?_, fun _ h => by cases h⟩⟩⟩⟩)
   ·refine z03 z0e ?_
    refine DVu_0 ?_; refine ⟨a1, l1, m1, rfl, hl1, ?_⟩; rw [hd1]; refine DVu_0 ?_
    refine exI ?_
    refine bleW [] (fun i => i) [] nd_1_3 (by kernel_rfl) uVu_0 uVu_0 uVu_0 uVu_0
   ·refine z03 z0e ?_
    refine DVu_0 ?_; refine exI ?_; refine bleW [] (fun i => i) [0] nd_1_6 (by kernel_rfl) uVu_0 uVu_0 uVu_0 uVu_0
   ·refine z03 z0e ?_
    refine DVu_0 ?_; refine exI ?_; refine bleW [] (fun i => i) [0] nd_1_7 (by kernel_rfl) uVu_0 uVu_0 uVu_0 uVu_0
   ·refine z03 z0e ?_
    refine DVu_0 ?_; refine exI ?_; refine bleW [] (fun i => i) [0] nd_1_8 (by kernel_rfl) uVu_0 uVu_0 uVu_0 uVu_0
  refine z0j 8 #[true, false, true, false, true, false, true, false, false, false, false, false] [(7, .c (.bool true)), (32, shpV a0 l0 m0), (34, shpV a1 l1 m1), (36, shpV a2 l2 m2), (8, .c (.ptr 0 0))] [(0, .own 30 (.cells [.nils, .nils, .nils]) 3)] 1 ?_ fun nd_6 => ?_
  ·refine z0u [1, 7, 8] (by kernel_rfl) (by decide) (List.forall_mem_cons.2 ⟨?_, List.forall_mem_cons.2 ⟨?_, List.forall_mem_cons.2 ⟨?_, fun _ h => by cases h⟩⟩⟩)
   ·refine z03 z0e ?_
    refine DVu_0 ?_; refine ⟨a0, l0, m0, rfl, hl0, ?_⟩; rw [hd0]; refine DVu_0 ?_
    refine exI ?_
    refine bleW [] (fun i => i) [0] nd_1_6 (by kernel_rfl) uVu_0 uVu_0 uVu_0 uVu_0
   ·refine z03 z0e ?_
    refine DVu_0 ?_; refine exI ?_; refine bleW [] (fun i => i) [0, 1] nd_6_7 (by kernel_rfl) uVu_0 uVu_0 uVu_0 uVu_0
   ·refine z03 z0e ?_
    refine DVu_0 ?_; refine exI ?_; refine bleW [] (fun i => i) [0, 1] nd_6_8 (by kernel_rfl) uVu_0 uVu_0 uVu_0 uVu_0
  refine z0j 8 #[true, false, true, false, true, false, false, true, false, false, false, false] [(7, .c (.bool true)), (32, shpV a0 l0 m0), (34, shpV a1 l1 m1), (36, shpV a2 l2 m2), (9, .c (.ptr 0 0))] [(0, .own 30 (.cells [.nils, .nils, .nils]) 3)] 1 ?_ fun nd_7 => ?_
  ·refine z0u [1, 6, 8] (by kernel_rfl) (by decide) (List.forall_mem_cons.2 ⟨?_, List.forall_mem_cons.2 ⟨?_, List.forall_mem_cons.2 ⟨?_, fun _ h => by cases h⟩⟩⟩)
   ·refine z03 z0e ?_
    refine DVu_0 ?_; refine ⟨a0, l0, m0, rfl, hl0, ?_⟩; rw [hd0]; refine DVu_0 ?_
    refine exI ?_
    refine bleW [] (fun i => i) [0] nd_1_7 (by kernel_rfl) uVu_0 uVu_0 uVu_0 uVu_0
   ·refine z03 z0e ?_
    refine DVu_0 ?_; refine exI ?_; refine bleW [] (fun i => if i = 0 then 1 else if i = 1 then 0 else i) [1, 0] nd_6_7 (by kernel_rfl) uVu_0 uVu_0 uVu_0 uVu_0
   ·refine z03 z0e ?_
    refine DVu_0 ?_; refine exI ?_; refine bleW [] (fun i => i) [0, 1] nd_7_8 (by kernel_rfl) uVu_0 uVu_0 uVu_0 uVu_0
  refine z0j 8 #[true, false, true, false, true, false, false, false, true, false, false, false] [(7, .c (.bool true)), (32, shpV a0 l0 m0), (34, shpV a1 l1 m1), (36, shpV a2 l2 m2), (10, .c (.ptr 0 0))] [(0, .own 30 (.cells [.nils, .nils, .nils]) 3)] 1 ?_ fun nd_8 => ?_
  ·refine z0u [1, 6, 7] (by kernel_rfl) (by decide) (List.forall_mem_cons.2 ⟨?_, List.forall_mem_cons.2 ⟨?_, List.forall_mem_cons.2 ⟨?_, fun _ h => by cases h⟩⟩⟩)
   ·refine z03 z0e ?_
    refine DVu_0 ?_; refine ⟨a0, l0, m0, rfl, hl0, ?_⟩; rw [hd0]; refine DVu_0 ?_
    refine exI ?_
    refine bleW [] (fun i => i) [0] nd_1_8 (by kernel_rfl) uVu_0 uVu_0 uVu_0 uVu_0
   ·refine z03 z0e ?_
    refine DVu_0 ?_; refine exI ?_; refine bleW [] (fun i => if i = 0 then 1 else if i = 1 then 0 else i) [1, 0] nd_6_8 (by kernel_rfl) uVu_0 uVu_0 uVu_0 uVu_0
   ·refine z03 z0e ?_
    refine DVu_0 ?_; refine exI ?_; refine bleW [] (fun i => if i = 0 then 1 else if i = 1 then 0 else i) [1, 0] nd_7_8 (by kernel_rfl) uVu_0 uVu_0 uVu_0 uVu_0
  refine z0j 9 #[true, false, true, false, true, false, false, false, false, false, false, false] [(7, .c (.bool true)), (32, shpV a0 l0 m0), (34, shpV a1 l1 m1), (36, shpV a2 l2 m2)] [] 0 ?_ fun nd_ => ?_
  ·refine z0u [1, 6, 7, 8] (by kernel_rfl) (by decide) (List.forall_mem_cons.2 ⟨?_, List.forall_mem_cons.2 ⟨?_, List.forall_mem_cons.2 ⟨?_, List.forall_mem_cons.2 ⟨?_, fun _ h => by cases h⟩⟩⟩⟩)
   ·refine z03 z0e ?_
    refine DVu_0 ?_; refine ⟨a0, l0, m0, rfl, hl0, ?_⟩; rw [hd0]; refine DVu_0 ?_
    refine exI ?_
    refine bleW [] (fun i => i) [] nd_1 (by kernel_rfl) uVu_0 uVu_0 uVu_0 uVu_0
   ·refine z03 z0e ?_
    refine DVu_0 ?_; refine exI ?_; refine bleW [] (fun i => i) [0] nd_6 (by kernel_rfl) uVu_0 uVu_0 uVu_0 uVu_0
   ·refine z03 z0e ?_
    refine DVu_0 ?_; refine exI ?_; refine bleW [] (fun i => i) [0] nd_7 (by kernel_rfl) uVu_0 uVu_0 uVu_0 uVu_0
   ·refine z03 z0e ?_
    refine DVu_0 ?_; refine exI ?_; refine bleW [] (fun i => i) [0] nd_8 (by kernel_rfl) uVu_0 uVu_0 uVu_0 uVu_0
  refine z4a z0e (g := 9) (by kernel_rfl) [(0, true), (2, true), (4, true)] (by kernel_rfl) fun _ hK7 => ?_
  iterate 3 refine dXVu_3 ?_
  refine d_nil ?_; apply hK7; refine bleW [] (fun i => i) [] nd_ (by kernel_rfl) uVu_0 uVu_0 uVu_0 uVu_0
 ·intro u hu
  clear hu; refine seq_k fun _ hK8 => ?_; refine z00 z0e fun _ hK9 => ?_; refine z14 ?_; refine z2f ?_; refine ⟨d0, rfl, w0, ?_⟩; rw [rP]; refine DVu_0 ?_
  refine exI ?_
  iterate 4 refine z14 ?_
  refine z7e ?_; refine z14 ?_; refine s_nil ?_; apply hK9; apply hK8; refine seq_k fun _ hK10 => ?_; refine z00 z0e fun _ hK11 => ?_; refine z14 ?_; refine z2f ?_; refine ⟨d1, rfl, w1, ?_⟩; rw [rQ]; refine DVu_0 ?_
  refine exI ?_
  iterate 4 refine z14 ?_
  refine z7e ?_; refine z14 ?_; refine s_nil ?_; apply hK11; apply hK10; refine seq_k fun _ hK12 => ?_; refine z00 z0e fun _ hK13 => ?_
  iterate 2 refine z14 ?_
  refine z2f ?_; refine ⟨d0, d1, rfl, ⟨w0, w1⟩, ?_⟩; rw [rA]; refine DVu_0 ?_
  refine exI ?_
  iterate 4 refine z14 ?_
  refine z7e ?_; refine z14 ?_; refine s_nil ?_; apply hK13; apply hK12; refine seq_k fun _ hK14 => ?_; refine z00 z0e fun _ hK15 => ?_
  iterate 2 refine z14 ?_
  refine z2f ?_; refine ⟨cP, cQ, rfl, ⟨vP, vQ⟩, ?_⟩; rw [rO]; refine DVu_0 ?_
  refine exI ?_
  iterate 4 refine z14 ?_
  refine z7e ?_; refine z14 ?_; refine s_nil ?_; apply hK15; apply hK14; refine seq_k fun _ hK16 => ?_; refine z00 z0e fun _ hK17 => ?_; refine z14 ?_; refine z2f ?_; refine ⟨cA, rfl, vA, ?_⟩; rw [rN]; refine DVu_0 ?_
  refine exI ?_
  iterate 4 refine z14 ?_
  refine z7e ?_; refine z14 ?_; refine s_nil ?_; apply hK17; apply hK16; refine seq_k fun _ hK18 => ?_; refine seq_k fun _ hK19 => ?_; refine z00 z0e fun _ hK20 => ?_
  iterate 2 refine z14 ?_
  refine z2f ?_; refine exB (fun hb2 => ?_) (fun hb2 => ?_)
  ·exfalso; first | exact absurd hb2 (by decide) | exact hb2 rfl | (simp at hb2; done) | omega
  iterate 2 refine z4m ?_
  refine z14 ?_; refine z2f ?_; refine exB (fun hb6 => ?_) (fun hb6 => ?_)
  ·exfalso; first | exact absurd hb6 (by decide) | exact hb6 rfl | (simp at hb6; done) | omega
  iterate 2 refine z4m ?_
  refine z14 ?_; refine z2f ?_; refine exB (fun hb10 => ?_) (fun hb10 => ?_)
  ·exfalso; first | exact absurd hb10 (by decide) | exact hb10 rfl | (simp at hb10; done) | omega
  iterate 2 refine z4m ?_
  refine z14 ?_; refine z2f ?_; refine exB (fun hb14 => ?_) (fun hb14 => ?_)
  ·exfalso; first | exact absurd hb14 (by decide) | exact hb14 rfl | (simp at hb14; done) | omega
  iterate 2 refine z4m ?_
  refine z14 ?_; refine z2f ?_; refine exB (fun hb18 => ?_) (fun hb18 => ?_)
  ·exfalso; first | exact absurd hb18 (by decide) | exact hb18 rfl | (simp at hb18; done) | omega
  iterate 2 refine z4m ?_
  refine zke ?_; refine ⟨cO, cN', rfl, ⟨vO, vN⟩, ?_⟩; refine DVu_0 ?_
  first | refine exA (.c (.bool (true))) (as_eq (congrArg (fun v => SV.c (Cell.bool v)) (z2h.2 hON))) ?_ | (intro cap21 hcap21; refine exA (.c (.bool (true))) (as_eq (congrArg (fun v => SV.c (Cell.bool v)) (z2h.2 hON))) ?_)
  refine z4m ?_; refine z14 ?_; refine s_nil ?_; apply hK20; apply hK19; refine z08 (b := _) rfl (fun h_t88 => ?_) (fun _ => ?_)
  ·exfalso; first | exact absurd h_t88 (by decide) | (simp at h_t88; done) | cases h_t88
  refine z0c ?_; apply hK18; refine seq_k fun _ hK21 => ?_; refine z00 z0e fun _ hK22 => ?_; refine z2f ?_; rw [word_nil]; refine DVu_0 ?_
  refine exI ?_
  iterate 4 refine z14 ?_
  refine z7e ?_; refine z14 ?_; refine s_nil ?_; apply hK22; apply hK21; refine seq_k fun _ hK23 => ?_; refine z00 z0e fun _ hK24 => ?_
  iterate 2 refine z14 ?_
  refine z2f ?_; refine ⟨(wD []), d0, rfl, ⟨vU, w0⟩, ?_⟩; rw [rU]; refine DVu_0 ?_
  refine exI ?_
  iterate 4 refine z14 ?_
  refine z7e ?_; refine z14 ?_; refine s_nil ?_; apply hK24; apply hK23; refine seq_k fun _ hK25 => ?_; refine z00 z0e fun _ hK26 => ?_; refine z14 ?_; refine z2f ?_; refine ⟨d0, rfl, w0, ?_⟩; rw [rC]; refine DVu_0 ?_
  refine exI ?_
  iterate 4 refine z14 ?_
  refine z7e ?_; refine z14 ?_; refine s_nil ?_; apply hK26; apply hK25; refine seq_k fun _ hK27 => ?_; refine seq_k fun _ hK28 => ?_; refine z00 z0e fun _ hK29 => ?_
  iterate 2 refine z14 ?_
  refine z2f ?_; refine exB (fun hb2 => ?_) (fun hb2 => ?_)
  ·exfalso; first | exact absurd hb2 (by decide) | exact hb2 rfl | (simp at hb2; done) | omega
  iterate 2 refine z4m ?_
  refine z14 ?_; refine z2f ?_; refine exB (fun hb6 => ?_) (fun hb6 => ?_)
  ·exfalso; first | exact absurd hb6 (by decide) | exact hb6 rfl | (simp at hb6; done) | omega
  iterate 2 refine z4m ?_
  refine z14 ?_; refine z2f ?_; refine exB (fun hb10 => ?_) (fun hb10 => ?_)
  ·exfalso; first | exact absurd hb10 (by decide) | exact hb10 rfl | (simp at hb10; done) | omega
  iterate 2 refine z4m ?_
  refine zke ?_; refine ⟨cC, cC, rfl, ⟨vC, vC⟩, ?_⟩; refine DVu_0 ?_
  first | refine exA (.c (.bool (true))) (as_eq (congrArg (fun v => SV.c (Cell.bool v)) (z2h.2 rfl))) ?_ | (intro cap13 hcap13; refine exA (.c (.bool (true))) (as_eq (congrArg (fun v => SV.c (Cell.bool v)) (z2h.2 rfl))) ?_)
  refine z4m ?_; refine z14 ?_; refine s_nil ?_; apply hK29; apply hK28; refine z08 (b := _) rfl (fun h_t119 => ?_) (fun _ => ?_)
  ·exfalso; first | exact absurd h_t119 (by decide) | (simp at h_t119; done) | cases h_t119
  refine z0c ?_; apply hK27; refine seq_k fun _ hK30 => ?_; refine z00 z0e fun _ hK31 => ?_; refine z14 ?_; refine z2f ?_; refine ⟨d0, rfl, w0, ?_⟩; rw [rS]; refine DVu_0 ?_
  refine exI ?_
  iterate 4 refine z14 ?_
  refine z7e ?_; refine z14 ?_; refine s_nil ?_; apply hK31; apply hK30; refine seq_k fun _ hK32 => ?_; refine seq_k fun _ hK33 => ?_; refine z00 z0e fun _ hK34 => ?_
  iterate 2 refine z14 ?_
  refine s_nil ?_; apply hK34; apply hK33; refine z08 (b := _) rfl (fun h_t126 => ?_) (fun h_t126 => ?_)
  ·try simp only [dQ, if_true, if_false, reduceIte] at h_t126
   refine seq_k fun _ hK35 => ?_; refine z00 z0e fun _ hK36 => ?_; refine z14 ?_; refine z2f ?_; refine ⟨cS, rfl, vS, ?_⟩; rw [rT]; refine DVu_0 ?_
   refine exI ?_
   iterate 4 refine z14 ?_
   refine z7e ?_; refine z14 ?_; refine s_nil ?_; apply hK36; apply hK35; refine seq_k fun _ hK37 => ?_; refine z00 z0e fun _ hK38 => ?_
   iterate 2 refine z14 ?_
   refine z2f ?_; refine exB (fun hb2 => ?_) (fun hb2 => ?_)
   ·try simp only [dQ, if_true, if_false, reduceIte] at hb2
    iterate 2 refine z4m ?_
    refine zke ?_; refine ⟨cT, cS, rfl, ⟨vT, vS⟩, ?_⟩; refine DVu_0 ?_
    first | refine exA (.c (.bool (true))) (as_eq (congrArg (fun v => SV.c (Cell.bool v)) (z2h.2 (hST (by first | omega | (simp at h_t126; omega)) (by omega))))) ?_ | (intro cap5 hcap5; refine exA (.c (.bool (true))) (as_eq (congrArg (fun v => SV.c (Cell.bool v)) (z2h.2 (hST (by first | omega | (simp at h_t126; omega)) (by omega))))) ?_)
    refine z4m ?_; refine z14 ?_; refine s_nil ?_; apply hK38; apply hK37; refine z08 (b := _) rfl (fun h_t139 => ?_) (fun _ => ?_)
    ·exfalso; first | exact absurd h_t139 (by decide) | (simp at h_t139; done) | cases h_t139
    refine z0c ?_; apply hK32; refine seq_k fun _ hK39 => ?_; refine z00 z0e fun _ hK40 => ?_
    iterate 3 refine z14 ?_
    refine z2f ?_; refine ⟨d0, d1, d2, rfl, ⟨w0, w1, w2⟩, ?_⟩; refine DVu_0 ?_
    refine exI ?_
    refine z2f ?_; refine exB (fun hb4 => ?_) (fun hb4 => ?_)
    rotate_left 1
    ·exfalso; first | exact absurd hb4 (by decide) | exact hb4 rfl | (simp at hb4; done) | omega
    refine z4m ?_
    iterate 2 refine z14 ?_
    refine s_nil ?_; apply hK40; apply hK39; refine z0f (z0d z0e (fun _ _ h => h) (by first | rfl | assumption) [.tmp 6] rfl ?_); refine rtD ?_
    rfl
   ·try simp only [dQ, if_true, if_false, reduceIte] at hb2
    iterate 4 refine sN ?_
    refine z14 ?_; refine s_nil ?_; apply hK38; apply hK37; refine z08 (b := _) rfl (fun h_t139 => ?_) (fun _ => ?_)
    ·exfalso; first | exact absurd h_t139 (by decide) | (simp at h_t139; done) | cases h_t139
    refine z0c ?_; apply hK32; refine seq_k fun _ hK41 => ?_; refine z00 z0e fun _ hK42 => ?_
    iterate 3 refine z14 ?_
    refine z2f ?_; refine ⟨d0, d1, d2, rfl, ⟨w0, w1, w2⟩, ?_⟩; refine DVu_0 ?_
    refine exI ?_
    refine z2f ?_; refine exB (fun hb4 => ?_) (fun hb4 => ?_)
    rotate_left 1
    ·exfalso; first | exact absurd hb4 (by decide) | exact hb4 rfl | (simp at hb4; done) | omega
    refine z4m ?_
    iterate 2 refine z14 ?_
    refine s_nil ?_; apply hK42; apply hK41; refine z0f (z0d z0e (fun _ _ h => h) (by first | rfl | assumption) [.tmp 6] rfl ?_); refine rtD ?_
    rfl
  ·try simp only [dQ, if_true, if_false, reduceIte] at h_t126
   refine z0c ?_; apply hK32; refine seq_k fun _ hK43 => ?_; refine z00 z0e fun _ hK44 => ?_
   iterate 3 refine z14 ?_
   refine z2f ?_; refine ⟨d0, d1, d2, rfl, ⟨w0, w1, w2⟩, ?_⟩; refine DVu_0 ?_
   refine exI ?_
   refine z2f ?_; refine exB (fun hb4 => ?_) (fun hb4 => ?_)
   rotate_left 1
   ·exfalso; first | exact absurd hb4 (by decide) | exact hb4 rfl | (simp at hb4; done) | omega
   refine z4m ?_
   iterate 2 refine z14 ?_
   refine s_nil ?_; apply hK44; apply hK43; refine z0f (z0d z0e (fun _ _ h => h) (by first | rfl | assumption) [.tmp 6] rfl ?_); refine rtD ?_
   rfl


end Go.Proofs.YtppmnaoollkboaaDoor
