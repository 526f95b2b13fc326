/- Concatenation distributes, and is associative. -/
import Derived.Test.YtppmnaoollkboaaDoorQo
import Derived.Test.YtppmnaoollkboaaDoorQp
namespace Go.Proofs.YtppmnaoollkboaaDoor
set_option linter.all false
open Go.Ab Go.RowKit

theorem qVt0 {a : Prop} (h : a := by first | exact vcA | (simp <;> omega) | exact ⟨by omega, by omega⟩ | exact vcB) : a := h
theorem uVt_0 {a : Prop} (h : a := by
    repeat' (first | exact pT  | exact trivial | refine aI ?_ ?_ | exact cC0 | refine low_cons' ?_ ?_ | exact cC1 | fail)
    all_goals first | omega | exact z1f _ | exact z1d _ | (simp; done) | (show Cont.u8s _ = _; simp; done)| (show (0 : Nat) < (z02 _ _ _ _).length; rw [z01 hcl]; decide) | (simp [-List.reduceReplicate]; done) | (simp [-List.reduceReplicate] <;> omega) | skip) : a := h
theorem DVt_0 {a b : Prop} (kZ : b) (h : HidB b → a := by intro kZ; (repeat first | refine aI qVt0 ?_ | refine z06 qVt0 ?_ | refine z04 qVt0 ?_ | refine z0k qVt0 ?_ | refine z0a ?_); exact kZ.out) : a := h ⟨kZ⟩
theorem z0z {a b : Prop} (kZ : b) (h : HidB b → a := by intro kZ; refine sX ?_; refine DVt_0 ?_; refine exI ?_; exact kZ.out) : a := h ⟨kZ⟩
theorem z9v {a b : Prop} (kZ : b) (h : HidB b → a := by intro kZ; refine sX0 ?_; refine DVt_0 ?_; refine exI ?_; exact kZ.out) : a := h ⟨kZ⟩
theorem z7d {a b : Prop} (kZ : b) (h : HidB b → a := by intro kZ; refine sXT ?_; refine DVt_0 ?_; refine exI ?_; exact kZ.out) : a := h ⟨kZ⟩
theorem z1i {a b : Prop} (kZ : b) (h : HidB b → a := by intro kZ; refine sX ?_; refine DVt_0 ?_; exact kZ.out) : a := h ⟨kZ⟩
theorem zrv {a b : Prop} (kZ : b) (h : HidB b → a := by intro kZ; refine sXT ?_; refine DVt_0 ?_; exact kZ.out) : a := h ⟨kZ⟩

open Go.Aut
theorem catW {d e : Dfa} (wd : d.wf) (we : e.wf) : ∃ (c : Dfa) (n : Nat), z3d d e = (c, n) ∧ c.wf ∧ n ≤ 2 ∧ (n = 0 → d.good ∧ e.good ∧ c = canD (catB (langD d) (langD e)) ∧ c.good) := by
  by_cases hd : z0s d = true
  · by_cases he : z0s e = true
    · have gd := (z1o wd).1 hd
      have ge := (z1o we).1 he
      rcases zyk gd ge with h | ⟨h, hg⟩
      · exact ⟨_, _, h, zeb, Nat.le_refl _, fun e => by cases e⟩
      · exact ⟨_, _, h, z2v hg, Nat.zero_le _, fun _ => ⟨gd, ge, rfl, hg⟩⟩
    · exact ⟨noD, 1, by rw [z3d, if_neg fun h => he h.2], zeb, by decide, fun e => by cases e⟩
  · exact ⟨noD, 1, by rw [z3d, if_neg fun h => hd h.1], zeb, by decide, fun e => by cases e⟩
theorem combW (op : Bool → Bool → Bool) {d e : Dfa} (wd : d.wf) (we : e.wf) : ∃ (c : Dfa) (n : Nat), combR op d e = (c, n) ∧ c.wf ∧ n ≤ 2 ∧ (n = 0 → d.good ∧ e.good ∧ c = canD (combB op d e) ∧ c.good) := by
  by_cases hd : z0s d = true
  · by_cases he : z0s e = true
    · have gd := (z1o wd).1 hd
      have ge := (z1o we).1 he
      have hk := (za4 (z9q op gd ge).1).1
      rw [zk1 gd ge] at hk
      rcases zdj (canD (combB op d e)) with h | ⟨h, h6⟩
      · exact ⟨noD, 2, by rw [combR, if_pos ⟨hd, he⟩, h], zeb, Nat.le_refl _, fun e => by cases e⟩
      · exact ⟨_, 0, by rw [combR, if_pos ⟨hd, he⟩, h], z2v ⟨hk, h6⟩, Nat.zero_le _, fun _ => ⟨gd, ge, rfl, hk, h6⟩⟩
    · exact ⟨noD, 1, by rw [combR, if_neg fun h => he h.2], zeb, by decide, fun e => by cases e⟩
  · exact ⟨noD, 1, by rw [combR, if_neg fun h => hd h.1], zeb, by decide, fun e => by cases e⟩
theorem catB_or (L M N : List Nat → Bool) (w : List Nat) : catB L (fun w => M w || N w) w = (catB L M w || catB L N w) := by
  rw [Bool.eq_iff_iff, Bool.or_eq_true, z3z, z3z, z3z]
  constructor
  · rintro ⟨u, v, e, h1, h2⟩
    rcases (Bool.or_eq_true _ _ ▸ h2 : M v = true ∨ N v = true) with h | h
    · exact .inl ⟨u, v, e, h1, h⟩
    · exact .inr ⟨u, v, e, h1, h⟩
  · rintro (⟨u, v, e, h1, h2⟩ | ⟨u, v, e, h1, h2⟩)
    · exact ⟨u, v, e, h1, by show (M v || N v) = true; rw [h2]; rfl⟩
    · exact ⟨u, v, e, h1, by show (M v || N v) = true; rw [h2, Bool.or_true]⟩
theorem ztl (L M N : List Nat → Bool) (w : List Nat) : catB (catB L M) N w = catB L (catB M N) w := by
  rw [Bool.eq_iff_iff, z3z, z3z]
  constructor
  · rintro ⟨u, v, rfl, h1, h2⟩
    obtain ⟨a, b, rfl, h3, h4⟩ := z3z.1 h1; exact ⟨a, b ++ v, by rw [List.append_assoc], h3, z3z.2 ⟨b, v, rfl, h4, h2⟩⟩
  · rintro ⟨u, v, rfl, h1, h2⟩
    obtain ⟨a, b, rfl, h3, h4⟩ := z3z.1 h2; exact ⟨u ++ a, b, by rw [List.append_assoc], z3z.2 ⟨u, a, rfl, h1, h3⟩, h4⟩
theorem zz6 {a b c o ab ac l r : Dfa} (ho : o = canD (combB (fun x y => x || y) b c) ∧ o.good) (h1 : ab = canD (catB (langD a) (langD b)) ∧ ab.good) (h2 : ac = canD (catB (langD a) (langD c)) ∧ ac.good) (hl : l = canD (catB (langD a) (langD o))) (hr : r = canD (combB (fun x y => x || y) ab ac)) : l = r := by
  obtain ⟨eo, go⟩ := ho; obtain ⟨e1, g1⟩ := h1; obtain ⟨e2, g2⟩ := h2
  have lo : ∀ w, Bytes w → langD o w = (langD b w || langD c w) := by rw [eo] at go ⊢; exact (z65 go).2
  have l1 : ∀ w, Bytes w → langD ab w = catB (langD a) (langD b) w := by rw [e1] at g1 ⊢; exact (z65 g1).2
  have l2 : ∀ w, Bytes w → langD ac w = catB (langD a) (langD c) w := by rw [e2] at g2 ⊢; exact (z65 g2).2
  rw [hl, hr]; refine z1n fun w hw => ?_
  show _ = (langD ab w || langD ac w)
  rw [l1 w hw, l2 w hw, ← catB_or]; exact Go.Aut.catB_congr (fun _ _ => rfl) lo hw
theorem assoc_eq {a b c ab bc x y : Dfa} (h1 : ab = canD (catB (langD a) (langD b)) ∧ ab.good) (h2 : bc = canD (catB (langD b) (langD c)) ∧ bc.good) (hx : x = canD (catB (langD ab) (langD c))) (hy : y = canD (catB (langD a) (langD bc))) : x = y := by
  obtain ⟨e1, g1⟩ := h1; obtain ⟨e2, g2⟩ := h2
  have l1 : ∀ w, Bytes w → langD ab w = catB (langD a) (langD b) w := by rw [e1] at g1 ⊢; exact (z65 g1).2
  have l2 : ∀ w, Bytes w → langD bc w = catB (langD b) (langD c) w := by rw [e2] at g2 ⊢; exact (z65 g2).2
  rw [hx, hy]; refine z1n fun w hw => ?_; rw [Go.Aut.catB_congr l1 (fun _ _ => rfl) hw, Go.Aut.catB_congr (fun _ _ => rfl) l2 hw, ztl]
attribute [local irreducible] z0q z1z zl z02 z18 putB
noncomputable def gx52 : Ctx := { P := Tryd.prog, ty := ty, glob := gl, fs := [(23, .data zez), (38, .data orAS), (28, .flat sameS)] }
theorem z49 : gx52.OK := ⟨tyOK, ⟨⟨z07 Tryd.func23 (by kernel_rfl) rfl, zde⟩, ⟨z07 Tryd.func38 (by kernel_rfl) rfl, orA_ok⟩, ⟨z07 Tryd.func28 (by kernel_rfl) rfl, zk8⟩, trivial⟩, mixed⟩
@[simp] theorem gx52_ty : gx52.ty = ty := rfl

def zrw : QSpec := fun vs K => ∃ dA dB dC : Dfa, vs = [dfaV dA, dfaV dB, dfaV dC] ∧ (dA.wf ∧ dB.wf ∧ dC.wf) ∧ K (.c (.bool true))
set_option maxHeartbeats 8000000 in
set_option maxRecDepth 4000 in
theorem ztm : z16 Tryd.prog gl 52 zrw := by
 refine z1a (Γ := gx52) (N := 114) Tryd.func52 rfl rfl fun vs K h => ?_; obtain ⟨dA, dB, dC, rfl, ⟨vA, vB, vC⟩, h⟩ := h; refine ⟨_, h, rfl, by simp, fun w I => ?_⟩; obtain ⟨c1, m1, r1, v1, _, t1⟩ := catW vA vB; obtain ⟨c2, m2, r2, v2, _, t2⟩ := catW vA vC; obtain ⟨c3, m3, r3, v3, _, t3⟩ := combW (fun x y => x || y) vB vC; obtain ⟨c4, m4, r4, v4, _, t4⟩ := catW vA v3; obtain ⟨c5, m5, r5, v5, _, t5⟩ := combW (fun x y => x || y) v1 v2; obtain ⟨c6, m6, r6, v6, _, t6⟩ := catW v1 vC; obtain ⟨c7, m7, r7, v7, _, t7⟩ := catW vB vC; obtain ⟨c8, m8, r8, v8, _, t8⟩ := catW vA v7
 have q1 : m1 = 0 → m2 = 0 → m3 = 0 → m4 = 0 → m5 = 0 → c4 = c5 := fun e1 e2 e3 e4 e5 => zz6 (t3 e3).2.2 (t1 e1).2.2 (t2 e2).2.2 (t4 e4).2.2.1 (t5 e5).2.2.1
 have q2 : m1 = 0 → m6 = 0 → m7 = 0 → m8 = 0 → c6 = c8 := fun e1 e2 e3 e4 => assoc_eq (t1 e1).2.2 (t7 e3).2.2 (t6 e2).2.2.1 (t8 e4).2.2.1
 refine seq_k fun _ hK1 => ?_; refine z00 z49 fun _ hK2 => ?_
 iterate 4 refine z0z ?_
 refine s_nil ?_; apply hK2; apply hK1; refine seq_k fun _ hK3 => ?_; refine z00 z49 fun _ hK4 => ?_
 iterate 2 refine z0z ?_
 refine z1i ?_; refine ⟨dA, dB, rfl, ⟨vA, vB⟩, ?_⟩; rw [r1]; refine DVt_0 ?_
 first | refine exI ?_ | (intro cap2 hcap2; refine exI ?_)
 iterate 4 refine z0z ?_
 refine z9v ?_; refine z0z ?_; refine s_nil ?_; apply hK4; apply hK3; refine seq_k fun _ hK5 => ?_; refine z00 z49 fun _ hK6 => ?_
 iterate 2 refine z0z ?_
 refine z1i ?_; refine ⟨dA, dC, rfl, ⟨vA, vC⟩, ?_⟩; rw [r2]; refine DVt_0 ?_
 first | refine exI ?_ | (intro cap2 hcap2; refine exI ?_)
 iterate 4 refine z0z ?_
 refine z9v ?_; refine z0z ?_; refine s_nil ?_; apply hK6; apply hK5; refine seq_k fun _ hK7 => ?_; refine z00 z49 fun _ hK8 => ?_
 iterate 2 refine z0z ?_
 refine z1i ?_; refine ⟨dB, dC, rfl, ⟨vB, vC⟩, ?_⟩; rw [r3]; refine DVt_0 ?_
 first | refine exI ?_ | (intro cap2 hcap2; refine exI ?_)
 iterate 4 refine z0z ?_
 refine z9v ?_; refine z0z ?_; refine s_nil ?_; apply hK8; apply hK7; refine seq_k fun _ hK9 => ?_; refine z00 z49 fun _ hK10 => ?_
 iterate 2 refine z0z ?_
 refine z1i ?_; refine ⟨dA, c3, rfl, ⟨vA, v3⟩, ?_⟩; rw [r4]; refine DVt_0 ?_
 first | refine exI ?_ | (intro cap2 hcap2; refine exI ?_)
 iterate 4 refine z0z ?_
 refine z9v ?_; refine z0z ?_; refine s_nil ?_; apply hK10; apply hK9; refine seq_k fun _ hK11 => ?_; refine z00 z49 fun _ hK12 => ?_
 iterate 2 refine z0z ?_
 refine z1i ?_; refine ⟨c1, c2, rfl, ⟨v1, v2⟩, ?_⟩; rw [r5]; refine DVt_0 ?_
 first | refine exI ?_ | (intro cap2 hcap2; refine exI ?_)
 iterate 4 refine z0z ?_
 refine z9v ?_; refine z0z ?_; refine s_nil ?_; apply hK12; apply hK11; refine seq_k fun _ hK13 => ?_; refine zbm (α := Unit) (fun _ => [(3, .c (.dp (dfaC dA) 0)), (4, .c (.dp (dfaC dB) 0)), (5, .c (.dp (dfaC dC) 0)), (7, .c (.dp (dfaC c1) 0)), (8, .c (.int .i64 (m1 : Nat))), (76, .c (.bool false))]) (fun _ => []) 0 (fun _ => True) ?_ ?_
 ·refine z00 z49 fun _ hK14 => ?_
  iterate 2 refine z0z ?_
  refine z1i ?_; refine exB (fun hb2 => ?_) (fun hb2 => ?_)
  ·try simp only [dQ, if_true, if_false, reduceIte] at hb2
   iterate 2 refine z7d ?_
   refine z0z ?_; refine z1i ?_; refine exB (fun hb6 => ?_) (fun hb6 => ?_)
   ·try simp only [dQ, if_true, if_false, reduceIte] at hb6
    iterate 2 refine z7d ?_
    refine z0z ?_; refine z1i ?_; refine exB (fun hb10 => ?_) (fun hb10 => ?_)
    ·try simp only [dQ, if_true, if_false, reduceIte] at hb10
     iterate 2 refine z7d ?_
     refine z0z ?_; refine z1i ?_; refine exB (fun hb14 => ?_) (fun hb14 => ?_)
     ·try simp only [dQ, if_true, if_false, reduceIte] at hb14
      iterate 2 refine z7d ?_
      refine z0z ?_; refine z1i ?_; refine exB (fun hb18 => ?_) (fun hb18 => ?_)
      ·try simp only [dQ, if_true, if_false, reduceIte] at hb18
       iterate 2 refine z7d ?_
       refine zrv ?_; refine ⟨c4, c5, rfl, ⟨v4, v5⟩, ?_⟩; refine DVt_0 ?_
       first | refine exA (.c (.bool (true))) (as_eq (congrArg (fun v => SV.c (Cell.bool v)) (z2h.2 (q1 (by omega) (by omega) (by omega) (by omega) (by omega))))) ?_ | (intro cap21 hcap21; refine exA (.c (.bool (true))) (as_eq (congrArg (fun v => SV.c (Cell.bool v)) (z2h.2 (q1 (by omega) (by omega) (by omega) (by omega) (by omega))))) ?_)
       refine z7d ?_; refine z0z ?_; refine s_nil ?_; apply hK14; refine dnS [0, 1, 2, 3, 4, 5, 6, 7] id () trivial [] uVt_0 uVt_0 uVt_0 uVt_0
      ·try simp only [dQ, if_true, if_false, reduceIte] at hb18
       iterate 4 refine sN ?_
       refine z0z ?_; refine s_nil ?_; apply hK14; refine dnS [0, 1, 2, 3, 4, 5, 6, 7] id () trivial [] uVt_0 uVt_0 uVt_0 uVt_0
     ·try simp only [dQ, if_true, if_false, reduceIte] at hb14
      iterate 2 refine sN ?_
      refine z0z ?_; refine z1i ?_; refine exB (fun hb18 => ?_) (fun hb18 => ?_)
      ·exfalso; simp at hb18
      iterate 4 refine sN ?_
      refine z0z ?_; refine s_nil ?_; apply hK14; refine dnS [0, 1, 2, 3, 4, 5, 6, 7] id () trivial [] uVt_0 uVt_0 uVt_0 uVt_0
    ·try simp only [dQ, if_true, if_false, reduceIte] at hb10
     iterate 2 refine sN ?_
     refine z0z ?_; refine z1i ?_; refine exB (fun hb14 => ?_) (fun hb14 => ?_)
     ·exfalso; simp at hb14
     iterate 2 refine sN ?_
     refine z0z ?_; refine z1i ?_; refine exB (fun hb18 => ?_) (fun hb18 => ?_)
     ·exfalso; simp at hb18
     iterate 4 refine sN ?_
     refine z0z ?_; refine s_nil ?_; apply hK14; refine dnS [0, 1, 2, 3, 4, 5, 6, 7] id () trivial [] uVt_0 uVt_0 uVt_0 uVt_0
   ·try simp only [dQ, if_true, if_false, reduceIte] at hb6
    iterate 2 refine sN ?_
    refine z0z ?_; refine z1i ?_; refine exB (fun hb10 => ?_) (fun hb10 => ?_)
    ·exfalso; simp at hb10
    iterate 2 refine sN ?_
    refine z0z ?_; refine z1i ?_; refine exB (fun hb14 => ?_) (fun hb14 => ?_)
    ·exfalso; simp at hb14
    iterate 2 refine sN ?_
    refine z0z ?_; refine z1i ?_; refine exB (fun hb18 => ?_) (fun hb18 => ?_)
    ·exfalso; simp at hb18
    iterate 4 refine sN ?_
    refine z0z ?_; refine s_nil ?_; apply hK14; refine dnS [0, 1, 2, 3, 4, 5, 6, 7] id () trivial [] uVt_0 uVt_0 uVt_0 uVt_0
  ·try simp only [dQ, if_true, if_false, reduceIte] at hb2
   iterate 2 refine sN ?_
   refine z0z ?_; refine z1i ?_; refine exB (fun hb6 => ?_) (fun hb6 => ?_)
   ·exfalso; simp at hb6
   iterate 2 refine sN ?_
   refine z0z ?_; refine z1i ?_; refine exB (fun hb10 => ?_) (fun hb10 => ?_)
   ·exfalso; simp at hb10
   iterate 2 refine sN ?_
   refine z0z ?_; refine z1i ?_; refine exB (fun hb14 => ?_) (fun hb14 => ?_)
   ·exfalso; simp at hb14
   iterate 2 refine sN ?_
   refine z0z ?_; refine z1i ?_; refine exB (fun hb18 => ?_) (fun hb18 => ?_)
   ·exfalso; simp at hb18
   iterate 4 refine sN ?_
   refine z0z ?_; refine s_nil ?_; apply hK14; refine dnS [0, 1, 2, 3, 4, 5, 6, 7] id () trivial [] uVt_0 uVt_0 uVt_0 uVt_0
 ·intro u hu
  clear hu; refine z08 (b := _) rfl (fun h_t76 => ?_) (fun _ => ?_)
  ·exfalso; first | exact absurd h_t76 (by decide) | (simp at h_t76; done) | cases h_t76
  refine z0c ?_; apply hK13; refine seq_k fun _ hK15 => ?_; refine z00 z49 fun _ hK16 => ?_
  iterate 2 refine z0z ?_
  refine z1i ?_; refine ⟨c1, dC, rfl, ⟨v1, vC⟩, ?_⟩; rw [r6]; refine DVt_0 ?_
  first | refine exI ?_ | (intro cap2 hcap2; refine exI ?_)
  iterate 4 refine z0z ?_
  refine z9v ?_; refine z0z ?_; refine s_nil ?_; apply hK16; apply hK15; refine seq_k fun _ hK17 => ?_; refine z00 z49 fun _ hK18 => ?_
  iterate 2 refine z0z ?_
  refine z1i ?_; refine ⟨dB, dC, rfl, ⟨vB, vC⟩, ?_⟩; rw [r7]; refine DVt_0 ?_
  first | refine exI ?_ | (intro cap2 hcap2; refine exI ?_)
  iterate 4 refine z0z ?_
  refine z9v ?_; refine z0z ?_; refine s_nil ?_; apply hK18; apply hK17; refine seq_k fun _ hK19 => ?_; refine z00 z49 fun _ hK20 => ?_
  iterate 2 refine z0z ?_
  refine z1i ?_; refine ⟨dA, c7, rfl, ⟨vA, v7⟩, ?_⟩; rw [r8]; refine DVt_0 ?_
  first | refine exI ?_ | (intro cap2 hcap2; refine exI ?_)
  iterate 4 refine z0z ?_
  refine z9v ?_; refine z0z ?_; refine s_nil ?_; apply hK20; apply hK19; refine seq_k fun _ hK21 => ?_; refine z00 z49 fun _ hK22 => ?_
  iterate 2 refine z0z ?_
  refine z1i ?_; refine exB (fun hb2 => ?_) (fun hb2 => ?_)
  ·try simp only [dQ, if_true, if_false, reduceIte] at hb2
   iterate 2 refine sN ?_
   refine z0z ?_; refine z1i ?_; refine exB (fun hb6 => ?_) (fun hb6 => ?_)
   rotate_left 1
   ·exfalso; simp at hb6
   iterate 2 refine sN ?_
   refine z0z ?_; refine z1i ?_; refine exB (fun hb10 => ?_) (fun hb10 => ?_)
   rotate_left 1
   ·exfalso; simp at hb10
   iterate 2 refine sN ?_
   refine z0z ?_; refine z1i ?_; refine exB (fun hb14 => ?_) (fun hb14 => ?_)
   rotate_left 1
   ·exfalso; simp at hb14
   iterate 3 refine sN ?_
   iterate 2 refine z0z ?_
   refine s_nil ?_; apply hK22; apply hK21; refine z0f (z0d z49 (fun _ _ h => h) (by first | rfl | assumption) [.tmp 6] rfl ?_); refine rtD ?_
   rfl
  ·try simp only [dQ, if_true, if_false, reduceIte] at hb2
   iterate 2 refine z7d ?_
   refine z0z ?_; refine z1i ?_; refine exB (fun hb6 => ?_) (fun hb6 => ?_)
   ·try simp only [dQ, if_true, if_false, reduceIte] at hb6
    iterate 2 refine sN ?_
    refine z0z ?_; refine z1i ?_; refine exB (fun hb10 => ?_) (fun hb10 => ?_)
    rotate_left 1
    ·exfalso; simp at hb10
    iterate 2 refine sN ?_
    refine z0z ?_; refine z1i ?_; refine exB (fun hb14 => ?_) (fun hb14 => ?_)
    rotate_left 1
    ·exfalso; simp at hb14
    iterate 3 refine sN ?_
    iterate 2 refine z0z ?_
    refine s_nil ?_; apply hK22; apply hK21; refine z0f (z0d z49 (fun _ _ h => h) (by first | rfl | assumption) [.tmp 6] rfl ?_); refine rtD ?_
    rfl
   ·try simp only [dQ, if_true, if_false, reduceIte] at hb6
    iterate 2 refine z7d ?_
    refine z0z ?_; refine z1i ?_; refine exB (fun hb10 => ?_) (fun hb10 => ?_)
    ·try simp only [dQ, if_true, if_false, reduceIte] at hb10
     iterate 2 refine sN ?_
     refine z0z ?_; refine z1i ?_; refine exB (fun hb14 => ?_) (fun hb14 => ?_)
     rotate_left 1
     ·exfalso; simp at hb14
     iterate 3 refine sN ?_
     iterate 2 refine z0z ?_
     refine s_nil ?_; apply hK22; apply hK21; refine z0f (z0d z49 (fun _ _ h => h) (by first | rfl | assumption) [.tmp 6] rfl ?_); refine rtD ?_
     rfl
    ·try simp only [dQ, if_true, if_false, reduceIte] at hb10
     iterate 2 refine z7d ?_
     refine z0z ?_; refine z1i ?_; refine exB (fun hb14 => ?_) (fun hb14 => ?_)
     ·try simp only [dQ, if_true, if_false, reduceIte] at hb14
      iterate 3 refine sN ?_
      iterate 2 refine z0z ?_
      refine s_nil ?_; apply hK22; apply hK21; refine z0f (z0d z49 (fun _ _ h => h) (by first | rfl | assumption) [.tmp 6] rfl ?_); refine rtD ?_
      rfl
     ·try simp only [dQ, if_true, if_false, reduceIte] at hb14
      iterate 2 refine z7d ?_
      refine zrv ?_; refine ⟨c6, c8, rfl, ⟨v6, v8⟩, ?_⟩; refine DVt_0 ?_
      first | refine exA (.c (.bool (true))) (as_eq (congrArg (fun v => SV.c (Cell.bool v)) (z2h.2 (q2 (by omega) (by omega) (by omega) (by omega))))) ?_ | (intro cap17 hcap17; refine exA (.c (.bool (true))) (as_eq (congrArg (fun v => SV.c (Cell.bool v)) (z2h.2 (q2 (by omega) (by omega) (by omega) (by omega))))) ?_)
      iterate 2 refine z0z ?_
      refine s_nil ?_; apply hK22; apply hK21; refine z0f (z0d z49 (fun _ _ h => h) (by first | rfl | assumption) [.tmp 6] rfl ?_); refine rtD ?_
      rfl


end Go.Proofs.YtppmnaoollkboaaDoor
