/- Part 15 of what the claims of this seat share: the walk's engine, the functions' contracts, plain mathematics (Rn, Ro, Rp, Rq, Rr). -/
import Derived.Test.YtppmnaoollkboaaDoorQn
import Derived.Test.YtppmnaoollkboaaDoorQd
import Derived.Test.YtppmnaoollkboaaDoorQk
import Derived.Test.YtppmnaoollkboaaDoorQm
import Derived.Test.YtppmnaoollkboaaDoorQl
import Derived.Test.YtppmnaoollkboaaDoorQj
namespace Go.Proofs.YtppmnaoollkboaaDoor
set_option linter.all false
open Go.Ab Go.RowKit

theorem qRn0 {a : Prop} (h : a := by first | exact vcA | (simp <;> omega) | exact ⟨by omega, by omega⟩ | exact ⟨by omega, by omega, trivial⟩ | exact ⟨by omega, by omega, trivial, trivial⟩ | (simp only [z8j, z2l]; omega) | (simp only [z8j, zg5]; omega) | (rw [z8j, z5q]; done) | (simp; done) | (show 4 = _; simp; done) | exact vcB) : a := h
theorem qRn1 {a : Prop} (h : a := by first | exact vcA | (simp <;> omega) | (rw [z95]; omega) | exact vcB) : a := h
theorem uRn_0 {a : Prop} (h : a := by
    repeat' (first | assumption | exact z46 hin.d1 | exact z33 hin.d1 | exact pT  | exact trivial | refine aI ?_ ?_ | exact cC0 | refine low_cons' ?_ ?_ | exact cC1 | fail)
    all_goals first | omega | (rw [if_pos ⟨rfl, (by show (g.1 ++ _).length = (nB r + 1) * 4; exact hge.1)⟩]; first | done | rfl) | exact z35 _ | exact z1j _ | exact hL0 | exact z46 hin.d1 | exact z33 hin.d1 | (show (_ : List UInt64) = _; first | assumption | rfl) | (show (_ : List UInt8) = _; first | assumption | rfl) | (simp; done) | (simp <;> omega)| (show (0 : Nat) < (z01 _ _ _ _).length; rw [z00 hcl]; decide) | (simp [-List.reduceReplicate]; done) | (simp [-List.reduceReplicate] <;> omega) | skip) : a := h
theorem DRn_0 {a b : Prop} (kZ : b) (h : HidB b → a := by intro kZ; (repeat first | refine aI qRn0 ?_ | refine z06 qRn0 ?_ | refine z04 qRn0 ?_ | refine z0k qRn0 ?_ | refine z0b ?_); exact kZ.out) : a := h ⟨kZ⟩
theorem z2o {a b : Prop} (kZ : b) (h : HidB b → a := by intro kZ; refine sX ?_; refine DRn_0 ?_; refine exI ?_; exact kZ.out) : a := h ⟨kZ⟩
theorem DRn_2 {a b : Prop} (kZ : b) (h : HidB b → a := by intro kZ; (repeat first | refine aI qRn1 ?_ | refine z06 qRn1 ?_ | refine z04 qRn1 ?_ | refine z0k qRn1 ?_ | refine z0b ?_); exact kZ.out) : a := h ⟨kZ⟩
theorem zvt {a b : Prop} (kZ : b) (h : HidB b → a := by intro kZ; refine sX ?_; refine DRn_2 ?_; refine exI ?_; exact kZ.out) : a := h ⟨kZ⟩
theorem zox {a b : Prop} (kZ : b) (h : HidB b → a := by intro kZ; refine dX ?_; refine DRn_0 ?_; refine exI ?_; exact kZ.out) : a := h ⟨kZ⟩
theorem gXRn_5 {a b : Prop} (kZ : b) (h : HidB b → a := by intro kZ; refine gX ?_; refine DRn_0 ?_; refine exI ?_; exact kZ.out) : a := h ⟨kZ⟩
theorem zvu {a b : Prop} (kZ : b) (h : HidB b → a := by intro kZ; refine gX0 ?_; refine DRn_0 ?_; refine exI ?_; exact kZ.out) : a := h ⟨kZ⟩
theorem zms {a b : Prop} (kZ : b) (h : HidB b → a := by intro kZ; refine sX0 ?_; refine DRn_0 ?_; refine exI ?_; exact kZ.out) : a := h ⟨kZ⟩
theorem z9i {a b : Prop} (kZ : b) (h : HidB b → a := by intro kZ; refine sX ?_; refine DRn_0 ?_; exact kZ.out) : a := h ⟨kZ⟩
theorem zvv {a b : Prop} (kZ : b) (h : HidB b → a := by intro kZ; refine sX ?_; refine DRn_2 ?_; exact kZ.out) : a := h ⟨kZ⟩
theorem zcy {a b : Prop} (kZ : b) (h : HidB b → a := by intro kZ; refine gX ?_; refine DRn_0 ?_; exact kZ.out) : a := h ⟨kZ⟩

open Go.Aut
theorem hasW_add {s : List UInt64} (hs : s.length = 4) (b : UInt8) {x : Nat} (hx : x < 256) : hasW (addW s b) x = (hasW s x || decide (x = b.toNat)) := by
  have h1 : (b / 64).toNat = b.toNat / 64 := by rw [UInt8.toNat_div]; rfl
  have h2 : (b % 64).toNat = b.toNat % 64 := by rw [UInt8.toNat_mod]; rfl
  have hb := b.toNat_lt
  rw [addW, h1, h2, hasW, z1b (by omega), hasW]
  by_cases e : b.toNat / 64 = x / 64
  · rw [if_pos e, e, UInt64.toNat_or, Nat.testBit_or]
    have := zcq (b.toNat % 64) (x % 64)
    rw [znx] at this; rw [this]
    congr 1
    rw [Bool.eq_iff_iff]; simp; omega
  · rw [if_neg e]
    have : ¬ x = b.toNat := fun h => e (by rw [h])
    simp [this]
theorem zkn {x : Nat} (hx : x < 256) : ∀ (l : List UInt8) (s : List UInt64), s.length = 4 → (hasW (l.foldl addW s) x = true ↔ hasW s x = true ∨ ∃ b ∈ l, b.toNat = x)
  | [], s, _ => by simp
  | b :: l, s, hs => by
    have e : (∃ c ∈ b :: l, c.toNat = x) ↔ b.toNat = x ∨ ∃ c ∈ l, c.toNat = x := by simp
    rw [List.foldl_cons, zkn hx l _ (by rw [zee]; exact hs), hasW_add hs b hx, Bool.or_eq_true, decide_eq_true_eq, e, or_assoc]
    constructor
    · rintro (h | h | h)
      · exact .inl h
      · exact .inr (.inl h.symm)
      · exact .inr (.inr h)
    · rintro (h | h | h)
      · exact .inl h
      · exact .inr (.inl h.symm)
      · exact .inr (.inr h)
theorem hasW_of {l : List UInt8} {x : Nat} (hx : x < 256) : hasW (ofW l) x = true ↔ ∃ b ∈ l, b.toNat = x := by
  rw [ofW, zkn hx l _ (by simp), show hasW (List.replicate 4 0) x = false from z4h x]
  simp
def digK (r : Rul) (v k : Nat) : List UInt8 := ((List.range k).filter fun b => decide (z1o r.base (UInt8.ofNat b) = (v : Int))).map UInt8.ofNat
theorem zvw (r : Rul) (v : Nat) : digK r v 0 = [] := rfl
theorem digK_yes {r : Rul} {v k : Nat} (h : z1o r.base (UInt8.ofNat k) = (v : Int)) : digK r v k ++ [UInt8.ofNat k] = digK r v (k + 1) := by
  rw [digK, digK, List.range_succ, List.filter_append, List.map_append]
  simp [h]
theorem digK_no {r : Rul} {v k : Nat} (h : z1o r.base (UInt8.ofNat k) ≠ (v : Int)) : digK r v k = digK r v (k + 1) := by
  rw [digK, digK, List.range_succ, List.filter_append, List.map_append]
  simp [h]
theorem zoy (r : Rul) (v k : Nat) : (digK r v k).length ≤ k := by
  rw [digK, List.length_map]; exact Nat.le_trans (List.length_filter_le _ _) (by simp)
theorem digK_mem {r : Rul} {v x : Nat} (hx : x < 256) : (∃ b ∈ digK r v 256, b.toNat = x) ↔ z1o r.base (UInt8.ofNat x) = (v : Int) := by
  constructor
  · rintro ⟨b, hb, rfl⟩
    obtain ⟨y, hy, rfl⟩ := List.mem_map.1 hb; obtain ⟨h1, h2⟩ := List.mem_filter.1 hy
    have h1 := List.mem_range.1 h1
    rw [UInt8.toNat_ofNat_of_lt' h1]; exact of_decide_eq_true h2
  · intro h
    exact ⟨UInt8.ofNat x, List.mem_map.2 ⟨x, List.mem_filter.2 ⟨List.mem_range.2 hx, decide_eq_true h⟩, rfl⟩, UInt8.toNat_ofNat_of_lt' hx⟩
structure GD (r : Rul) (v : Nat) (cw : List UInt64) : Prop where
  len : cw.length = v * 4
  bit : ∀ c x, c < v → x < 256 → (hasC cw c x = true ↔ z1o r.base (UInt8.ofNat x) = (c : Int))
theorem gdN_zero (r : Rul) : GD r 0 [] := ⟨rfl, fun _ _ h => absurd h (Nat.not_lt_zero _)⟩
theorem zko {a b : List UInt64} {n c x : Nat} (ha : a.length = n * 4) (hc : c < n) (hx : x < 256) : hasC (a ++ b) c x = hasC a c x := by
  rw [hasC, hasC, List.getD_eq_getElem?_getD, List.getD_eq_getElem?_getD, List.getElem?_append_left (by omega)]
theorem zkp {a b : List UInt64} {n x : Nat} (ha : a.length = n * 4) : hasC (a ++ b) n x = hasW b x := by
  rw [hasC, hasW, List.getD_eq_getElem?_getD, List.getD_eq_getElem?_getD, List.getElem?_append_right (by omega), ha, Nat.add_sub_cancel_left]
theorem gdN_next {r : Rul} {v : Nat} {cw : List UInt64} (h : GD r v cw) : GD r (v + 1) (cw ++ ofW (digK r v 256)) := by
  have hl := h.len
  refine ⟨by rw [List.length_append, zg5, hl]; omega, fun c x hc hx => ?_⟩
  by_cases e : c < v
  · rw [zko hl e hx]; exact h.bit c x e hx
  · obtain rfl : c = v := by omega
    rw [zkp hl, hasW_of hx, digK_mem hx]
theorem gdN_end {r : Rul} (hr : r.ok) {cw : List UInt64} (h : GD r (nB r) cw) : (cw ++ notK (seenL cw (nB r))).length = (nB r + 1) * 4 ∧ ∀ c b, c < nB r + 1 → b < 256 → (hasC (cw ++ notK (seenL cw (nB r))) c b = true ↔ digC r (UInt8.ofNat b) = c) := by
  have hl := h.len
  have hB := z7e hr
  have hn : (notK (seenL cw (nB r))).length = 4 := z2l ..
  refine ⟨by rw [List.length_append, hn, hl]; omega, fun c b hc hb => ?_⟩
  have hd := zi4 hr (UInt8.ofNat b)
  by_cases e : c < nB r
  · rw [zko hl e hb, h.bit c b e hb, digC]
    split <;> omega
  · obtain rfl : c = nB r := by omega
    rw [zkp hl, zhk _ hb, Bool.not_eq_true', Bool.eq_false_iff, Ne, z6m _ hb, digC]
    constructor
    · intro hh
      split
      · rfl
      · exact absurd ⟨(z1o r.base (UInt8.ofNat b)).toNat, by omega, (h.bit _ b (by omega) hb).2 (by omega)⟩ hh
    · rintro hh ⟨x, hx, e2⟩
      have := (h.bit x b hx hb).1 e2
      rw [if_neg (by omega)] at hh
      omega
theorem zoz {f : FuncId} : ∀ {l : List Cell}, (∀ x ∈ l, x.pureB = true) → SV.ids (.c (.clo f l)) = []
  | [], _ => rfl
  | x :: l, h => by
    have h2 := zoz (f := f) fun y hy => h y (List.mem_cons_of_mem _ hy)
    have hx := h x List.mem_cons_self
    cases x <;> first | exact h2 | (simp [Cell.pureB] at hx; done)
theorem zvx {f : FuncId} {c : List Cell} {a b : SV} (ha : SV.ids a = []) (hb : SV.ids b = []) (h : ∀ x ∈ c, x.pureB = true) : List.flatMap SV.ids [a, b, .c (.clo f c)] = [] := by
  rw [List.flatMap_cons, List.flatMap_cons, List.flatMap_cons, ha, hb, zoz h]; rfl
structure BdIn (r : Rul) (P : Int × Bool → Bool) (q1 : QSpec) (c1 : List Cell) : Prop where
  ok : r.ok
  p0 : P (0, false) = false
  d1 : ∀ x ∈ c1, dataC x
  d2 : ∀ x ∈ c1, x.pureB = true ∧ ∀ g l, x ≠ Cell.clo g l
  h1 : ∀ s : Sta, s.ok → q1 ([staV s] ++ c1.map .c) (fun v => v = .c (.bool (P (z38 r s))))
def bldS (f1 : FuncId) (q1 : QSpec) : QSpec := fun vs K => ∃ (r : Rul) (P : Int × Bool → Bool) (c1 : List Cell), vs = [rulV r, .c (.clo f1 c1)] ∧ BdIn r P q1 c1 ∧ K (resV (canD (langN r P), 0))
noncomputable def cB (f1 : FuncId) (q1 : QSpec) : Ctx := { P := Tryd.prog, ty := ty, glob := gl, fs := [(111, .flat zml), (155, .flat ofBS), (107, .flat znu), (108, .flat notCS), (156, .data (asmS f1 q1))] }
theorem cB_ok {f1 : FuncId} {q1 : QSpec} (e1 : z2s Tryd.prog f1) (h1 : z1e Tryd.prog gl f1 q1) (hne : 112 ≠ f1 ∧ 168 ≠ f1 ∧ 169 ≠ f1) : (cB f1 q1).OK := ⟨tyOK, ⟨⟨z08 Tryd.func111 (by kernel_rfl) rfl, zkb⟩, ⟨z08 Tryd.func155 (by kernel_rfl) rfl, ofB_ok⟩, ⟨z08 Tryd.func107 (by kernel_rfl) rfl, zhh⟩, ⟨z08 Tryd.func108 (by kernel_rfl) rfl, zt2⟩, ⟨z08 Tryd.func156 (by kernel_rfl) rfl, asm_ok e1 h1 hne⟩, trivial⟩, mixed⟩
@[simp] theorem cB_ty {f1 : FuncId} {q1 : QSpec} : (cB f1 q1).ty = ty := rfl
attribute [local irreducible] z0l z26 zl z01 z16 putB canD digK
set_option maxHeartbeats 2000000 in
set_option maxRecDepth 4000 in
theorem zvy {f1 : FuncId} {q1 : QSpec} (e1 : z2s Tryd.prog f1) (q1ok : z1e Tryd.prog gl f1 q1) (hne : 112 ≠ f1 ∧ 168 ≠ f1 ∧ 169 ≠ f1) : z24 Tryd.prog gl 114 (bldS f1 q1) := by
 refine z1x (Γ := cB f1 q1) (N := 66) Tryd.func114 rfl rfl fun vs K h => ?_; obtain ⟨r, P, c1, rfl, hin, h⟩ := h; refine ⟨_, h, z1j _, by simp, fun w I => ?_⟩
 have hr := hin.ok
 have hB := z7e hr
 refine srR (cB_ok e1 q1ok hne) fun _ hK2 => ?_
 iterate 3 refine z2o ?_
 refine s_nil ?_; apply hK2; refine srR (cB_ok e1 q1ok hne) fun _ hK4 => ?_; refine z2o ?_; refine s_nil ?_; apply hK4; refine seq_k fun _ hK5 => ?_; refine leW [0] (fun i => i + 1) [(1, .c (.clo f1 c1)), (2, .c (.dp (rulC r) 0)), (4, .c (.ptr 0 0)), (6, .c (.ptr 1 0))] [(0, .own 30 (.cells [.nils, .nils, .nils]) 3), (1, .own 30 (.cells [.nils, .nils, .nils]) 3)] 2 [1, 2] uRn_0 uRn_0 uRn_0 uRn_0 ?_; refine srR (cB_ok e1 q1ok hne) fun _ hK7 => ?_; refine z2o ?_; refine z9i ?_; refine exA (.c (.int .i64 (((nB r : Nat) : Int)))) (as_eq (congrArg (fun v => SV.c (Cell.int IntKind.i64 v)) (hB.1.symm))) ?_; refine z2o ?_; refine s_nil ?_; apply hK7; refine z07 ?_; refine z5k 1 0 50 (.u64s []) rfl rfl rfl trivial ?_; refine z0p (α := List UInt64 × Nat × Nat) (fun g => [(1, .c (.clo f1 c1)), (2, .c (.dp (rulC r) 0)), (4, .c (.ptr 0 0)), (6, .c (.ptr 1 0)), (14, .c (.int .i64 (nB r : Nat))), (15, .c (.int .i64 (g.2.1 : Nat)))]) (fun g => [(0, .own 30 (.cells [.nils, .nils, .nils]) 3), (1, .own 30 (.cells [.slice 2 0 g.2.1 g.2.2, .nils, .nils]) 3), (2, .own 50 (.u64s g.1) (g.2.2 * 4))]) 3 (fun g => g.2.1 ≤ nB r ∧ GD r g.2.1 g.1 ∧ g.2.1 ≤ g.2.2) (fun g => nB r - g.2.1) ?_ ?_
 ·refine dnS [] id ([], 0, 0) ⟨Nat.zero_le _, gdN_zero r, Nat.le_refl _⟩ [0, 1, 2] uRn_0 uRn_0 uRn_0 uRn_0
 ·intro g hg
  obtain ⟨hg1, hgd, hg3⟩ := hg
  have hgl := hgd.len
  refine srR (cB_ok e1 q1ok hne) fun _ hK9 => ?_; refine z2o ?_; refine s_nil ?_; apply hK9; refine seq_k fun _ hK10 => ?_; refine z05 (b := _) rfl (fun h_t16 => ?_) (fun h_t16 => ?_)
  ·try simp only [dQ, if_true, if_false, reduceIte] at h_t16
   refine z0a ?_; apply hK10; refine seq_k fun _ hK11 => ?_; refine z07 ?_; refine srR (cB_ok e1 q1ok hne) fun _ hK13 => ?_
   iterate 2 refine z2o ?_
   refine s_nil ?_; apply hK13; refine srR (cB_ok e1 q1ok hne) fun _ hK15 => ?_; refine z2o ?_; refine s_nil ?_; apply hK15; refine seq_k fun _ hK16 => ?_; refine srR (cB_ok e1 q1ok hne) fun _ hK18 => ?_; refine z2o ?_; refine s_nil ?_; apply hK18; refine z07 ?_; refine ziz 8 5 (.u8s []) rfl rfl trivial ?_; refine z0p (α := Nat × Nat) (fun k => [(1, .c (.clo f1 c1)), (2, .c (.dp (rulC r) 0)), (4, .c (.ptr 0 0)), (6, .c (.ptr 1 0)), (14, .c (.int .i64 (nB r : Nat))), (15, .c (.int .i64 (g.2.1 : Nat))), (7, .c (.int .i64 (g.2.1 : Nat))), (8, .c (.slice 3 0 (digK r g.2.1 k.1).length k.2)), (18, .c (.int .i64 (k.1 : Nat)))]) (fun k => [(0, .own 30 (.cells [.nils, .nils, .nils]) 3), (1, .own 30 (.cells [.slice 2 0 g.2.1 g.2.2, .nils, .nils]) 3), (2, .own 50 (.u64s g.1) (g.2.2 * 4)), (3, .own 5 (.u8s (digK r g.2.1 k.1)) k.2)]) 4 (fun k => k.1 ≤ 256 ∧ (digK r g.2.1 k.1).length ≤ k.2) (fun k => 256 - k.1) ?_ ?_
   ·have hX0 : [] = (digK r g.2.1 0) := (zvw r g.2.1).symm
    have hL0 : 0 = (digK r g.2.1 0).length := by rw [← hX0]; rfl
    refine dnS [] id (0, 0) ⟨Nat.zero_le _, Nat.le_of_eq hL0.symm⟩ [0, 1, 2, 3] uRn_0 uRn_0 uRn_0 uRn_0
   ·intro k hk
    obtain ⟨hk1, hk2⟩ := hk
    have hdl := zoy r g.2.1 k.1
    refine srR (cB_ok e1 q1ok hne) fun _ hK20 => ?_; refine z2o ?_; refine s_nil ?_; apply hK20; refine seq_k fun _ hK21 => ?_; refine z05 (b := _) rfl (fun h_t19 => ?_) (fun h_t19 => ?_)
    ·try simp only [dQ, if_true, if_false, reduceIte] at h_t19
     refine z0a ?_; apply hK21; refine seq_k fun _ hK22 => ?_; refine z07 ?_; refine srR (cB_ok e1 q1ok hne) fun _ hK24 => ?_
     iterate 2 refine z2o ?_
     refine s_nil ?_; apply hK24
     have hk256 : k.1 < 256 := by omega
     refine srR (cB_ok e1 q1ok hne) fun _ hK26 => ?_
     iterate 3 refine z2o ?_
     refine z9i ?_; refine exA (.c (.u8 (UInt8.ofNat k.1))) (as_eq (congrArg (fun v => SV.c (Cell.u8 v)) (z80 _))) ?_; refine z9i ?_; refine ⟨r.base, UInt8.ofNat k.1, rfl, ?_⟩; refine DRn_0 ?_
     first | refine exI ?_ | (intro cap4 hcap4; refine exI ?_)
     iterate 2 refine z2o ?_
     refine s_nil ?_; apply hK26; refine z05 (b := _) rfl (fun h_t27 => ?_) (fun h_t27 => ?_)
     ·try simp only [dQ, if_true, if_false, reduceIte] at h_t27
      refine z03 (cB_ok e1 q1ok hne) fun _ hK27 => ?_
      iterate 2 refine zvt ?_
      refine zvv ?_; refine exA (.c (.u8 (UInt8.ofNat k.1))) (as_eq (congrArg (fun v => SV.c (Cell.u8 v)) (z80 _))) ?_; refine zvt ?_; refine zvv ?_; intro cap4 hcap4; refine exI ?_; refine zvt ?_; refine s_nil ?_; apply hK27; refine z09 ?_; apply hK22; refine z03 (cB_ok e1 q1ok hne) fun _ hK28 => ?_
      iterate 2 refine z2o ?_
      refine s_nil ?_; apply hK28
      have hX0 : (digK r g.2.1 k.1) ++ ([] ++ [UInt8.ofNat k.1]) = (digK r g.2.1 (k.1 + 1)) := digK_yes (by first | assumption | omega)
      have hL0 : (digK r g.2.1 k.1).length + 1 = (digK r g.2.1 (k.1 + 1)).length := by rw [← hX0, List.length_append]; rfl
      refine dnS [] (fun i => if i = 3 then 5 else i) (k.1 + 1, cap4) ⟨⟨by show k.1 + 1 ≤ 256; omega, (by rw [← hL0]; omega)⟩, (by show 256 - (k.1 + 1) < _; omega)⟩ [0, 1, 2, 5] ?_ ?_ ?_ ?_
      ·exact uRn_0
      ·exact uRn_0
      ·exact uRn_0
      ·exact uRn_0
     ·try simp only [dQ, if_true, if_false, reduceIte] at h_t27
      refine z0a ?_; refine z09 ?_; apply hK22; refine z03 (cB_ok e1 q1ok hne) fun _ hK29 => ?_
      iterate 2 refine z2o ?_
      refine s_nil ?_; apply hK29
      have hX0 : (digK r g.2.1 k.1) = (digK r g.2.1 (k.1 + 1)) := digK_no (by first | assumption | omega)
      have hL0 : (digK r g.2.1 k.1).length = (digK r g.2.1 (k.1 + 1)).length := by rw [← hX0]
      refine dnS [] id (k.1 + 1, k.2) ⟨⟨by show k.1 + 1 ≤ 256; omega, (by rw [← hL0]; exact hk2)⟩, (by show 256 - (k.1 + 1) < _; omega)⟩ [0, 1, 2, 3] ?_ ?_ ?_ ?_
      ·exact uRn_0
      ·exact uRn_0
      ·exact uRn_0
      ·exact uRn_0
    ·try simp only [dQ, if_true, if_false, reduceIte] at h_t19
     refine z0m ?_; refine z02 ?_; refine z02 ?_; refine z0i ?_; apply hK16
     obtain hk6 : k.1 = 256 := by omega
     have hdl := zoy r g.2.1 256
     rw [hk6]; rw [hk6] at hk2; refine leW [3] id [(1, .c (.clo f1 c1)), (2, .c (.dp (rulC r) 0)), (4, .c (.ptr 0 0)), (6, .c (.ptr 1 0)), (14, .c (.int .i64 (nB r : Nat))), (15, .c (.int .i64 (g.2.1 : Nat))), (8, .c (.ds (digK r g.2.1 256).length (.u8s (digK r g.2.1 256))))] [(0, .own 30 (.cells [.nils, .nils, .nils]) 3), (1, .own 30 (.cells [.slice 2 0 g.2.1 g.2.2, .nils, .nils]) 3), (2, .own 50 (.u64s g.1) (g.2.2 * 4))] 3 [0, 1, 2] uRn_0 uRn_0 uRn_0 uRn_0 ?_; refine z72 (cB_ok e1 q1ok hne) [(0, true), (1, true), (2, true), (3, false), (4, false), (5, false), (6, true), (7, false)] rfl (by kernel_rfl) (by kernel_rfl) fun _ hK30 => ?_
     iterate 3 refine zox ?_
     refine zcy ?_; refine ⟨(digK r g.2.1 256), rfl, by omega, ?_⟩; refine DRn_0 ?_
     first | refine exI ?_ | (intro cap3 hcap3; refine exI ?_)
     refine gXRn_5 ?_; refine zcy ?_; intro cap5 hcap5; refine exI ?_; refine zox ?_; refine zvu ?_; refine d_nil ?_; apply hK30; refine z09 ?_; apply hK11; refine z03 (cB_ok e1 q1ok hne) fun _ hK31 => ?_
     iterate 2 refine z2o ?_
     refine s_nil ?_; apply hK31; refine dnS [] (fun i => if i = 2 then 4 else i) (g.1 ++ ofW (digK r g.2.1 256), g.2.1 + 1, cap5) ⟨⟨by show g.2.1 + 1 ≤ _; omega, gdN_next hgd, (by show g.2.1 + 1 ≤ cap5; omega)⟩, (by show _ - (g.2.1 + 1) < _; omega)⟩ [0, 1, 4] ?_ ?_ ?_ ?_
     ·exact uRn_0
     ·exact uRn_0
     ·exact uRn_0
     ·exact uRn_0
  ·try simp only [dQ, if_true, if_false, reduceIte] at h_t16
   refine z0m ?_; refine z02 ?_; refine z02 ?_; refine z0i ?_; apply hK5
   have hv9 : g.2.1 = nB r := by omega
   rw [hv9]; rw [hv9] at hgd hg3
   have hgl := hgd.len
   refine srR (cB_ok e1 q1ok hne) fun _ hK33 => ?_; refine z2o ?_; refine s_nil ?_; apply hK33; refine seq_k fun _ hK34 => ?_; refine srR (cB_ok e1 q1ok hne) fun _ hK36 => ?_
   iterate 4 refine z2o ?_
   refine s_nil ?_; apply hK36; refine z07 ?_; refine z0p (α := Nat) (fun i => [(1, .c (.clo f1 c1)), (2, .c (.dp (rulC r) 0)), (4, .c (.ptr 0 0)), (6, .c (.ptr 1 0)), (10, .c (.ptr 3 0)), (43, .c (.slice 2 0 (nB r) g.2.2)), (44, .c (.int .i64 (nB r : Nat))), (45, .c (.int .i64 (i : Nat)))]) (fun i => [(0, .own 30 (.cells [.nils, .nils, .nils]) 3), (1, .own 30 (.cells [.slice 2 0 (nB r) g.2.2, .nils, .nils]) 3), (2, .own 50 (.u64s g.1) (g.2.2 * 4)), (3, .own 50 (.u64s (seenL g.1 i)) 4)]) 4 (fun i => i ≤ nB r) (fun i => nB r - i) ?_ ?_
   ·refine dnS [] id 0 (Nat.zero_le _) [0, 1, 2, 3] uRn_0 uRn_0 uRn_0 uRn_0
   ·intro i hi
    refine srR (cB_ok e1 q1ok hne) fun _ hK38 => ?_; refine z2o ?_; refine s_nil ?_; apply hK38; refine seq_k fun _ hK39 => ?_; refine z05 (b := _) rfl (fun h_t46 => ?_) (fun h_t46 => ?_)
    ·try simp only [dQ, if_true, if_false, reduceIte] at h_t46
     refine z0a ?_; apply hK39; refine seq_k fun _ hK40 => ?_; refine z07 ?_
     have hil : i < nB r := by omega
     have hca : (clsAt g.1 i).length = 4 := z3s hgl hil
     refine srR (cB_ok e1 q1ok hne) fun _ hK42 => ?_; refine z2o ?_; refine z9i ?_; refine exA (.agg (.u64s (clsAt g.1 i))) (as_eq (congrArg (fun j => SV.agg ((Cont.u64s g.1).sub j 4)) (by omega))) ?_; refine z2o ?_; refine zms ?_; refine s_nil ?_; apply hK42; refine z03 (cB_ok e1 q1ok hne) fun _ hK43 => ?_; refine z2o ?_; refine z9i ?_; refine exA (.agg (.u64s (clsAt g.1 i))) (SV.as_refl _) ?_; refine z9i ?_; refine ⟨seenL g.1 i, clsAt g.1 i, rfl, ⟨by simp, hca⟩, ?_⟩; refine DRn_0 ?_
     first | refine exI ?_ | (intro cap2 hcap2; refine exI ?_)
     refine zms ?_; refine s_nil ?_; apply hK43; refine z09 ?_; apply hK40; refine z03 (cB_ok e1 q1ok hne) fun _ hK44 => ?_
     iterate 2 refine z2o ?_
     refine s_nil ?_; apply hK44; refine dnS [] id (i + 1) ⟨by omega, by omega⟩ [0, 1, 2, 3] uRn_0 uRn_0 uRn_0 uRn_0
    ·try simp only [dQ, if_true, if_false, reduceIte] at h_t46
     refine z0m ?_; refine z02 ?_; refine z02 ?_; refine z0i ?_; apply hK34
     obtain hi9 : i = nB r := by omega
     rw [hi9]; refine srD (cB_ok e1 q1ok hne) [(0, true), (1, true), (2, true), (3, false), (4, false), (5, false), (6, true), (7, false)] rfl (by kernel_rfl) (by kernel_rfl) fun _ hK46 => ?_
     iterate 3 refine zox ?_
     refine zcy ?_; refine ⟨seenL g.1 (nB r), rfl, by simp, ?_⟩; refine DRn_0 ?_
     first | refine exI ?_ | (intro cap3 hcap3; refine exI ?_)
     refine gXRn_5 ?_; refine zcy ?_; intro cap5 hcap5; refine exI ?_; refine zox ?_; refine zvu ?_; refine d_nil ?_; apply hK46
     revert cap5 hcap5
     intro capA hcapA
     have hge := gdN_end hr hgd
     have hnl : (notK (seenL g.1 (nB r))).length = 4 := z2l ..
     refine leW [5] id [(1, .c (.clo f1 c1)), (2, .c (.dp (rulC r) 0)), (4, .c (.ptr 0 0)), (6, .c (.ptr 1 0))] [(0, .own 30 (.cells [.nils, .nils, .nils]) 3), (1, .own 30 (.cells [.ds (nB r + 1) (.u64s (g.1 ++ notK (seenL g.1 (nB r)))), .nils, .nils]) 3)] 2 [0, 1] uRn_0 uRn_0 uRn_0 uRn_0 ?_; refine srR (cB_ok e1 q1ok hne) fun _ hK48 => ?_
     iterate 3 refine z2o ?_
     refine z9i ?_; refine aI (fun x hx => (hin.d2 x hx).2) ?_; refine zbg (fun x hx => (hin.d2 x hx).1) ?_; refine ⟨r, P, (g.1 ++ notK (seenL g.1 (nB r))), c1, rfl, ⟨hr, hge.1, hge.2, hin.p0, hin.d1, hin.h1⟩, ?_⟩; rw [zvx rfl rfl fun x hx => (hin.d2 x hx).1]; refine DRn_0 ?_
     first | refine exI ?_ | (intro cap3 hcap3; refine exI ?_)
     iterate 2 refine z2o ?_
     refine zms ?_; refine z2o ?_; refine s_nil ?_; apply hK48; refine z0e (z0f (cB_ok e1 q1ok hne) (fun _ _ h => h) (z1j _) [] [.cell 4 30, .tmp 5] rfl ?_)
     all_goals exact uRn_0

end Go.Proofs.YtppmnaoollkboaaDoor

namespace Go.Proofs.YtppmnaoollkboaaDoor
set_option linter.all false
open Go.Ab Go.RowKit

open Go.Aut
theorem zp0 : ∀ (n : Nat) (d : Dfa), d.next.length ≤ n → d.ok → d.next.length ≤ 65536 → ∃ e g, Hom d e g ∧ Slim e ∧ e.next.length ≤ d.next.length
  | 0, d, h, ok, _ => absurd ok.npos (by omega)
  | n + 1, d, h, ok, h6 => by
    by_cases he : (keysO (kR d) (allS d)).length = d.next.length
    · exact ⟨d, id, znr ok, zss ok h6 he, Nat.le_refl _⟩
    · have hlt := rdc_lt he
      have hh := zsr ok h6
      obtain ⟨e, g, h1, h2, h3⟩ := zp0 n (rdc d) (by omega) hh.ok (by omega); exact ⟨e, _, zjp hh h1 ok, h2, by omega⟩
def CanOK (L : List Nat → Bool) : Prop := (canD L).good ∧ ∀ w, Bytes w → langD (canD L) w = L w
theorem red_good {d : Dfa} (h : RedIn d) : CanOK (langD d) := by
  obtain ⟨e, g, h1, h2, _⟩ := zp0 d.next.length d (Nat.le_refl _) h.ok h.len
  have h64 := h.few e g h1 h2
  obtain ⟨c1, c2, c3⟩ := canD_dfa h1.ok
  have e1 : canD (langD e) = canD (langD d) := z3r fun w hw => zhe h1 h.ok hw
  unfold CanOK; rw [← e1]; exact ⟨⟨c1, by omega⟩, fun w hw => by rw [zs7 c2 hw, zhe h1 h.ok hw]⟩
theorem zmt {L M : List Nat → Bool} (e : ∀ w, Bytes w → L w = M w) (h : CanOK L) : CanOK M := by
  have e1 := z3r e
  exact ⟨by rw [← e1]; exact h.1, fun w hw => by rw [← e1, h.2 w hw, e w hw]⟩
def decK (i : Nat) : Ky := if i = 0 then .st else if i = 1 then .dd else if i = 2 then .sa else if i < 54 then .wr ((i - 3 : Nat) : Int) else .nm (((i - 54) / 51 : Nat) : Int) (((i - 54) % 51 : Nat) : Int)
theorem dec_num {r : Rul} (hr : r.ok) {k : Ky} (h : KOK r k) : decK (numKy k) = k := by
  have h1 := hr.t2
  cases k with
  | st => rfl
  | dd => rfl
  | sa => rfl
  | wr m =>
    obtain ⟨a, b, c⟩ := h; rw [decK, numKy, if_neg (by omega), if_neg (by omega), if_neg (by omega), if_pos (by omega)]
    congr 1; omega
  | nm d n =>
    obtain ⟨a, b, c, e, _⟩ := h; rw [decK, numKy, if_neg (by omega), if_neg (by omega), if_neg (by omega), if_neg (by omega)]
    congr 1 <;> omega
open Classical in
noncomputable def keyA (r : Rul) (i : Nat) : Ky := if KOK r (decK i) then decK i else .dd
noncomputable def allK (r : Rul) : List Ky := keysO (keyA r) (List.range 411)
theorem keyA_ok (r : Rul) (i : Nat) : KOK r (keyA r i) := by
  unfold keyA
  split
  · assumption
  · trivial
theorem zp1 {r : Rul} (hr : r.ok) {k : Ky} (h : KOK r k) : k ∈ allK r := by
  refine (z1k _ _).2 ⟨numKy k, List.mem_range.2 (zor hr h), ?_⟩; rw [keyA, dec_num hr h, if_pos h]
theorem zqp (r : Rul) : Grown r (allK r) := by
  have e : List.range 411 = [0, 1] ++ (List.range 409).map (· + 2) := by
    rw [show (411 : Nat) = 409 + 1 + 1 from rfl, List.range_succ_eq_map, List.range_succ_eq_map]
    simp
  obtain ⟨x, hx⟩ := z5p (key := keyA r) [0, 1] ((List.range 409).map (· + 2))
  have h0 : keyA r 0 = .st := by rw [keyA, if_pos (by trivial)]; rfl
  have h1 : keyA r 1 = .dd := by rw [keyA, if_pos (by trivial)]; rfl
  have h2 : keysO (keyA r) [0, 1] = [.st, .dd] := by
    show addK (addK [] (keyA r 0)) (keyA r 1) = _
    rw [h0, h1]; rfl
  rw [← e, h2] at hx; refine ⟨z3n _, fun k hk => ?_, ?_, ?_⟩
  · obtain ⟨i, _, rfl⟩ := (z1k _ _).1 hk
    exact keyA_ok r i
  · rw [allK, hx]; rfl
  · rw [allK, hx]; rfl
attribute [local irreducible] allK
noncomputable def rowA (r : Rul) (k : Ky) : List Int := (List.range (nB r + 1)).map fun c => ((idxK (allK r) (if c < nB r then stepK r k (c : Nat) else .dd) : Nat) : Int)
theorem rowA_ok {r : Rul} (hr : r.ok) {k : Ky} (hk : KOK r k) : RowOK r (allK r) k (nB r) (rowA r k) := by
  refine ⟨by simp [rowA], fun c hc => ⟨_, z0h hc, zh4 ?_⟩⟩
  split
  · exact zp1 hr (zve hr hk (by omega))
  · exact zp1 hr trivial
theorem num_tab {r : Rul} (hr : r.ok) (P : Int × Bool → Bool) : ∃ d, TabOK r P d (allK r) := by
  obtain ⟨cls, h1, h2⟩ := zni (nB r + 1) fun c b => decide (digC r (UInt8.ofNat b) = c)
  have hg := zqp r
  refine ⟨⟨cls, nB r + 1, (allK r).map (rowA r), (allK r).map fun k => P (valK r k)⟩, hg, rfl, h1, fun c b hc hb => by rw [h2 c b hc hb, decide_eq_true_eq], List.length_map _, fun i k hi => ?_, List.length_map _, fun i k hi => ?_⟩
  · have : ((allK r).map (rowA r)).getD i [] = rowA r k := z4o (by rw [List.getElem?_map, hi]; rfl)
    rw [this]; exact rowA_ok hr (hg.ok k (List.mem_of_getElem? hi))
  · exact z4o (by rw [List.getElem?_map, hi]; rfl)
theorem tab_red {r : Rul} (hr : r.ok) {P : Int × Bool → Bool} {d : Dfa} {ks : List Ky} (h : TabOK r P d ks) : RedIn d := by
  have h1 := zkf hr h.gr
  have h2 := h.nlen
  have h3 := h.ncE
  have h4 := z7e hr
  exact ⟨zi5 hr h, by omega, by omega, zki hr h⟩
theorem zaj {r : Rul} (hr : r.ok) (P : Int × Bool → Bool) : CanOK (langN r P) := by
  obtain ⟨d, hd⟩ := num_tab hr P; exact zmt (fun w hw => zge hr hd hw) (red_good (tab_red hr hd))
def okT (r : Rul) (n : Int) : Bool := r.okB && decide (0 ≤ n) && decide (n ≤ r.top)
theorem zf7 {r : Rul} {n : Int} : okT r n = true ↔ r.ok ∧ 0 ≤ n ∧ n ≤ r.top := by
  rw [okT, Bool.and_eq_true, Bool.and_eq_true, z7d, decide_eq_true_eq, decide_eq_true_eq, and_assoc]
def Pn (n : Int) (v : Int × Bool) : Bool := v.2 && decide (v.1 = n)
def Pa (v : Int × Bool) : Bool := v.2
noncomputable def zf8 (r : Rul) (n : Int) : Dfa × Nat := if okT r n = true then (canD (langN r (Pn n)), 0) else (noD, 1)
noncomputable def allR (r : Rul) : Dfa × Nat := if r.okB = true then (canD (langN r Pa), 0) else (noD, 1)
noncomputable def zak (r : Rul) (n : Int) : Option (List Nat) := if okT r n = true then z3e (langN r (Pn n)) else none
theorem zvz {r : Rul} (hr : r.ok) (P : Int × Bool → Bool) : lstR (canD (langN r P)) = z3e (langN r P) := by
  have h := zaj hr P
  rw [lstR, if_pos (z6o h.1)]; exact z7y h.2
theorem z7f {r : Rul} : z8x r = 0 ↔ r.okB = true := by
  rw [z8x]
  split <;> simp_all
theorem okT_a {r : Rul} {n : Int} (h : ¬ z8x r = 0) : okT r n = false := by
  rw [Bool.eq_false_iff]; exact fun hh => h (z7f.2 (z7d.2 (zf7.1 hh).1))
theorem okT_b {r : Rul} {n : Int} (h : n < 0) : okT r n = false := by
  rw [Bool.eq_false_iff]; intro hh
  have := (zf7.1 hh).2.1
  omega
theorem okT_c {r : Rul} {n : Int} (h : z8x r = 0) (h0 : ¬ n < 0) : decide (r.top < n) = !okT r n := by
  rw [okT, z7f.1 h, decide_eq_true (by omega : 0 ≤ n), Bool.true_and, Bool.true_and]
  by_cases e : n ≤ r.top
  · rw [decide_eq_true e, decide_eq_false (by omega)]; rfl
  · rw [decide_eq_false e, decide_eq_true (by omega)]; rfl

end Go.Proofs.YtppmnaoollkboaaDoor

namespace Go.Proofs.YtppmnaoollkboaaDoor
set_option linter.all false
open Go.Ab Go.RowKit

theorem qRp0 {a : Prop} (h : a := by first | exact vcA | (simp <;> omega) | exact vcB) : a := h
theorem uRp_0 {a : Prop} (h : a := by
    repeat' (first | exact pT  | exact trivial | refine aI ?_ ?_ | exact cC0 | refine low_cons' ?_ ?_ | exact cC1 | fail)
    all_goals first | omega | exact z35 _ | exact z1j _ | exact z8w _ | (show (_ : Bool) = !okT r n; first | (rw [okT_a (r := r) (n := n) hb3]; rfl) | (rw [okT_b (r := r) (n := n) hb7]; rfl) | exact okT_c (r := r) (n := n) hb3 hb7 | exact okT_c (r := r) (n := n) hb3 (Int.not_lt.2 hb7)) | (simp; done)| (show (0 : Nat) < (z01 _ _ _ _).length; rw [z00 hcl]; decide) | (simp [-List.reduceReplicate]; done) | (simp [-List.reduceReplicate] <;> omega) | skip) : a := h
theorem DRp_0 {a b : Prop} (kZ : b) (h : HidB b → a := by intro kZ; (repeat first | refine aI qRp0 ?_ | refine z06 qRp0 ?_ | refine z04 qRp0 ?_ | refine z0k qRp0 ?_ | refine z0b ?_); exact kZ.out) : a := h ⟨kZ⟩
theorem z1r {a b : Prop} (kZ : b) (h : HidB b → a := by intro kZ; refine sX ?_; refine DRp_0 ?_; refine exI ?_; exact kZ.out) : a := h ⟨kZ⟩
theorem zf9 {a b : Prop} (kZ : b) (h : HidB b → a := by intro kZ; refine sX0 ?_; refine DRp_0 ?_; refine exI ?_; exact kZ.out) : a := h ⟨kZ⟩
theorem zib {a b : Prop} (kZ : b) (h : HidB b → a := by intro kZ; refine sXT ?_; refine DRp_0 ?_; refine exI ?_; exact kZ.out) : a := h ⟨kZ⟩
theorem z41 {a b : Prop} (kZ : b) (h : HidB b → a := by intro kZ; refine sX ?_; refine DRp_0 ?_; exact kZ.out) : a := h ⟨kZ⟩

open Go.Aut
attribute [local irreducible] z0l z26 zl z01 z16 putB canD
def alB (r : Rul) (s : Sta) : Bool := (z38 r s).2
def la1S : QSpec := fun vs K => ∃ (r : Rul) (s : Sta), vs = [staV s, .c (dpR r)] ∧ K (.c (.bool (alB r s)))
set_option maxHeartbeats 1000000 in
set_option maxRecDepth 4000 in
theorem la1_ok : z1e Tryd.prog gl 119 la1S := by
 refine z23 (Γ := gh8) (N := 13) Tryd.func119 rfl rfl fun vs K h => ?_; obtain ⟨r, s, rfl, h⟩ := h; refine ⟨_, h, rfl, by simp, fun w I => ?_⟩; refine srR z5w fun _ hK2 => ?_
 iterate 2 refine z1r ?_
 refine s_nil ?_; apply hK2; refine srR z5w fun _ hK4 => ?_
 iterate 2 refine z1r ?_
 refine z41 ?_; refine ⟨r, s, rfl, ?_⟩; refine DRp_0 ?_
 first | refine exI ?_ | (intro cap2 hcap2; refine exI ?_)
 iterate 5 refine z1r ?_
 refine s_nil ?_; apply hK4; refine srR z5w fun _ hK6 => ?_
 iterate 2 refine z1r ?_
 refine s_nil ?_; apply hK6; refine z0e (z0d z5w (fun _ _ h => h) (by first | rfl | assumption) [.tmp 3] rfl ?_); refine rtD ?_
 show SV.c (.bool _) = _
 rfl

theorem zfa {c : Cont} {o : Nat} : (Cell.dp c o).pureB = true ∧ ∀ g l, Cell.dp c o ≠ Cell.clo g l := ⟨rfl, fun g l e => by cases e⟩
theorem bd_all {r : Rul} (h : r.ok) : BdIn r Pa la1S [dpR r] := ⟨h, rfl, z22 z4d z3d, fun x hx => by rw [List.mem_singleton.1 hx]; exact zfa, fun s _ => ⟨r, s, rfl, rfl⟩⟩
theorem bd_tx {r : Rul} {n : Int} (h : r.ok) : BdIn r (Pn n) tx1S [dpR r, dpI n] := ⟨h, rfl, z22 z4d (z22 z4d z3d), fun x hx => by
  rcases List.mem_cons.1 hx with rfl | hx
  · exact zfa
  · rw [List.mem_singleton.1 hx]; exact zfa, fun s _ => ⟨r, n, s, rfl, rfl⟩⟩
theorem bd_wr {r : Rul} {n : Int} (h : r.ok) : BdIn r (Pn n) wr1S [dpR r, dpI n] := ⟨h, rfl, z22 z4d (z22 z4d z3d), fun x hx => by
  rcases List.mem_cons.1 hx with rfl | hx
  · exact zfa
  · rw [List.mem_singleton.1 hx]; exact zfa, fun s _ => ⟨r, n, s, rfl, rfl⟩⟩
theorem z8d {r : Rul} (h : r.ok) (P : Int × Bool → Bool) : (canD (langN r P)).wf := zto (zaj h P).1
noncomputable def gnq1 : Ctx := { P := Tryd.prog, ty := ty, glob := gl, fs := [(64, .flat zbk), (114, .data (bldS 119 la1S))] }
theorem zbs : gnq1.OK := ⟨tyOK, ⟨⟨z08 Tryd.func64 (by kernel_rfl) rfl, z8a⟩, ⟨z08 Tryd.func114 (by kernel_rfl) rfl, (zvy (z08 Tryd.func119 (by kernel_rfl) rfl) la1_ok (by decide))⟩, trivial⟩, mixed⟩
@[simp] theorem gnq1_ty : gnq1.ty = ty := rfl

noncomputable def gnq2 : Ctx := { P := Tryd.prog, ty := ty, glob := gl, fs := [(64, .flat zbk), (114, .data (bldS 121 tx1S))] }
theorem zbt : gnq2.OK := ⟨tyOK, ⟨⟨z08 Tryd.func64 (by kernel_rfl) rfl, z8a⟩, ⟨z08 Tryd.func114 (by kernel_rfl) rfl, (zvy (z08 Tryd.func121 (by kernel_rfl) rfl) tx1_ok (by decide))⟩, trivial⟩, mixed⟩
@[simp] theorem gnq2_ty : gnq2.ty = ty := rfl

noncomputable def gnq3 : Ctx := { P := Tryd.prog, ty := ty, glob := gl, fs := [(64, .flat zbk), (114, .data (bldS 115 wr1S)), (29, .data zmh)] }
theorem z8e : gnq3.OK := ⟨tyOK, ⟨⟨z08 Tryd.func64 (by kernel_rfl) rfl, z8a⟩, ⟨z08 Tryd.func114 (by kernel_rfl) rfl, (zvy (z08 Tryd.func115 (by kernel_rfl) rfl) wr1_ok (by decide))⟩, ⟨z08 Tryd.func29 (by kernel_rfl) rfl, zk9⟩, trivial⟩, mixed⟩
@[simp] theorem gnq3_ty : gnq3.ty = ty := rfl

def zgg : QSpec := fun vs K => ∃ r : Rul, vs = [rulV r] ∧ K (resV (allR r))
set_option maxHeartbeats 1000000 in
set_option maxRecDepth 4000 in
theorem zkq : z24 Tryd.prog gl 60 zgg := by
 refine z1x (Γ := gnq1) (N := 13) Tryd.func60 rfl rfl fun vs K h => ?_; obtain ⟨r, rfl, h⟩ := h; refine ⟨_, h, z1j _, by simp, fun w I => ?_⟩; refine srR zbs fun _ hK2 => ?_
 iterate 3 refine z1r ?_
 refine s_nil ?_; apply hK2; refine seq_k fun _ hK3 => ?_; refine leW [0] (fun _ => 1) [(1, .c (.dp (rulC r) 0)), (2, .c (.ptr 0 0))] [(0, .own 30 (.cells [.nils, .nils, .nils]) 3)] 1 [1] uRp_0 uRp_0 uRp_0 uRp_0 ?_; refine srR zbs fun _ hK5 => ?_; refine z1r ?_; refine z41 ?_; refine ⟨r, rfl, ?_⟩; refine DRp_0 ?_
 first | refine exI ?_ | (intro cap1 hcap1; refine exI ?_)
 refine z1r ?_; refine s_nil ?_; apply hK5; refine z05 (b := _) rfl (fun h_t6 => ?_) (fun h_t6 => ?_)
 ·try simp only [dQ, if_true, if_false, reduceIte] at h_t6
  refine srR zbs fun _ hK7 => ?_; refine z1r ?_; refine zf9 ?_; refine z1r ?_; refine s_nil ?_; apply hK7; rw [allR, if_neg (fun e => absurd (z7f.2 e) (by first | assumption | omega))]; refine z0e (z0f zbs (fun _ _ h => h) (z1j _) [] [.cell 2 30, .tmp 3] rfl ?_)
  all_goals exact uRp_0
 ·try simp only [dQ, if_true, if_false, reduceIte] at h_t6
  refine z0a ?_; apply hK3
  have hok : r.okB = true := z7f.1 (by first | assumption | omega)
  have hr := z7d.1 hok
  refine srR zbs fun _ hK9 => ?_
  iterate 2 refine z1r ?_
  refine z41 ?_; refine ⟨r, Pa, [dpR r], rfl, bd_all hr, ?_⟩; refine DRp_0 ?_
  first | refine exI ?_ | (intro cap2 hcap2; refine exI ?_)
  iterate 2 refine z1r ?_
  refine zf9 ?_; refine z1r ?_; refine s_nil ?_; apply hK9; rw [allR, if_pos hok]; refine z0e (z0f zbs (fun _ _ h => h) (z1j _) [] [.cell 2 30, .tmp 3] rfl ?_)
  all_goals exact uRp_0

def zmu : QSpec := fun vs K => ∃ (r : Rul) (n : Int), vs = [rulV r, .c (.int .i64 n)] ∧ K (resV (zf8 r n))
set_option maxHeartbeats 1000000 in
set_option maxRecDepth 4000 in
theorem zkr : z24 Tryd.prog gl 62 zmu := by
 refine z1x (Γ := gnq2) (N := 25) Tryd.func62 rfl rfl fun vs K h => ?_; obtain ⟨r, n, rfl, h⟩ := h; refine ⟨_, h, z1j _, by simp, fun w I => ?_⟩; refine srR zbt fun _ hK2 => ?_
 iterate 4 refine z1r ?_
 refine s_nil ?_; apply hK2; refine seq_k fun _ hK3 => ?_; refine z2n (α := Unit) (fun _ => [(2, .c (.dp (rulC r) 0)), (3, .c (.dp (.ints .i64 [n]) 0)), (4, .c (.ptr 0 0)), (18, .c (.bool (!okT r n)))]) (fun _ => [(0, .own 30 (.cells [.nils, .nils, .nils]) 3)]) 1 (fun _ => True) ?_ ?_
 ·refine leW [0, 1] (fun _ => 2) [(2, .c (.dp (rulC r) 0)), (3, .c (.dp (.ints .i64 [n]) 0)), (4, .c (.ptr 0 0))] [(0, .own 30 (.cells [.nils, .nils, .nils]) 3)] 1 [2] uRp_0 uRp_0 uRp_0 uRp_0 ?_
  refine z03 zbt fun _ hK4 => ?_; refine z1r ?_; refine z41 ?_; refine ⟨r, rfl, ?_⟩; refine DRp_0 ?_
  first | refine exI ?_ | (intro cap1 hcap1; refine exI ?_)
  refine z1r ?_; refine z41 ?_; refine exB (fun hb3 => ?_) (fun hb3 => ?_)
  ·try simp only [dQ, if_true, if_false, reduceIte] at hb3
   iterate 2 refine sN ?_
   refine z1r ?_; refine z41 ?_; refine exB (fun hb7 => ?_) (fun hb7 => ?_)
   rotate_left 1
   ·exfalso; simp at hb7
   iterate 4 refine sN ?_
   refine z1r ?_; refine s_nil ?_; apply hK4; refine dnS [] id () trivial [0] uRp_0 uRp_0 uRp_0 uRp_0
  ·try simp only [dQ, if_true, if_false, reduceIte] at hb3
   iterate 2 refine zib ?_
   refine z1r ?_; refine z41 ?_; refine exB (fun hb7 => ?_) (fun hb7 => ?_)
   ·try simp only [dQ, if_true, if_false, reduceIte] at hb7
    iterate 4 refine sN ?_
    refine z1r ?_; refine s_nil ?_; apply hK4; refine dnS [] id () trivial [0] uRp_0 uRp_0 uRp_0 uRp_0
   ·try simp only [dQ, if_true, if_false, reduceIte] at hb7
    iterate 4 refine zib ?_
    refine z1r ?_; refine s_nil ?_; apply hK4; refine dnS [] id () trivial [0] uRp_0 uRp_0 uRp_0 uRp_0
 ·intro u hu
  clear hu; refine z05 (b := _) rfl (fun h_t18 => ?_) (fun h_t18 => ?_)
  ·refine srR zbt fun _ hK6 => ?_
   refine z1r ?_; refine zf9 ?_; refine z1r ?_; refine s_nil ?_; apply hK6
   have hok : okT r n = false := by first | assumption | (simpa using h_t18)
   rw [zf8, if_neg (by rw [hok]; decide)]; refine z0e (z0f zbt (fun _ _ h => h) (z1j _) [] [.cell 4 30, .tmp 5] rfl ?_)
   all_goals exact uRp_0
  ·refine z0a ?_; apply hK3
   have hok : okT r n = true := by first | assumption | (simpa using h_t18)
   obtain ⟨hr, hn0, hnt⟩ := zf7.1 hok; refine srR zbt fun _ hK8 => ?_
   iterate 2 refine z1r ?_
   refine z41 ?_
   try refine aI (fun x hx => (bd_tx (n := n) hr).d2 x hx |>.2) ?_
   refine ⟨r, Pn n, [dpR r, dpI n], rfl, bd_tx hr, ?_⟩; refine DRp_0 ?_
   first | refine exI ?_ | (intro cap2 hcap2; refine exI ?_)
   iterate 2 refine z1r ?_
   refine zf9 ?_; refine z1r ?_; refine s_nil ?_; apply hK8; rw [zf8, if_pos hok]; refine z0e (z0f zbt (fun _ _ h => h) (z1j _) [] [.cell 4 30, .tmp 5] rfl ?_)
   all_goals exact uRp_0

def zw0 : QSpec := fun vs K => ∃ (r : Rul) (n : Int), vs = [rulV r, .c (.int .i64 n)] ∧ K (lsV (zak r n))
set_option maxHeartbeats 1000000 in
set_option maxRecDepth 4000 in
theorem zw1 : z24 Tryd.prog gl 57 zw0 := by
 refine z1x (Γ := gnq3) (N := 33) Tryd.func57 rfl rfl fun vs K h => ?_; obtain ⟨r, n, rfl, h⟩ := h; refine ⟨_, h, z8w _, by simp, fun w I => ?_⟩; refine srR z8e fun _ hK2 => ?_
 iterate 4 refine z1r ?_
 refine s_nil ?_; apply hK2; refine seq_k fun _ hK3 => ?_; refine z2n (α := Unit) (fun _ => [(2, .c (.dp (rulC r) 0)), (3, .c (.dp (.ints .i64 [n]) 0)), (20, .c (.bool (!okT r n)))]) (fun _ => []) 0 (fun _ => True) ?_ ?_
 ·refine leW [0, 1] id [(2, .c (.dp (rulC r) 0)), (3, .c (.dp (.ints .i64 [n]) 0))] [] 0 [] uRp_0 uRp_0 uRp_0 uRp_0 ?_
  refine z03 z8e fun _ hK4 => ?_; refine z1r ?_; refine z41 ?_; refine ⟨r, rfl, ?_⟩; refine DRp_0 ?_
  first | refine exI ?_ | (intro cap1 hcap1; refine exI ?_)
  refine z1r ?_; refine z41 ?_; refine exB (fun hb3 => ?_) (fun hb3 => ?_)
  ·try simp only [dQ, if_true, if_false, reduceIte] at hb3
   iterate 2 refine sN ?_
   refine z1r ?_; refine z41 ?_; refine exB (fun hb7 => ?_) (fun hb7 => ?_)
   rotate_left 1
   ·exfalso; simp at hb7
   iterate 4 refine sN ?_
   refine z1r ?_; refine s_nil ?_; apply hK4; refine dnS [] id () trivial [] uRp_0 uRp_0 uRp_0 uRp_0
  ·try simp only [dQ, if_true, if_false, reduceIte] at hb3
   iterate 2 refine zib ?_
   refine z1r ?_; refine z41 ?_; refine exB (fun hb7 => ?_) (fun hb7 => ?_)
   ·try simp only [dQ, if_true, if_false, reduceIte] at hb7
    iterate 4 refine sN ?_
    refine z1r ?_; refine s_nil ?_; apply hK4; refine dnS [] id () trivial [] uRp_0 uRp_0 uRp_0 uRp_0
   ·try simp only [dQ, if_true, if_false, reduceIte] at hb7
    iterate 4 refine zib ?_
    refine z1r ?_; refine s_nil ?_; apply hK4; refine dnS [] id () trivial [] uRp_0 uRp_0 uRp_0 uRp_0
 ·intro u hu
  clear hu; refine z05 (b := _) rfl (fun h_t20 => ?_) (fun h_t20 => ?_)
  ·refine srR z8e fun _ hK6 => ?_
   iterate 2 refine z1r ?_
   refine s_nil ?_; apply hK6
   have hok : okT r n = false := by first | assumption | (simpa using h_t20)
   rw [zak, if_neg (by rw [hok]; decide)]; refine z0e (z0f z8e (fun _ _ h => h) (z8w _) [] [.tmp 4, .tmp 5] rfl ?_)
   all_goals exact uRp_0
  ·refine z0a ?_; apply hK3
   have hok : okT r n = true := by first | assumption | (simpa using h_t20)
   obtain ⟨hr, hn0, hnt⟩ := zf7.1 hok; refine srR z8e fun _ hK8 => ?_
   iterate 2 refine z1r ?_
   refine z41 ?_
   try refine aI (fun x hx => (bd_wr (n := n) hr).d2 x hx |>.2) ?_
   refine ⟨r, Pn n, [dpR r, dpI n], rfl, bd_wr hr, ?_⟩; refine DRp_0 ?_
   first | refine exI ?_ | (intro cap2 hcap2; refine exI ?_)
   iterate 4 refine z1r ?_
   refine zf9 ?_; refine z1r ?_; refine s_nil ?_; apply hK8; refine seq_k fun _ hK9 => ?_; refine srR z8e fun _ hK11 => ?_
   iterate 2 refine z1r ?_
   refine s_nil ?_; apply hK11; refine z05 (b := _) rfl (fun h_t28 => ?_) (fun _ => ?_)
   ·exfalso; first | (simp at h_t28; done) | exact absurd h_t28 (by decide)
   refine z0a ?_; apply hK9; refine srR z8e fun _ hK13 => ?_; refine z1r ?_; refine z41 ?_; refine ⟨canD (langN r (Pn n)), rfl, z8d hr _, ?_⟩; rw [zvz hr]; refine DRp_0 ?_
   first | refine exI ?_ | (intro cap1 hcap1; refine exI ?_)
   iterate 4 refine z1r ?_
   refine s_nil ?_; apply hK13; rw [zak, if_pos hok]; refine z0e (z0f z8e (fun _ _ h => h) (z8w _) [] [.tmp 4, .tmp 5] rfl ?_)
   all_goals exact uRp_0


end Go.Proofs.YtppmnaoollkboaaDoor

namespace Go.Proofs.YtppmnaoollkboaaDoor
set_option linter.all false
open Go.Ab Go.RowKit

theorem qRq0 {a : Prop} (h : a := by first | exact vcA | (simp <;> omega) | decide | (show _ < _; decide) | exact vcB) : a := h
theorem DRq_0 {a b : Prop} (kZ : b) (h : HidB b → a := by intro kZ; (repeat first | refine aI qRq0 ?_ | refine z06 qRq0 ?_ | refine z04 qRq0 ?_ | refine z0k qRq0 ?_ | refine z0b ?_); exact kZ.out) : a := h ⟨kZ⟩
theorem z1s {a b : Prop} (kZ : b) (h : HidB b → a := by intro kZ; refine sX ?_; refine DRq_0 ?_; refine exI ?_; exact kZ.out) : a := h ⟨kZ⟩
theorem z5h {a b : Prop} (kZ : b) (h : HidB b → a := by intro kZ; refine sX0 ?_; refine DRq_0 ?_; refine exI ?_; exact kZ.out) : a := h ⟨kZ⟩
theorem z8f {a b : Prop} (kZ : b) (h : HidB b → a := by intro kZ; refine sXT ?_; refine DRq_0 ?_; refine exI ?_; exact kZ.out) : a := h ⟨kZ⟩
theorem z14 {a b : Prop} (kZ : b) (h : HidB b → a := by intro kZ; refine sX ?_; refine DRq_0 ?_; exact kZ.out) : a := h ⟨kZ⟩
theorem z0s {a b : Prop} (kZ : b) (h : HidB b → a := by intro kZ; refine sXT ?_; refine DRq_0 ?_; exact kZ.out) : a := h ⟨kZ⟩

open Go.Aut
def rA : Rul := ⟨10, 2, 20, 0, false⟩
def rS : Rul := ⟨10, 2, 20, 1, false⟩
def rW : Rul := ⟨10, 2, 20, 2, false⟩
def rZ : Rul := ⟨10, 2, 20, 2, true⟩
def rX : Rul := ⟨16, 2, 20, 2, true⟩
def r1 : Rul := ⟨10, 1, 20, 0, false⟩
def r1s : Rul := ⟨10, 1, 20, 1, false⟩
theorem rX_ok : rX.ok := z7d.1 (by decide)
theorem r1_ok : r1.ok := z7d.1 (by decide)
theorem r1s_ok : r1s.ok := z7d.1 (by decide)
theorem zal {r : Rul} (hr : r.ok) {n : Int} {w : List Nat} : langN r (Pn n) w = true ↔ valK r (wordK r (w.map UInt8.ofNat)) = (n, true) := by
  rw [langN, zi3 hr, Pn, Bool.and_eq_true, decide_eq_true_eq]
  constructor
  · rintro ⟨h1, h2⟩; exact Prod.ext h2 h1
  · intro h; rw [h]; exact ⟨rfl, rfl⟩
theorem one_X : ∀ b, b < 256 → valK rX (wordK rX [UInt8.ofNat b]) = (10, true) → 65 ≤ b := by decide +kernel
theorem write_X : zak rX 10 = some [65] := by
  rw [zak, if_pos (by decide)]; refine z5b ⟨by unfold Bytes; decide, (zal rX_ok).2 (by decide +kernel), fun v hv h => ?_⟩
  have h := (zal rX_ok).1 h
  match v, hv, h with
  | [], _, h => exact absurd h (by decide +kernel)
  | [b], hv, h =>
    have h1 := one_X b (hv b List.mem_cons_self) h
    rcases Nat.lt_or_ge 65 b with h2 | h2
    · exact .inr (.inr ⟨rfl, .inl h2⟩)
    · obtain rfl : b = 65 := by omega
      exact .inl rfl
  | _ :: _ :: _, _, _ => exact .inr (.inl (by simp))
theorem one_1 : ∀ b, b < 256 → byteK r1 .st (UInt8.ofNat b) = .dd ∨ byteK r1 .st (UInt8.ofNat b) = .nm 1 ((b : Int) - 48) ∧ 48 ≤ b ∧ b ≤ 57 := by decide +kernel
theorem one_1s : ∀ b, b < 256 → byteK r1s .st (UInt8.ofNat b) = .dd ∨ byteK r1s .st (UInt8.ofNat b) = .nm 1 ((b : Int) - 48) ∧ 48 ≤ b ∧ b ≤ 57 := by decide +kernel
theorem digit_r {r : Rul} (h : r.base = 10) : ∀ b, b < 256 → 0 ≤ z1o r.base (UInt8.ofNat b) → 48 ≤ b := by
  rw [h]; exact (by decide +kernel : ∀ b, b < 256 → 0 ≤ z1o 10 (UInt8.ofNat b) → 48 ≤ b)
theorem write_1 : zak r1 10 = none := by
  rw [zak, if_pos (by decide)]; refine z98 fun v hv => ?_; rw [Bool.eq_false_iff]; intro h
  have h := (zal r1_ok).1 h
  match v, hv, h with
  | [], _, h => exact absurd h (by decide +kernel)
  | [b], hv, h =>
    have h1 := one_1 b (hv b List.mem_cons_self)
    have h : valK r1 (byteK r1 .st (UInt8.ofNat b)) = (10, true) := h
    rcases h1 with e | ⟨e, h2, h3⟩
    · rw [e] at h; cases h
    · rw [e] at h
      have := congrArg Prod.fst h
      have : (b : Int) - 48 = 10 := this
      omega
  | a :: b :: l, hv, h =>
    have h1 := one_1 a (hv a List.mem_cons_self)
    have e2 : byteK r1 (byteK r1 .st (UInt8.ofNat a)) (UInt8.ofNat b) = .dd := by
      rcases h1 with e | ⟨e, h2, h3⟩
      · rw [e]; exact zcx r1 [UInt8.ofNat b]
      · rw [e, byteK]
        split
        · rfl
        · show (if (a : Int) - 48 = 0 ∧ r1.zeros = false then Ky.dd else numK r1 (1 + 1) _) = _
          split
          · rfl
          · rw [numK, if_pos (.inl (by decide))]; exact if_pos rfl
    have h : valK r1 ((l.map UInt8.ofNat).foldl (byteK r1) (byteK r1 (byteK r1 .st (UInt8.ofNat a)) (UInt8.ofNat b))) = (10, true) := h
    rw [e2, zcx] at h; cases h
theorem write_1s : zak r1s 20 = some [49, 48] := by
  rw [zak, if_pos (by decide)]; refine z5b ⟨by unfold Bytes; decide, (zal r1s_ok).2 (by decide +kernel), fun v hv h => ?_⟩
  have h := (zal r1s_ok).1 h
  match v, hv, h with
  | [], _, h => exact absurd h (by decide +kernel)
  | [b], hv, h =>
    have h1 := one_1s b (hv b List.mem_cons_self)
    have h : valK r1s (byteK r1s .st (UInt8.ofNat b)) = (20, true) := h
    rcases h1 with e | ⟨e, h2, h3⟩
    · rw [e] at h; cases h
    · rw [e] at h
      have := congrArg Prod.fst h
      have : (b : Int) - 48 = 20 := this
      omega
  | [a, b], hv, h =>
    have h1 := one_1s a (hv a List.mem_cons_self)
    have hb := hv b (List.mem_cons_of_mem _ List.mem_cons_self)
    have h : valK r1s (byteK r1s (byteK r1s .st (UInt8.ofNat a)) (UInt8.ofNat b)) = (20, true) := h
    by_cases hd : z1o r1s.base (UInt8.ofNat b) < 0
    · rw [byteK, if_pos hd] at h; cases h
    have hb48 := digit_r (r := r1s) rfl b hb (by omega)
    rcases h1 with e | ⟨e, h2, h3⟩
    · rw [e, byteK, if_neg hd] at h; cases h
    · have h49 : a ≠ 48 := by
        rintro rfl
        rw [e, byteK, if_neg hd] at h; cases h
      rcases Nat.lt_or_ge 49 a with h4 | h4
      · exact .inr (.inr ⟨rfl, .inl h4⟩)
      · obtain rfl : a = 49 := by omega
        rcases Nat.lt_or_ge 48 b with h5 | h5
        · exact .inr (.inr ⟨rfl, .inr ⟨rfl, .inl h5⟩⟩)
        · obtain rfl : b = 48 := by omega
          exact .inl rfl
  | _ :: _ :: _ :: _, _, _ => exact .inr (.inl (by simp))
theorem texts_A : zf8 rA 21 = (noD, 1) := by rw [zf8, if_neg (by decide)]
noncomputable def gnq4 : Ctx := { P := Tryd.prog, ty := ty, glob := gl, fs := [(110, .flat zv9), (64, .flat zbk), (57, .data zw0), (62, .data zmu)] }
theorem z2m : gnq4.OK := ⟨tyOK, ⟨⟨z08 Tryd.func110 (by kernel_rfl) rfl, zva⟩, ⟨z08 Tryd.func64 (by kernel_rfl) rfl, z8a⟩, ⟨z08 Tryd.func57 (by kernel_rfl) rfl, zw1⟩, ⟨z08 Tryd.func62 (by kernel_rfl) rfl, zkr⟩, trivial⟩, mixed⟩
@[simp] theorem gnq4_ty : gnq4.ty = ty := rfl

def zp2 : QSpec := fun vs K => vs = [] ∧ K (.c (.bool true))
set_option maxHeartbeats 2000000 in
set_option maxRecDepth 4000 in
theorem zqq : z1e Tryd.prog gl 53 zp2 := by
 refine z23 (Γ := gnq4) (N := 144) Tryd.func53 rfl rfl fun vs K h => ?_; obtain ⟨rfl, h⟩ := h; refine ⟨_, h, rfl, by simp, fun w I => ?_⟩; refine srR z2m fun _ hK2 => ?_; refine z1s ?_; refine s_nil ?_; apply hK2; refine srR z2m fun _ hK4 => ?_
 iterate 2 refine z1s ?_
 refine z5h ?_; refine s_nil ?_; apply hK4; refine srR z2m fun _ hK6 => ?_
 iterate 2 refine z1s ?_
 refine z5h ?_; refine s_nil ?_; apply hK6; refine srR z2m fun _ hK8 => ?_; refine z1s ?_; refine z5h ?_; refine s_nil ?_; apply hK8; refine srR z2m fun _ hK10 => ?_
 iterate 2 refine z1s ?_
 refine z5h ?_; refine s_nil ?_; apply hK10; refine srR z2m fun _ hK12 => ?_; refine z1s ?_; refine z5h ?_; refine s_nil ?_; apply hK12; refine srR z2m fun _ hK14 => ?_
 iterate 2 refine z1s ?_
 refine z5h ?_; refine s_nil ?_; apply hK14; refine srR z2m fun _ hK16 => ?_; refine z1s ?_; refine z5h ?_; refine s_nil ?_; apply hK16; refine srR z2m fun _ hK18 => ?_; refine z14 ?_; refine exA (rulV rA) (SV.as_refl _) ?_; refine z14 ?_; refine ⟨rA, [55], 7, rfl, by decide, ?_⟩; rw [show z3a rA [55] (7) = true by decide +kernel]; refine DRq_0 ?_
 first | refine exI ?_ | (intro cap1 hcap1; refine exI ?_)
 refine z14 ?_; refine exB (fun hb2 => ?_) (fun hb2 => ?_)
 rotate_left 1
 ·exfalso; first | exact absurd hb2 (by decide) | exact hb2 rfl | (simp at hb2; done) | omega
 refine z0s ?_; refine exA (rulV rA) (SV.as_refl _) ?_; refine z0s ?_; refine ⟨rA, [50, 48], 20, rfl, by decide, ?_⟩; rw [show z3a rA [50, 48] (20) = true by decide +kernel]; refine DRq_0 ?_
 first | refine exI ?_ | (intro cap4 hcap4; refine exI ?_)
 refine z1s ?_; refine z14 ?_; refine exB (fun hb6 => ?_) (fun hb6 => ?_)
 rotate_left 1
 ·exfalso; first | exact absurd hb6 (by decide) | exact hb6 rfl | (simp at hb6; done) | omega
 refine z0s ?_; refine exA (rulV rA) (SV.as_refl _) ?_; refine z0s ?_; refine ⟨rA, [50, 49], -1, rfl, by decide, ?_⟩; rw [show z3a rA [50, 49] (-1) = true by decide +kernel]; refine DRq_0 ?_
 first | refine exI ?_ | (intro cap8 hcap8; refine exI ?_)
 refine z1s ?_; refine z14 ?_; refine exB (fun hb10 => ?_) (fun hb10 => ?_)
 rotate_left 1
 ·exfalso; first | exact absurd hb10 (by decide) | exact hb10 rfl | (simp at hb10; done) | omega
 refine z0s ?_; refine exA (rulV rA) (SV.as_refl _) ?_; refine z0s ?_; refine ⟨rA, [48, 48, 55], -1, rfl, by decide, ?_⟩; rw [show z3a rA [48, 48, 55] (-1) = true by decide +kernel]; refine DRq_0 ?_
 first | refine exI ?_ | (intro cap12 hcap12; refine exI ?_)
 refine z1s ?_; refine z14 ?_; refine exB (fun hb14 => ?_) (fun hb14 => ?_)
 rotate_left 1
 ·exfalso; first | exact absurd hb14 (by decide) | exact hb14 rfl | (simp at hb14; done) | omega
 refine z0s ?_; refine exA (rulV rA) (SV.as_refl _) ?_; refine z0s ?_; refine ⟨rA, [48, 55], -1, rfl, by decide, ?_⟩; rw [show z3a rA [48, 55] (-1) = true by decide +kernel]; refine DRq_0 ?_
 first | refine exI ?_ | (intro cap16 hcap16; refine exI ?_)
 refine z1s ?_; refine z14 ?_; refine exB (fun hb18 => ?_) (fun hb18 => ?_)
 rotate_left 1
 ·exfalso; first | exact absurd hb18 (by decide) | exact hb18 rfl | (simp at hb18; done) | omega
 refine z0s ?_; refine exA (rulV rA) (SV.as_refl _) ?_; refine z0s ?_; refine ⟨rA, [], -1, rfl, by decide, ?_⟩; rw [show z3a rA [] (-1) = true by decide +kernel]; refine DRq_0 ?_
 first | refine exI ?_ | (intro cap20 hcap20; refine exI ?_)
 refine z1s ?_; refine z14 ?_; refine exB (fun hb22 => ?_) (fun hb22 => ?_)
 rotate_left 1
 ·exfalso; first | exact absurd hb22 (by decide) | exact hb22 rfl | (simp at hb22; done) | omega
 refine z0s ?_; refine exA (rulV rA) (SV.as_refl _) ?_; refine z0s ?_; refine ⟨rA, [50, 97], -1, rfl, by decide, ?_⟩; rw [show z3a rA [50, 97] (-1) = true by decide +kernel]; refine DRq_0 ?_
 first | refine exI ?_ | (intro cap24 hcap24; refine exI ?_)
 iterate 2 refine z1s ?_
 refine s_nil ?_; apply hK18; refine srR z2m fun _ hK20 => ?_; refine z14 ?_; refine exA (rulV rS) (SV.as_refl _) ?_; refine z14 ?_; refine ⟨rS, [50, 49], 20, rfl, by decide, ?_⟩; rw [show z3a rS [50, 49] (20) = true by decide +kernel]; refine DRq_0 ?_
 first | refine exI ?_ | (intro cap1 hcap1; refine exI ?_)
 refine z14 ?_; refine exB (fun hb2 => ?_) (fun hb2 => ?_)
 rotate_left 1
 ·exfalso; first | exact absurd hb2 (by decide) | exact hb2 rfl | (simp at hb2; done) | omega
 refine z0s ?_; refine exA (rulV rS) (SV.as_refl _) ?_; refine z0s ?_; refine ⟨rS, [49, 48, 48], 20, rfl, by decide, ?_⟩; rw [show z3a rS [49, 48, 48] (20) = true by decide +kernel]; refine DRq_0 ?_
 first | refine exI ?_ | (intro cap4 hcap4; refine exI ?_)
 refine z1s ?_; refine z14 ?_; refine exB (fun hb6 => ?_) (fun hb6 => ?_)
 rotate_left 1
 ·exfalso; first | exact absurd hb6 (by decide) | exact hb6 rfl | (simp at hb6; done) | omega
 refine z0s ?_; refine exA (rulV rW) (SV.as_refl _) ?_; refine z0s ?_; refine ⟨rW, [50, 49], 0, rfl, by decide, ?_⟩; rw [show z3a rW [50, 49] (0) = true by decide +kernel]; refine DRq_0 ?_
 first | refine exI ?_ | (intro cap8 hcap8; refine exI ?_)
 refine z1s ?_; refine z14 ?_; refine exB (fun hb10 => ?_) (fun hb10 => ?_)
 rotate_left 1
 ·exfalso; first | exact absurd hb10 (by decide) | exact hb10 rfl | (simp at hb10; done) | omega
 refine z0s ?_; refine exA (rulV rW) (SV.as_refl _) ?_; refine z0s ?_; refine ⟨rW, [50, 53], 4, rfl, by decide, ?_⟩; rw [show z3a rW [50, 53] (4) = true by decide +kernel]; refine DRq_0 ?_
 first | refine exI ?_ | (intro cap12 hcap12; refine exI ?_)
 refine z1s ?_; refine z14 ?_; refine exB (fun hb14 => ?_) (fun hb14 => ?_)
 rotate_left 1
 ·exfalso; first | exact absurd hb14 (by decide) | exact hb14 rfl | (simp at hb14; done) | omega
 refine z0s ?_; refine exA (rulV rW) (SV.as_refl _) ?_; refine z0s ?_; refine ⟨rW, [49, 48, 48], 16, rfl, by decide, ?_⟩; rw [show z3a rW [49, 48, 48] (16) = true by decide +kernel]; refine DRq_0 ?_
 first | refine exI ?_ | (intro cap16 hcap16; refine exI ?_)
 refine z1s ?_; refine z14 ?_; refine exB (fun hb18 => ?_) (fun hb18 => ?_)
 rotate_left 1
 ·exfalso; first | exact absurd hb18 (by decide) | exact hb18 rfl | (simp at hb18; done) | omega
 refine z0s ?_; refine exA (rulV rZ) (SV.as_refl _) ?_; refine z0s ?_; refine ⟨rZ, [48, 55], 7, rfl, by decide, ?_⟩; rw [show z3a rZ [48, 55] (7) = true by decide +kernel]; refine DRq_0 ?_
 first | refine exI ?_ | (intro cap20 hcap20; refine exI ?_)
 refine z1s ?_; refine z14 ?_; refine exB (fun hb22 => ?_) (fun hb22 => ?_)
 rotate_left 1
 ·exfalso; first | exact absurd hb22 (by decide) | exact hb22 rfl | (simp at hb22; done) | omega
 refine z0s ?_; refine exA (rulV rZ) (SV.as_refl _) ?_; refine z0s ?_; refine ⟨rZ, [48, 48, 55], 7, rfl, by decide, ?_⟩; rw [show z3a rZ [48, 48, 55] (7) = true by decide +kernel]; refine DRq_0 ?_
 first | refine exI ?_ | (intro cap24 hcap24; refine exI ?_)
 iterate 2 refine z1s ?_
 refine s_nil ?_; apply hK20; refine srR z2m fun _ hK22 => ?_
 iterate 2 refine z1s ?_
 refine z5h ?_; refine s_nil ?_; apply hK22; refine srR z2m fun _ hK24 => ?_; refine z14 ?_; refine exA (rulV rX) (SV.as_refl _) ?_; refine z14 ?_; refine ⟨rX, 10, rfl, ?_⟩; rw [write_X]; refine DRq_0 ?_
 first | refine exI ?_ | (intro cap1 hcap1; refine exI ?_)
 iterate 5 refine z1s ?_
 refine s_nil ?_; apply hK24; refine srR z2m fun _ hK26 => ?_
 iterate 2 refine z1s ?_
 refine z5h ?_; refine s_nil ?_; apply hK26; refine srR z2m fun _ hK28 => ?_; refine z14 ?_; refine exA (rulV r1) (SV.as_refl _) ?_; refine z14 ?_; refine ⟨r1, 10, rfl, ?_⟩; rw [write_1]; refine DRq_0 ?_
 first | refine exI ?_ | (intro cap1 hcap1; refine exI ?_)
 iterate 5 refine z1s ?_
 refine s_nil ?_; apply hK28; refine srR z2m fun _ hK30 => ?_; refine z1s ?_; refine z5h ?_; refine s_nil ?_; apply hK30; refine srR z2m fun _ hK32 => ?_; refine z14 ?_; refine exA (rulV r1s) (SV.as_refl _) ?_; refine z14 ?_; refine ⟨r1s, 20, rfl, ?_⟩; rw [write_1s]; refine DRq_0 ?_
 first | refine exI ?_ | (intro cap1 hcap1; refine exI ?_)
 iterate 5 refine z1s ?_
 refine s_nil ?_; apply hK32; refine srR z2m fun _ hK34 => ?_; refine z14 ?_; refine exA (rulV rA) (SV.as_refl _) ?_; refine z14 ?_; refine ⟨rA, 21, rfl, ?_⟩; rw [texts_A]; refine DRq_0 ?_
 first | refine exI ?_ | (intro cap1 hcap1; refine exI ?_)
 iterate 4 refine z1s ?_
 refine z5h ?_; refine z1s ?_; refine s_nil ?_; apply hK34; refine srR z2m fun _ hK36 => ?_; refine z1s ?_; refine z14 ?_; refine exB (fun hb1 => ?_) (fun hb1 => ?_)
 rotate_left 1
 ·exfalso; first | exact absurd hb1 (by decide) | exact hb1 rfl | (simp at hb1; done) | omega
 refine z8f ?_; refine z1s ?_; refine z14 ?_; refine exB (fun hb4 => ?_) (fun hb4 => ?_)
 rotate_left 1
 ·exfalso; first | exact absurd hb4 (by decide) | exact hb4 rfl | (simp at hb4; done) | omega
 refine z0s ?_; refine exA (rulV rX) (SV.as_refl _) ?_; refine z0s ?_; refine ⟨rX, [49, 52], 20, rfl, by decide, ?_⟩; rw [show z3a rX [49, 52] (20) = true by decide +kernel]; refine DRq_0 ?_
 first | refine exI ?_ | (intro cap6 hcap6; refine exI ?_)
 refine z1s ?_; refine z14 ?_; refine exB (fun hb8 => ?_) (fun hb8 => ?_)
 rotate_left 1
 ·exfalso; first | exact absurd hb8 (by decide) | exact hb8 rfl | (simp at hb8; done) | omega
 refine z0s ?_; refine exA (rulV rX) (SV.as_refl _) ?_; refine z0s ?_; refine ⟨rX, [48, 48, 49, 52], 20, rfl, by decide, ?_⟩; rw [show z3a rX [48, 48, 49, 52] (20) = true by decide +kernel]; refine DRq_0 ?_
 first | refine exI ?_ | (intro cap10 hcap10; refine exI ?_)
 refine z1s ?_; refine z14 ?_; refine exB (fun hb12 => ?_) (fun hb12 => ?_)
 rotate_left 1
 ·exfalso; first | exact absurd hb12 (by decide) | exact hb12 rfl | (simp at hb12; done) | omega
 refine z0s ?_; refine exA (rulV rX) (SV.as_refl _) ?_; refine z0s ?_; refine ⟨rX, [97], 10, rfl, by decide, ?_⟩; rw [show z3a rX [97] (10) = true by decide +kernel]; refine DRq_0 ?_
 first | refine exI ?_ | (intro cap14 hcap14; refine exI ?_)
 refine z1s ?_; refine z14 ?_; refine exB (fun hb16 => ?_) (fun hb16 => ?_)
 rotate_left 1
 ·exfalso; first | exact absurd hb16 (by decide) | exact hb16 rfl | (simp at hb16; done) | omega
 refine z8f ?_; refine z1s ?_; refine z14 ?_; refine exB (fun hb19 => ?_) (fun hb19 => ?_)
 rotate_left 1
 ·exfalso; first | exact absurd hb19 (by decide) | exact hb19 rfl | (simp at hb19; done) | omega
 iterate 3 refine z8f ?_
 refine z1s ?_; refine z14 ?_; refine exB (fun hb24 => ?_) (fun hb24 => ?_)
 rotate_left 1
 ·exfalso; first | exact absurd hb24 (by decide) | exact hb24 rfl | (simp at hb24; done) | omega
 iterate 2 refine z8f ?_
 refine z1s ?_; refine z14 ?_; refine exB (fun hb28 => ?_) (fun hb28 => ?_)
 rotate_left 1
 ·exfalso; first | exact absurd hb28 (by decide) | exact hb28 rfl | (simp at hb28; done) | omega
 refine z8f ?_; refine z1s ?_; refine z14 ?_; refine exB (fun hb31 => ?_) (fun hb31 => ?_)
 rotate_left 1
 ·exfalso; first | exact absurd hb31 (by decide) | exact hb31 rfl | (simp at hb31; done) | omega
 iterate 3 refine z8f ?_
 refine z1s ?_; refine z14 ?_; refine exB (fun hb36 => ?_) (fun hb36 => ?_)
 rotate_left 1
 ·exfalso; first | exact absurd hb36 (by decide) | exact hb36 rfl | (simp at hb36; done) | omega
 iterate 2 refine z8f ?_
 refine z1s ?_; refine z14 ?_; refine exB (fun hb40 => ?_) (fun hb40 => ?_)
 rotate_left 1
 ·exfalso; first | exact absurd hb40 (by decide) | exact hb40 rfl | (simp at hb40; done) | omega
 refine z0s ?_; refine exA (rulV rA) (SV.as_refl _) ?_; refine z0s ?_; refine ⟨rA, rfl, ?_⟩; rw [show z8x rA = 0 by decide]; refine DRq_0 ?_
 first | refine exI ?_ | (intro cap42 hcap42; refine exI ?_)
 refine z8f ?_
 iterate 2 refine z1s ?_
 refine s_nil ?_; apply hK36; refine z0e (z0d z2m (fun _ _ h => h) (by first | rfl | assumption) [.tmp 0] rfl ?_); refine rtD ?_
 rfl


end Go.Proofs.YtppmnaoollkboaaDoor

namespace Go.Proofs.YtppmnaoollkboaaDoor
set_option linter.all false
open Go.Ab Go.RowKit

open Go.Aut
theorem all_ok {r : Rul} (hr : r.ok) : allR r = (canD (langN r Pa), 0) := by rw [allR, if_pos (z7d.2 hr)]
theorem z5y {r : Rul} (hr : r.ok) {m : Int} (h0 : 0 ≤ m) (h1 : m ≤ r.top) : zf8 r m = (canD (langN r (Pn m)), 0) := by rw [zf8, if_pos (zf7.2 ⟨hr, h0, h1⟩)]
theorem zw2 {r : Rul} (hr : r.ok) (n : UInt8) : 0 ≤ (n.toNat : Int) % (r.top + 1) ∧ (n.toNat : Int) % (r.top + 1) ≤ r.top := by
  have ht := hr.t1
  have h1 := Int.emod_nonneg (n.toNat : Int) (b := r.top + 1) (by omega)
  have h2 := Int.emod_lt_of_pos (n.toNat : Int) (b := r.top + 1) (by omega)
  omega
theorem zp3 {r : Rul} (hr : r.ok) : ∀ (l : List UInt8) (k : Ky), KOK r k → KOK r (l.foldl (byteK r) k)
  | [], _, h => h
  | b :: l, k, h => by
    refine zp3 hr l _ ?_; rw [byteK]
    split
    · trivial
    · exact zve hr h (by omega)
theorem zqr {r : Rul} (hr : r.ok) (l : List UInt8) : (readN r l).2 = true → 0 ≤ (readN r l).1 ∧ (readN r l).1 ≤ r.top := by
  have h := zp3 hr l .st trivial
  have ht := hr.t1
  rw [zi3 hr]
  show (valK r (l.foldl (byteK r) .st)).2 = true → 0 ≤ (valK r (l.foldl (byteK r) .st)).1 ∧ (valK r (l.foldl (byteK r) .st)).1 ≤ r.top
  cases hk : l.foldl (byteK r) .st <;> rw [hk] at h <;> simp only [valK, KOK] at h ⊢ <;> intro hh <;> first | omega | (exact absurd hh (by decide)) | (exact hh.elim) | (cases hh; done)
theorem combN {r : Rul} (hr : r.ok) (op : Bool → Bool → Bool) (P Q : Int × Bool → Bool) : combR op (canD (langN r P)) (canD (langN r Q)) = (canD (langN r fun v => op (P v) (Q v)), 0) := by
  have hp := zaj hr P
  have hq := zaj hr Q
  have hg := zaj hr fun v => op (P v) (Q v)
  rw [combR, if_pos ⟨z6o hp.1, z6o hq.1⟩]
  have e : canD (combB op (canD (langN r P)) (canD (langN r Q))) = canD (langN r fun v => op (P v) (Q v)) := z3r fun w hw => by
    show op (langD _ w) (langD _ w) = _
    rw [hp.2 w hw, hq.2 w hw]; rfl
  rw [e, limL, if_neg (by have := hg.1.2; omega)]
def Pu (m : Int) (v : Int × Bool) : Bool := v.2 && decide (0 ≤ v.1 ∧ v.1 ≤ m)
theorem zw3 : Pn 0 = Pu 0 := by
  funext v
  rw [Pn, Pu]
  congr 1
  rw [decide_eq_decide]; omega
theorem pu_succ {m : Int} (h : 0 ≤ m) : (fun v => Pu m v || Pn (m + 1) v) = Pu (m + 1) := by
  funext v
  rw [Pn, Pu, Pu]
  cases v.2
  · rfl
  · rw [Bool.true_and, Bool.true_and, Bool.true_and, ← Bool.decide_or, decide_eq_decide]; omega
theorem zp4 {r : Rul} (hr : r.ok) : canD (langN r (Pu r.top)) = canD (langN r Pa) := z3r fun w hw => by
  rw [langN, langN, Pu, Pa]
  have h := zqr hr (w.map UInt8.ofNat)
  cases e : (readN r (w.map UInt8.ofNat)).2
  · rfl
  · rw [decide_eq_true (h e)]; rfl
theorem pn_both {r : Rul} {a b : Int} (h : a ≠ b) : z3e (langN r fun v => Pn a v && Pn b v) = none := z98 fun w _ => by
  rw [langN, Pn, Pn]
  cases (readN r (w.map UInt8.ofNat)).2
  · rfl
  · rw [Bool.true_and, Bool.true_and, ← Bool.decide_and, decide_eq_false_iff_not]; omega

end Go.Proofs.YtppmnaoollkboaaDoor
