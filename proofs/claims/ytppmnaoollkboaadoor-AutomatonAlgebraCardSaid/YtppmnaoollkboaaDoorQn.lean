/- Part 14 of what the claims of this seat share: the walk's engine, the functions' contracts, plain mathematics (Vb, Vc, Vd, Ve, Vf, Vg). -/
import Derived.Test.YtppmnaoollkboaaDoorQd
import Derived.Test.YtppmnaoollkboaaDoorQh
import Derived.Test.YtppmnaoollkboaaDoorQb
namespace Go.Proofs.YtppmnaoollkboaaDoor
set_option linter.all false
open Go.Ab Go.RowKit

theorem qVb0 {a : Prop} (h : a := by first | exact vcA | (simp <;> omega) | exact vcB) : a := h
theorem uVb_0 {a : Prop} (h : a := by
    repeat' (first | exact trivial | refine aI ?_ ?_ | exact cC0 | refine low_cons' ?_ ?_ | exact cC1 | fail)) : a := h
theorem DVb_0 {a b : Prop} (kZ : b) (h : HidB b → a := by intro kZ; (repeat first | refine aI qVb0 ?_ | refine z06 qVb0 ?_ | refine z04 qVb0 ?_ | refine z0k qVb0 ?_ | refine z0a ?_); exact kZ.out) : a := h ⟨kZ⟩
theorem ze9 {a b : Prop} (kZ : b) (h : HidB b → a := by intro kZ; refine sX ?_; refine DVb_0 ?_; refine exI ?_; exact kZ.out) : a := h ⟨kZ⟩
theorem qXVb_2 {a b : Prop} (kZ : b) (h : HidB b → a := by intro kZ; refine qX ?_; refine DVb_0 ?_; refine exI ?_; exact kZ.out) : a := h ⟨kZ⟩

open Go.Aut
attribute [local irreducible] z0q z1z zl z02 z18 putB
theorem z9t {α : Type} {a b : List α} {k : Nat} {d : α} (h : a.take k = b.take k) (h1 : k < a.length) (h2 : k < b.length) (e : a.getD k d = b.getD k d) : a.take (k + 1) = b.take (k + 1) := by
  rw [List.getD_eq_getElem?_getD, List.getD_eq_getElem?_getD, List.getElem?_eq_getElem h1, List.getElem?_eq_getElem h2, Option.getD_some, Option.getD_some] at e; rw [List.take_add_one, List.take_add_one, h, List.getElem?_eq_getElem h1, List.getElem?_eq_getElem h2, e]
theorem zb7 {α : Type} {a b : List α} {k : Nat} (h : a.take k = b.take k) (h1 : a.length ≤ k) (h2 : b.length ≤ k) : a = b := by
  rwa [List.take_of_length_le h1, List.take_of_length_le h2] at h
noncomputable def lessB (a b : List UInt8) : Bool := @decide (sl (wN a) (wN b)) (Classical.propDecidable _)
def zh7 : QSpec := fun vs K => ∃ a b : List Int, vs = [.c (.ds a.length (.ints .i64 a)), .c (.ds b.length (.ints .i64 b))] ∧ (a.length ≤ 9223372036854775807 ∧ b.length ≤ 9223372036854775807) ∧ K (.c (.bool (decide (a = b))))
theorem zh8 : z16 Tryd.prog gl 72 zh7 := by
 refine z1a (Γ := g0) (N := 26) Tryd.func72 rfl rfl fun vs K h => ?_; obtain ⟨a, b, rfl, ⟨hb1, hb2⟩, h⟩ := h; refine ⟨_, h, rfl, by simp, fun w I => ?_⟩; refine seq_k fun _ hK1 => ?_; refine z00 g0_ok fun _ hK2 => ?_; refine ze9 ?_; refine s_nil ?_; apply hK2; apply hK1; refine seq_k fun _ hK3 => ?_; refine seq_k fun _ hK4 => ?_; refine z00 g0_ok fun _ hK5 => ?_
 iterate 5 refine ze9 ?_
 refine s_nil ?_; apply hK5; apply hK4; refine z08 (b := _) rfl (fun h_t10 => ?_) (fun h_t10 => ?_)
 ·try simp only [dQ, if_true, if_false, reduceIte] at h_t10
  refine seq_k fun _ hK6 => ?_; refine z00 g0_ok fun _ hK7 => ?_; refine ze9 ?_; refine s_nil ?_; apply hK7; apply hK6; refine z0f (z0d g0_ok (fun _ _ h => h) (by first | rfl | assumption) [.tmp 4] rfl ?_); refine rtD ?_
  show SV.c (.bool false) = _
  rw [decide_eq_false (fun e => h_t10 (by rw [e]))]
 ·try simp only [dQ, if_true, if_false, reduceIte] at h_t10
  refine z0c ?_; apply hK3; refine seq_k fun _ hK8 => ?_; refine seq_k fun _ hK9 => ?_; refine z00 g0_ok fun _ hK10 => ?_; refine ze9 ?_; refine s_nil ?_; apply hK10; apply hK9; refine z09 ?_
  have hl : a.length = b.length := by omega
  refine z0t (α := Nat) (fun k => [(0, .c (.ds a.length (.ints .i64 a))), (1, .c (.ds b.length (.ints .i64 b))), (5, .c (.int .i64 k))]) (fun k => []) 0 (fun k => k ≤ a.length ∧ a.take k = b.take k) (fun k => a.length - k) ?_ ?_
  ·refine dnS [] id 0 ⟨Nat.zero_le _, rfl⟩ [] uVb_0 uVb_0 uVb_0 uVb_0
  ·intro k hk
   refine seq_k fun _ hK11 => ?_; refine seq_k fun _ hK12 => ?_; refine z00 g0_ok fun _ hK13 => ?_
   iterate 4 refine ze9 ?_
   refine s_nil ?_; apply hK13; apply hK12; refine z08 (b := _) rfl (fun h_t14 => ?_) (fun h_t14 => ?_)
   ·try simp only [dQ, if_true, if_false, reduceIte] at h_t14
    refine z0c ?_; apply hK11; refine seq_k fun _ hK14 => ?_; refine z09 ?_; refine seq_k fun _ hK15 => ?_
    have hka : k < a.length := by omega
    have hkb : k < b.length := by omega
    refine z75 g0_ok (by kernel_rfl) fun _ hK16 => ?_
    iterate 9 refine qXVb_2 ?_
    refine q_nil ?_; apply hK16; apply hK15; refine z08 (b := _) rfl (fun h_t25 => ?_) (fun h_t25 => ?_)
    ·simp only [Int.toNat_natCast, Nat.mul_one, Bool.not_eq_true', decide_eq_false_iff_not] at h_t25
     refine seq_k fun _ hK17 => ?_; refine z00 g0_ok fun _ hK18 => ?_; refine ze9 ?_; refine s_nil ?_; apply hK18; apply hK17; refine z0f (z0d g0_ok (fun _ _ h => h) (by first | rfl | assumption) [.tmp 4] rfl ?_); refine rtD ?_
     show SV.c (.bool false) = _
     rw [decide_eq_false (fun e => h_t25 (by rw [e]))]
    ·simp only [Int.toNat_natCast, Nat.mul_one, Bool.not_eq_false', decide_eq_true_eq] at h_t25
     refine z0c ?_; refine z0b ?_; apply hK14; refine z00 g0_ok fun _ hK19 => ?_
     iterate 3 refine ze9 ?_
     refine s_nil ?_; apply hK19; refine dnS [] id (k + 1) ⟨⟨by omega, z9t (d := 0) hk.2 hka hkb h_t25⟩, by omega⟩ [] uVb_0 uVb_0 uVb_0 uVb_0
   ·try simp only [dQ, if_true, if_false, reduceIte] at h_t14
    refine z0r ?_; refine z05 ?_; refine z05 ?_; refine z0m ?_; apply hK8; refine seq_k fun _ hK20 => ?_; refine z00 g0_ok fun _ hK21 => ?_; refine ze9 ?_; refine s_nil ?_; apply hK21; apply hK20; refine z0f (z0d g0_ok (fun _ _ h => h) (by first | rfl | assumption) [.tmp 4] rfl ?_); refine rtD ?_
    obtain rfl : k = a.length := by omega
    show SV.c (.bool true) = _
    rw [decide_eq_true (zb7 hk.2 (Nat.le_refl _) (by omega))]

def lessRS : QSpec := fun vs K => ∃ a b : List UInt8, vs = [.c (.ds a.length (.u8s a)), .c (.ds b.length (.u8s b))] ∧ (a.length ≤ 9223372036854775807 ∧ b.length ≤ 9223372036854775807) ∧ K (.c (.bool (lessB a b)))
end Go.Proofs.YtppmnaoollkboaaDoor

namespace Go.Proofs.YtppmnaoollkboaaDoor
set_option linter.all false
open Go.Ab Go.RowKit

theorem qVc0 {a : Prop} (h : a := by first | exact vcA | (simp <;> omega) | (simp only [z1b]; omega) | exact vcB) : a := h
theorem qVc1 {a : Prop} (h : a := by rintro ⟨g1, g2, g3, g4⟩; have g5 := congrArg List.length g3; have g6 := congrArg List.length g4; first | omega | (simp_all; done) | (simp at *; omega)) : a := h
theorem qVc2 {a : Prop} (h : a := by first | exact vcA | (simp [hcd, hce] <;> omega) | (show (clsAt _ k).length = 4; first | exact hcd | exact hce) | exact hcd | exact hce | exact vcB) : a := h
theorem uVc_0 {a : Prop} (h : a := by
    repeat' (first | exact pT  | exact trivial | refine aI ?_ ?_ | exact cC0 | refine low_cons' ?_ ?_ | exact cC1 | fail)
    all_goals first | omega | exact z8l _ | exact z1f _| (show (0 : Nat) < (z02 _ _ _ _).length; rw [z01 hcl]; decide) | (simp [-List.reduceReplicate]; done) | (simp [-List.reduceReplicate] <;> omega) | skip) : a := h
theorem DVc_0 {a b : Prop} (kZ : b) (h : HidB b → a := by intro kZ; (repeat first | refine aI qVc0 ?_ | refine z06 qVc0 ?_ | refine z04 qVc0 ?_ | refine z0k qVc0 ?_ | refine z0a ?_); exact kZ.out) : a := h ⟨kZ⟩
theorem z3w {a b : Prop} (kZ : b) (h : HidB b → a := by intro kZ; refine sX ?_; refine DVc_0 ?_; refine exI ?_; exact kZ.out) : a := h ⟨kZ⟩
theorem zy4 {a b : Prop} (kZ : b) (h : HidB b → a := by intro kZ; refine sXT ?_; refine DVc_0 ?_; refine exI ?_; exact kZ.out) : a := h ⟨kZ⟩
theorem DVc_3 {a b : Prop} (kZ : b) (h : HidB b → a := by intro kZ; (repeat first | refine aI qVc2 ?_ | refine z06 qVc2 ?_ | refine z04 qVc2 ?_ | refine z0k qVc2 ?_ | refine z0a ?_); exact kZ.out) : a := h ⟨kZ⟩
theorem zy5 {a b : Prop} (kZ : b) (h : HidB b → a := by intro kZ; refine qX ?_; refine DVc_3 ?_; refine exI ?_; exact kZ.out) : a := h ⟨kZ⟩
theorem zro {a b : Prop} (kZ : b) (h : HidB b → a := by intro kZ; refine qX ?_; refine DVc_0 ?_; refine exI ?_; exact kZ.out) : a := h ⟨kZ⟩
theorem zp0 {a b : Prop} (kZ : b) (h : HidB b → a := by intro kZ; refine sX ?_; refine DVc_0 ?_; exact kZ.out) : a := h ⟨kZ⟩
theorem zy6 {a b : Prop} (kZ : b) (h : HidB b → a := by intro kZ; refine qX ?_; refine DVc_3 ?_; exact kZ.out) : a := h ⟨kZ⟩
theorem zp1 {a b : Prop} (kZ : b) (h : HidB b → a := by intro kZ; refine qX ?_; refine DVc_0 ?_; exact kZ.out) : a := h ⟨kZ⟩

open Go.Aut
attribute [local irreducible] z0q z1z zl z02 z18 putB
def sameD (d e : Dfa) : Bool := decide (d.nc = e.nc ∧ d.cls = e.cls ∧ d.next = e.next ∧ d.acc = e.acc)
theorem z2h {d e : Dfa} : sameD d e = true ↔ d = e := by
  cases d; cases e
  simp only [sameD, decide_eq_true_iff, Dfa.mk.injEq]
  exact ⟨fun h => ⟨h.2.1, h.1, h.2.2⟩, fun h => ⟨h.2.1, h.1, h.2.2⟩⟩
theorem cls_at {a : List UInt64} (j : Nat) : (clsAt a (j / 4))[j % 4]? = a[j]? := by
  rw [clsAt, List.getElem?_take, if_pos (Nat.mod_lt _ (by decide)), List.getElem?_drop]
  congr 1; omega
theorem cls_ext {a b : List UInt64} {n : Nat} (ha : a.length = n * 4) (hb : b.length = n * 4) (h : ∀ i, i < n → clsAt a i = clsAt b i) : a = b := by
  refine List.ext_getElem? fun j => ?_
  by_cases hj : j < n * 4
  · rw [← cls_at (a := a) j, ← cls_at (a := b) j, h _ (by omega)]
  · rw [List.getElem?_eq_none (by omega), List.getElem?_eq_none (by omega)]
noncomputable def gv1 : Ctx := { P := Tryd.prog, ty := ty, glob := gl, fs := [(72, .flat zh7)] }
theorem z2z : gv1.OK := ⟨tyOK, ⟨⟨z07 Tryd.func72 (by kernel_rfl) rfl, zh8⟩, trivial⟩, mixed⟩
@[simp] theorem gv1_ty : gv1.ty = ty := rfl

def sameS : QSpec := fun vs K => ∃ d e : Dfa, vs = [dfaV d, dfaV e] ∧ (d.wf ∧ e.wf) ∧ K (.c (.bool (sameD d e)))
set_option maxHeartbeats 1000000 in
theorem zk8 : z16 Tryd.prog gl 28 sameS := by
 refine z1a (Γ := gv1) (N := 88) Tryd.func28 rfl rfl fun vs K h => ?_; obtain ⟨d, e, rfl, ⟨hd, he⟩, h⟩ := h; refine ⟨_, h, rfl, by simp, fun w I => ?_⟩; refine seq_k fun _ hK1 => ?_; refine z00 z2z fun _ hK2 => ?_
 iterate 3 refine z3w ?_
 refine s_nil ?_; apply hK2; apply hK1; refine seq_k fun _ hK3 => ?_; refine seq_k fun _ hK4 => ?_; refine z00 z2z fun _ hK5 => ?_
 iterate 7 refine z3w ?_
 refine zp0 ?_; refine exB (fun hb7 => ?_) (fun hb7 => ?_)
 ·try simp only [dQ, if_true, if_false, reduceIte] at hb7
  iterate 7 refine sN ?_
  refine z3w ?_; refine zp0 ?_; refine exB (fun hb16 => ?_) (fun hb16 => ?_)
  rotate_left 1
  ·exfalso; simp at hb16
  iterate 7 refine sN ?_
  refine z3w ?_; refine s_nil ?_; apply hK5; apply hK4; refine z08 (b := _) rfl (fun _ => ?_) (fun h_t32 => ?_)
  rotate_left 1
  ·exfalso; simp at h_t32
  refine seq_k fun _ hK6 => ?_; refine z00 z2z fun _ hK7 => ?_; refine z3w ?_; refine s_nil ?_; apply hK7; apply hK6; refine z0f (z0d z2z (fun _ _ h => h) (by first | rfl | assumption) [.tmp 4] rfl ?_); refine rtD ?_
  show SV.c (.bool false) = _
  rw [sameD, decide_eq_false qVc1]
 ·try simp only [dQ, if_true, if_false, reduceIte] at hb7
  iterate 7 refine zy4 ?_
  refine z3w ?_; refine zp0 ?_; refine exB (fun hb16 => ?_) (fun hb16 => ?_)
  ·try simp only [dQ, if_true, if_false, reduceIte] at hb16
   iterate 7 refine sN ?_
   refine z3w ?_; refine s_nil ?_; apply hK5; apply hK4; refine z08 (b := _) rfl (fun _ => ?_) (fun h_t32 => ?_)
   rotate_left 1
   ·exfalso; simp at h_t32
   refine seq_k fun _ hK8 => ?_; refine z00 z2z fun _ hK9 => ?_; refine z3w ?_; refine s_nil ?_; apply hK9; apply hK8; refine z0f (z0d z2z (fun _ _ h => h) (by first | rfl | assumption) [.tmp 4] rfl ?_); refine rtD ?_
   show SV.c (.bool false) = _
   rw [sameD, decide_eq_false qVc1]
  ·try simp only [dQ, if_true, if_false, reduceIte] at hb16
   iterate 7 refine zy4 ?_
   refine z3w ?_; refine s_nil ?_; apply hK5; apply hK4; refine z08 (b := _) rfl (fun h_t32 => ?_) (fun h_t32 => ?_)
   ·try simp only [dQ, if_true, if_false, reduceIte] at h_t32
    refine seq_k fun _ hK10 => ?_; refine z00 z2z fun _ hK11 => ?_; refine z3w ?_; refine s_nil ?_; apply hK11; apply hK10; refine z0f (z0d z2z (fun _ _ h => h) (by first | rfl | assumption) [.tmp 4] rfl ?_); refine rtD ?_
    show SV.c (.bool false) = _
    rw [sameD, decide_eq_false qVc1]
   ·try simp only [dQ, if_true, if_false, reduceIte] at h_t32
    refine z0c ?_; apply hK3; refine seq_k fun _ hK12 => ?_; refine seq_k fun _ hK13 => ?_
    have hL : d.nc = e.nc ∧ d.next.length = e.next.length ∧ d.acc.length = e.acc.length := by first | omega | (simp at *; omega)
    have hd1 := hd.1
    have he1 := he.1
    have hM1 := hd.2.1
    have hM2 := hd.2.2.1
    have hM3 := hd.2.2.2.1
    refine z00 z2z fun _ hK14 => ?_; refine z3w ?_; refine s_nil ?_; apply hK14; apply hK13; refine z09 ?_; refine z0t (α := Nat) (fun k => [(2, .c (.dp (dfaC d) 0)), (3, .c (.dp (dfaC e) 0)), (5, .c (.int .i64 k))]) (fun k => []) 0 (fun k => k ≤ d.nc ∧ ∀ i, i < k → clsAt d.cls i = clsAt e.cls i) (fun k => d.nc - k) ?_ ?_
    ·refine dnS [0, 1] id 0 ⟨Nat.zero_le _, fun i hi => absurd hi (Nat.not_lt_zero i)⟩ [] uVc_0 uVc_0 uVc_0 uVc_0
    ·intro k hk
     refine seq_k fun _ hK15 => ?_; refine seq_k fun _ hK16 => ?_; refine z00 z2z fun _ hK17 => ?_
     iterate 5 refine z3w ?_
     refine s_nil ?_; apply hK17; apply hK16; refine z08 (b := _) rfl (fun h_t37 => ?_) (fun h_t37 => ?_)
     ·try simp only [dQ, if_true, if_false, reduceIte] at h_t37
      refine z0c ?_; apply hK15; refine seq_k fun _ hK18 => ?_; refine z09 ?_; refine seq_k fun _ hK19 => ?_
      have hkn : k < d.nc := by omega
      have hcd := z24 hd1 hkn
      have hce := z24 he1 (hL.1 ▸ hkn)
      refine z75 z2z (by kernel_rfl) fun _ hK20 => ?_
      iterate 4 refine zy5 ?_
      refine zy6 ?_; refine exA (.agg (.u64s (clsAt d.cls k))) (as_eq rfl) ?_
      iterate 4 refine zy5 ?_
      refine zy6 ?_; refine exA (.agg (.u64s (clsAt e.cls k))) (as_eq rfl) ?_; refine zy5 ?_; refine q_nil ?_; apply hK20; apply hK19; refine z08 (b := _) rfl (fun h_t50 => ?_) (fun h_t50 => ?_)
      ·try simp only [dQ, if_true, if_false, reduceIte] at h_t50
       refine seq_k fun _ hK21 => ?_; refine z00 z2z fun _ hK22 => ?_; refine z3w ?_; refine s_nil ?_; apply hK22; apply hK21; refine z0f (z0d z2z (fun _ _ h => h) (by first | rfl | assumption) [.tmp 4] rfl ?_); refine rtD ?_
       show SV.c (.bool false) = _
       rw [sameD, decide_eq_false (fun g => h_t50 (by rw [g.2.1]))]
      ·try simp only [dQ, if_true, if_false, reduceIte] at h_t50
       refine z0c ?_; refine z0b ?_; apply hK18; refine z00 z2z fun _ hK23 => ?_
       iterate 3 refine z3w ?_
       refine s_nil ?_; apply hK23; refine dnS [] id (k + 1) ⟨⟨by omega, fun i hi => (Nat.lt_succ_iff_lt_or_eq.1 hi).elim (hk.2 i) (fun e => e ▸ h_t50)⟩, by omega⟩ [] uVc_0 uVc_0 uVc_0 uVc_0
     ·try simp only [dQ, if_true, if_false, reduceIte] at h_t37
      refine z0r ?_; refine z05 ?_; refine z05 ?_; refine z0m ?_; apply hK12; refine seq_k fun _ hK24 => ?_; refine seq_k fun _ hK25 => ?_
      obtain rfl : k = d.nc := by omega
      have hcls : d.cls = e.cls := cls_ext hd1 (hL.1 ▸ he1) hk.2
      refine z00 z2z fun _ hK26 => ?_; refine z3w ?_; refine s_nil ?_; apply hK26; apply hK25; refine z09 ?_; refine z0t (α := Nat) (fun k => [(2, .c (.dp (dfaC d) 0)), (3, .c (.dp (dfaC e) 0)), (6, .c (.int .i64 k))]) (fun k => []) 0 (fun k => k ≤ d.next.length ∧ d.next.take k = e.next.take k) (fun k => d.next.length - k) ?_ ?_
      ·refine dnS [] id 0 ⟨Nat.zero_le _, rfl⟩ [] uVc_0 uVc_0 uVc_0 uVc_0
      ·intro k hk
       refine seq_k fun _ hK27 => ?_; refine seq_k fun _ hK28 => ?_; refine z00 z2z fun _ hK29 => ?_
       iterate 5 refine z3w ?_
       refine s_nil ?_; apply hK29; apply hK28; refine z08 (b := _) rfl (fun h_t55 => ?_) (fun h_t55 => ?_)
       ·try simp only [dQ, if_true, if_false, reduceIte] at h_t55
        refine z0c ?_; apply hK27; refine seq_k fun _ hK30 => ?_; refine z09 ?_; refine seq_k fun _ hK31 => ?_
        have hkn : k < d.next.length := by omega
        have hke : k < e.next.length := by omega
        have hr1 := hd.2.2.2.2 _ (z2i (d := []) hkn)
        have hr2 := he.2.2.2.2 _ (z2i (d := []) hke)
        refine z75 z2z (by kernel_rfl) fun _ hK32 => ?_
        iterate 4 refine zro ?_
        refine zp1 ?_; rw [z6v]
        rotate_left 1
        ·first | omega | (simp <;> omega)
        refine exI ?_
        iterate 4 refine zro ?_
        refine zp1 ?_; rw [z6v]
        rotate_left 1
        ·first | omega | (simp <;> omega)
        refine exI ?_; refine zp1 ?_
        simp only [Int.toNat_natCast, Nat.mul_one]
        refine ⟨d.next.getD k [], e.next.getD k [], rfl, ⟨hr1, hr2⟩, ?_⟩; refine DVc_0 ?_
        first | refine exI ?_ | (intro cap10 hcap10; refine exI ?_)
        refine zro ?_; refine q_nil ?_; apply hK32; apply hK31; refine z08 (b := _) rfl (fun h_t69 => ?_) (fun h_t69 => ?_)
        ·simp only [Int.toNat_natCast, Nat.mul_one, Bool.not_eq_true', decide_eq_false_iff_not] at h_t69
         refine seq_k fun _ hK33 => ?_; refine z00 z2z fun _ hK34 => ?_; refine z3w ?_; refine s_nil ?_; apply hK34; apply hK33; refine z0f (z0d z2z (fun _ _ h => h) (by first | rfl | assumption) [.tmp 4] rfl ?_); refine rtD ?_
         show SV.c (.bool false) = _
         rw [sameD, decide_eq_false (fun g => h_t69 (by rw [g.2.2.1]))]
        ·simp only [Int.toNat_natCast, Nat.mul_one, Bool.not_eq_false', decide_eq_true_eq] at h_t69
         refine z0c ?_; refine z0b ?_; apply hK30; refine z00 z2z fun _ hK35 => ?_
         iterate 3 refine z3w ?_
         refine s_nil ?_; apply hK35; refine dnS [] id (k + 1) ⟨⟨by omega, z9t (d := []) hk.2 hkn hke h_t69⟩, by omega⟩ [] uVc_0 uVc_0 uVc_0 uVc_0
       ·try simp only [dQ, if_true, if_false, reduceIte] at h_t55
        refine z0r ?_; refine z05 ?_; refine z05 ?_; refine z0m ?_; apply hK24; refine seq_k fun _ hK36 => ?_; refine seq_k fun _ hK37 => ?_
        obtain rfl : k = d.next.length := by omega
        have hnx : d.next = e.next := zb7 hk.2 (Nat.le_refl _) (by omega)
        refine z00 z2z fun _ hK38 => ?_; refine z3w ?_; refine s_nil ?_; apply hK38; apply hK37; refine z09 ?_; refine z0t (α := Nat) (fun k => [(2, .c (.dp (dfaC d) 0)), (3, .c (.dp (dfaC e) 0)), (7, .c (.int .i64 k))]) (fun k => []) 0 (fun k => k ≤ d.acc.length ∧ d.acc.take k = e.acc.take k) (fun k => d.acc.length - k) ?_ ?_
        ·refine dnS [] id 0 ⟨Nat.zero_le _, rfl⟩ [] uVc_0 uVc_0 uVc_0 uVc_0
        ·intro k hk
         refine seq_k fun _ hK39 => ?_; refine seq_k fun _ hK40 => ?_; refine z00 z2z fun _ hK41 => ?_
         iterate 5 refine z3w ?_
         refine s_nil ?_; apply hK41; apply hK40; refine z08 (b := _) rfl (fun h_t74 => ?_) (fun h_t74 => ?_)
         ·try simp only [dQ, if_true, if_false, reduceIte] at h_t74
          refine z0c ?_; apply hK39; refine seq_k fun _ hK42 => ?_; refine z09 ?_; refine seq_k fun _ hK43 => ?_
          have hkn : k < d.acc.length := by omega
          have hke : k < e.acc.length := by omega
          refine z75 z2z (by kernel_rfl) fun _ hK44 => ?_
          iterate 11 refine zro ?_
          refine q_nil ?_; apply hK44; apply hK43; refine z08 (b := _) rfl (fun h_t87 => ?_) (fun h_t87 => ?_)
          ·simp only [Int.toNat_natCast, Nat.mul_one, Bool.not_eq_true', decide_eq_false_iff_not] at h_t87
           refine seq_k fun _ hK45 => ?_; refine z00 z2z fun _ hK46 => ?_; refine z3w ?_; refine s_nil ?_; apply hK46; apply hK45; refine z0f (z0d z2z (fun _ _ h => h) (by first | rfl | assumption) [.tmp 4] rfl ?_); refine rtD ?_
           show SV.c (.bool false) = _
           rw [sameD, decide_eq_false (fun g => h_t87 (by rw [g.2.2.2]))]
          ·simp only [Int.toNat_natCast, Nat.mul_one, Bool.not_eq_false', decide_eq_true_eq] at h_t87
           refine z0c ?_; refine z0b ?_; apply hK42; refine z00 z2z fun _ hK47 => ?_
           iterate 3 refine z3w ?_
           refine s_nil ?_; apply hK47; refine dnS [] id (k + 1) ⟨⟨by omega, z9t (d := false) hk.2 hkn hke h_t87⟩, by omega⟩ [] uVc_0 uVc_0 uVc_0 uVc_0
         ·try simp only [dQ, if_true, if_false, reduceIte] at h_t74
          refine z0r ?_; refine z05 ?_; refine z05 ?_; refine z0m ?_; apply hK36; refine seq_k fun _ hK48 => ?_; refine z00 z2z fun _ hK49 => ?_; refine z3w ?_; refine s_nil ?_; apply hK49; apply hK48; refine z0f (z0d z2z (fun _ _ h => h) (by first | rfl | assumption) [.tmp 4] rfl ?_); refine rtD ?_
          obtain rfl : k = d.acc.length := by omega
          show SV.c (.bool true) = _
          rw [sameD, decide_eq_true ⟨hL.1, hcls, hnx, zb7 hk.2 (Nat.le_refl _) (by omega)⟩]


end Go.Proofs.YtppmnaoollkboaaDoor

namespace Go.Proofs.YtppmnaoollkboaaDoor
set_option linter.all false
open Go.Ab Go.RowKit

theorem qVd0 {a : Prop} (h : a := by first | exact vcA | (simp [hc] <;> omega) | exact vcB) : a := h
theorem qVd1 {a : Prop} (h : a := by first | exact vcA | (simp [hc] <;> omega) | (refine ⟨by omega, by omega, ?_⟩; decide) | (simp [hc]; omega) | (refine ⟨by omega, by omega⟩) | exact vcB) : a := h
theorem qVd2 {a : Prop} (h : a := by first | exact vcA | (simp [hc] <;> omega) | (simp [hc]; done) | (simp [hc]; omega) | exact vcB) : a := h
theorem DVd_0 {a b : Prop} (kZ : b) (h : HidB b → a := by intro kZ; (repeat first | refine aI qVd0 ?_ | refine z06 qVd0 ?_ | refine z04 qVd0 ?_ | refine z0k qVd0 ?_ | refine z0a ?_); exact kZ.out) : a := h ⟨kZ⟩
theorem sXVd_1 {a b : Prop} (kZ : b) (h : HidB b → a := by intro kZ; refine sX ?_; refine DVd_0 ?_; refine exI ?_; exact kZ.out) : a := h ⟨kZ⟩
theorem DVd_2 {a b : Prop} (kZ : b) (h : HidB b → a := by intro kZ; (repeat first | refine aI qVd1 ?_ | refine z06 qVd1 ?_ | refine z04 qVd1 ?_ | refine z0k qVd1 ?_ | refine z0a ?_); exact kZ.out) : a := h ⟨kZ⟩
theorem dXVd_3 {a b : Prop} (kZ : b) (h : HidB b → a := by intro kZ; refine dX ?_; refine DVd_2 ?_; refine exI ?_; exact kZ.out) : a := h ⟨kZ⟩
theorem gX0Vd_4 {a b : Prop} (kZ : b) (h : HidB b → a := by intro kZ; refine gX0 ?_; refine DVd_2 ?_; refine exI ?_; exact kZ.out) : a := h ⟨kZ⟩
theorem DVd_5 {a b : Prop} (kZ : b) (h : HidB b → a := by intro kZ; (repeat first | refine aI qVd2 ?_ | refine z06 qVd2 ?_ | refine z04 qVd2 ?_ | refine z0k qVd2 ?_ | refine z0a ?_); exact kZ.out) : a := h ⟨kZ⟩
theorem sXVd_6 {a b : Prop} (kZ : b) (h : HidB b → a := by intro kZ; refine sX ?_; refine DVd_5 ?_; refine exI ?_; exact kZ.out) : a := h ⟨kZ⟩
theorem sX0Vd_7 {a b : Prop} (kZ : b) (h : HidB b → a := by intro kZ; refine sX0 ?_; refine DVd_5 ?_; refine exI ?_; exact kZ.out) : a := h ⟨kZ⟩
open Go.Aut
attribute [local irreducible] z0q z1z zl z02 z18 putB
def withW (c : List UInt64) (b : Nat) : List UInt64 := c.set (b / 64) (c.getD (b / 64) 0 ||| shl64 1 (b % 64))
@[simp] theorem z36 (c : List UInt64) (b : Nat) : (withW c b).length = c.length := by simp [withW]
def withRS : QSpec := fun vs K => ∃ c : List UInt64, ∃ b : Nat, vs = [.agg (.u64s c), .c (.int .i64 b)] ∧ (c.length = 4 ∧ b < 256) ∧ K (.agg (.u64s (withW c b)))
theorem withR_ok : z16 Tryd.prog gl 137 withRS := by
 refine z1a (Γ := g0) (N := 17) Tryd.func137 rfl rfl fun vs K h => ?_; obtain ⟨c, b, rfl, ⟨hc, hb⟩, h⟩ := h; refine ⟨_, h, rfl, by simp, fun w I => ?_⟩; refine seq_k fun _ hK1 => ?_; refine z00 g0_ok fun _ hK2 => ?_
 iterate 2 refine sXVd_1 ?_
 refine s_nil ?_; apply hK2; apply hK1; refine seq_k fun _ hK3 => ?_; refine z3l g0_ok [(0, true), (1, true), (2, true), (3, true), (4, true), (5, true), (6, true), (7, true), (8, true), (9, true), (10, true), (11, false)] rfl (by kernel_rfl) (by kernel_rfl) fun _ hK4 => ?_
 iterate 11 refine dXVd_3 ?_
 refine gX0Vd_4 ?_; refine d_nil ?_; apply hK4; apply hK3; refine seq_k fun _ hK5 => ?_; refine z00 g0_ok fun _ hK6 => ?_; refine sXVd_6 ?_; refine sX0Vd_7 ?_; refine s_nil ?_; apply hK6; apply hK5; refine z0f (z0d g0_ok (fun _ _ h => h) (by first | rfl | assumption) [.cell 4 50] rfl ?_); refine rtD ?_; rw [withW, show 0 + ((b : Int) / 64).toNat * 1 = b / 64 by omega, show ((b : Int) % 64).toNat = b % 64 by omega]
 rfl

def fewB (b : UInt8) : UInt8 := if b < 97 ∨ 100 < b then 97 + b % 4 else b
def fewL (l : List UInt8) (n : Nat) : List UInt8 := (l.take n).map fewB
@[simp] theorem fewL_length (l : List UInt8) (n : Nat) : (fewL l n).length = min n l.length := by simp [fewL]
theorem fewL_succ {l : List UInt8} {k : Nat} (h : k < l.length) : fewL l k ++ ([] ++ [fewB (l.getD k 0)]) = fewL l (k + 1) := by
  rw [fewL, fewL, List.take_add_one, List.getD_eq_getElem?_getD, List.getElem?_eq_getElem h, List.nil_append, List.map_append]; rfl
def fewS : QSpec := fun vs K => ∃ l : List UInt8, ∃ n : Nat, vs = [.c (.ds l.length (.u8s l)), .c (.int .i64 n)] ∧ (l.length ≤ 9223372036854775807 ∧ n ≤ 1048576) ∧ K (.c (.ds (fewL l n).length (.u8s (fewL l n))))
end Go.Proofs.YtppmnaoollkboaaDoor

namespace Go.Proofs.YtppmnaoollkboaaDoor
set_option linter.all false
open Go.Ab Go.RowKit

theorem qVe0 {a : Prop} (h : a := by first | exact vcA | (simp <;> omega) | exact vcB) : a := h
theorem qVe1 {a : Prop} (h : a := by first | exact vcA | (simp <;> omega) | (refine ⟨by omega, by omega, by omega⟩) | exact vcB) : a := h
theorem qVe2 {a : Prop} (h : a := by first | exact vcA | (simp <;> omega) | (simp only [z62, hln]; omega) | (simp only [z62, z36, hcl]; done) | (simp only [z62, z36, hcl, hln]; omega) | exact vcB) : a := h
theorem uVe_0 {a : Prop} (h : a := by
    repeat' (first | exact pT  | exact trivial | refine aI ?_ ?_ | exact cC0 | refine low_cons' ?_ ?_ | exact cC1 | fail)
    all_goals first | omega | (show (_ : List UInt64) = _; exact zme n b (by omega) rfl) | (show (_ : Int) = _; rw [z22]; split <;> omega) | (show (_ : List UInt64) = _; rw [letK]; rfl) | (rw [z2x]; omega)| (show (0 : Nat) < (z02 _ _ _ _).length; rw [z01 hcl]; decide) | (simp [-List.reduceReplicate]; done) | (simp [-List.reduceReplicate] <;> omega) | skip) : a := h
theorem DVe_0 {a b : Prop} (kZ : b) (h : HidB b → a := by intro kZ; (repeat first | refine aI qVe0 ?_ | refine z06 qVe0 ?_ | refine z04 qVe0 ?_ | refine z0k qVe0 ?_ | refine z0a ?_); exact kZ.out) : a := h ⟨kZ⟩
theorem z93 {a b : Prop} (kZ : b) (h : HidB b → a := by intro kZ; refine sX ?_; refine DVe_0 ?_; refine exI ?_; exact kZ.out) : a := h ⟨kZ⟩
theorem DVe_2 {a b : Prop} (kZ : b) (h : HidB b → a := by intro kZ; (repeat first | refine aI qVe1 ?_ | refine z06 qVe1 ?_ | refine z04 qVe1 ?_ | refine z0k qVe1 ?_ | refine z0a ?_); exact kZ.out) : a := h ⟨kZ⟩
theorem sXVe_3 {a b : Prop} (kZ : b) (h : HidB b → a := by intro kZ; refine sX ?_; refine DVe_2 ?_; refine exI ?_; exact kZ.out) : a := h ⟨kZ⟩
theorem sXTVe_4 {a b : Prop} (kZ : b) (h : HidB b → a := by intro kZ; refine sXT ?_; refine DVe_0 ?_; refine exI ?_; exact kZ.out) : a := h ⟨kZ⟩
theorem DVe_5 {a b : Prop} (kZ : b) (h : HidB b → a := by intro kZ; (repeat first | refine aI qVe2 ?_ | refine z06 qVe2 ?_ | refine z04 qVe2 ?_ | refine z0k qVe2 ?_ | refine z0a ?_); exact kZ.out) : a := h ⟨kZ⟩
theorem zc6 {a b : Prop} (kZ : b) (h : HidB b → a := by intro kZ; refine sX ?_; refine DVe_5 ?_; refine exI ?_; exact kZ.out) : a := h ⟨kZ⟩
theorem sXEVe_7 {a b : Prop} (kZ : b) (h : HidB b → a := by intro kZ; refine sX ?_; refine DVe_0 ?_; exact kZ.out) : a := h ⟨kZ⟩
theorem zdf {a b : Prop} (kZ : b) (h : HidB b → a := by intro kZ; refine sX ?_; refine DVe_5 ?_; exact kZ.out) : a := h ⟨kZ⟩
theorem zk9 {a b : Prop} (kZ : b) (h : HidB b → a := by intro kZ; refine sX0 ?_; refine DVe_5 ?_; exact kZ.out) : a := h ⟨kZ⟩

open Go.Aut
attribute [local irreducible] z0q z1z zl z02 z18 putB
def z22 (n b : Nat) : Nat := if 97 ≤ b ∧ b < 97 + n then b - 97 else n
theorem z6b (n b : Nat) : z22 n b ≤ n := by unfold z22; split <;> omega
def letK (n : Nat) : Nat → List UInt64
  | 0 => (List.replicate (n + 1) (List.replicate 4 0)).flatten
  | b + 1 => (letK n b).take (z22 n b * 4) ++ withW (clsAt (letK n b) (z22 n b)) b ++ (letK n b).drop (z22 n b * 4 + 4)
theorem z2x (n : Nat) : ∀ b, (letK n b).length = (n + 1) * 4
  | 0 => by simp [letK]
  | b + 1 => by
    have h := z2x n b
    have hc := z6b n b
    have hl := z24 h (i := z22 n b) (by omega)
    rw [letK, List.length_append, List.length_append, List.length_take, List.length_drop, z36, hl, h]
    have : z22 n b * 4 + 4 ≤ (n + 1) * 4 := by omega
    omega
theorem zme (n b : Nat) {o : Nat} (ho : o = z22 n b * 4) {c : List UInt64} (hc : c = clsAt (letK n b) (z22 n b)) : (letK n b).take o ++ withW c b ++ (letK n b).drop (o + (withW c b).length) = letK n (b + 1) := by
  subst ho hc; rw [letK, z36, z24 (z2x n b) (Nat.lt_succ_of_le (z6b n b))]
noncomputable def ge4 : Ctx := { P := Tryd.prog, ty := ty, glob := gl, fs := [(137, .flat withRS)] }
theorem z6o : ge4.OK := ⟨tyOK, ⟨⟨z07 Tryd.func137 (by kernel_rfl) rfl, withR_ok⟩, trivial⟩, mixed⟩
@[simp] theorem ge4_ty : ge4.ty = ty := rfl

def zrp : QSpec := fun vs K => ∃ n : Nat, vs = [.c (.int .i64 n)] ∧ n ≤ 159 ∧ K (.c (.ds (n + 1) (.u64s (letK n 256))))
theorem zte : z2p Tryd.prog gl 73 zrp := by
 refine z2e (Γ := ge4) (N := 34) Tryd.func73 rfl rfl fun vs K h => ?_; obtain ⟨n, rfl, hn, h⟩ := h; refine ⟨_, h, trivial, by simp, fun w I => ?_⟩; refine seq_k fun _ hK1 => ?_; refine z00 z6o fun _ hK2 => ?_; refine z93 ?_; refine s_nil ?_; apply hK2; apply hK1; refine seq_k fun _ hK3 => ?_; refine z00 z6o fun _ hK4 => ?_
 iterate 4 refine sXVe_3 ?_
 refine s_nil ?_; apply hK4; apply hK3; refine seq_k fun _ hK5 => ?_; refine seq_k fun _ hK6 => ?_; refine z00 z6o fun _ hK7 => ?_; refine z93 ?_; refine s_nil ?_; apply hK7; apply hK6; refine z09 ?_; refine z0t (α := Nat) (fun b => [(0, .c (.int .i64 n)), (3, .c (.slice 0 0 (n + 1) (n + 1))), (4, .c (.int .i64 (b : Nat)))]) (fun b => [(0, .own 50 (.u64s (letK n b)) ((n + 1) * 4))]) 1 (fun b => b ≤ 256) (fun b => 256 - b) ?_ ?_
 ·refine dnS [] id 0 (Nat.zero_le _) [0] uVe_0 uVe_0 uVe_0 uVe_0
 ·intro b hb
  refine seq_k fun _ hK8 => ?_; refine seq_k fun _ hK9 => ?_; refine z00 z6o fun _ hK10 => ?_
  iterate 2 refine z93 ?_
  refine s_nil ?_; apply hK10; apply hK9; refine z08 (b := _) rfl (fun h_t10 => ?_) (fun h_t10 => ?_)
  ·try simp only [dQ, if_true, if_false, reduceIte] at h_t10
   refine z0c ?_; apply hK8; refine seq_k fun _ hK11 => ?_; refine z09 ?_; refine seq_k fun _ hK12 => ?_
   have hb256 : b < 256 := by omega
   have hln := z2x n b
   have hcn := z6b n b
   have hcl := z24 hln (Nat.lt_succ_of_le hcn)
   refine z00 z6o fun _ hK13 => ?_
   iterate 2 refine z93 ?_
   refine s_nil ?_; apply hK13; apply hK12; refine seq_k fun _ hK14 => ?_; refine seq_k fun _ hK15 => ?_; refine z00 z6o fun _ hK16 => ?_
   iterate 2 refine z93 ?_
   refine sXEVe_7 ?_; refine exB (fun hb2 => ?_) (fun hb2 => ?_)
   ·try simp only [dQ, if_true, if_false, reduceIte] at hb2
    iterate 4 refine sXTVe_4 ?_
    refine z93 ?_; refine s_nil ?_; apply hK16; apply hK15; refine z08 (b := _) rfl (fun h_t21 => ?_) (fun h_t21 => ?_)
    ·try simp only [dQ, if_true, if_false, reduceIte] at h_t21
     refine z00 z6o fun _ hK17 => ?_
     iterate 3 refine z93 ?_
     refine s_nil ?_; apply hK17; apply hK14; refine leW [] id [(0, .c (.int .i64 n)), (3, .c (.slice 0 0 (n + 1) (n + 1))), (4, .c (.int .i64 (b : Nat))), (5, .c (.int .i64 (z22 n b : Nat)))] [(0, .own 50 (.u64s (letK n b)) ((n + 1) * 4))] 1 [0] uVe_0 uVe_0 uVe_0 uVe_0 ?_; refine z00 z6o fun _ hK18 => ?_
     iterate 5 refine zc6 ?_
     refine zdf ?_; refine exA (.agg (.u64s (clsAt (letK n b) (z22 n b)))) (as_eq (congrArg (fun i => SV.agg ((Cont.u64s (letK n b)).sub i 4)) (by omega))) ?_; refine zc6 ?_; refine zdf ?_; refine ⟨clsAt (letK n b) (z22 n b), b, rfl, ⟨hcl, hb256⟩, ?_⟩; refine DVe_5 ?_
     first | refine exI ?_ | (intro cap7 hcap7; refine exI ?_)
     refine zc6 ?_; refine zk9 ?_; refine z8p (by rw [z36, hcl, hln]; omega) ?_; refine exI ?_; refine s_nil ?_; apply hK18; refine z0b ?_; apply hK11; refine z00 z6o fun _ hK19 => ?_
     iterate 3 refine z93 ?_
     refine s_nil ?_; apply hK19; refine dnS [] id (b + 1) ⟨by omega, by omega⟩ [0] uVe_0 uVe_0 uVe_0 uVe_0
    ·try simp only [dQ, if_true, if_false, reduceIte] at h_t21
     refine z0c ?_; apply hK14; refine leW [] id [(0, .c (.int .i64 n)), (3, .c (.slice 0 0 (n + 1) (n + 1))), (4, .c (.int .i64 (b : Nat))), (5, .c (.int .i64 (z22 n b : Nat)))] [(0, .own 50 (.u64s (letK n b)) ((n + 1) * 4))] 1 [0] uVe_0 uVe_0 uVe_0 uVe_0 ?_; refine z00 z6o fun _ hK20 => ?_
     iterate 5 refine zc6 ?_
     refine zdf ?_; refine exA (.agg (.u64s (clsAt (letK n b) (z22 n b)))) (as_eq (congrArg (fun i => SV.agg ((Cont.u64s (letK n b)).sub i 4)) (by omega))) ?_; refine zc6 ?_; refine zdf ?_; refine ⟨clsAt (letK n b) (z22 n b), b, rfl, ⟨hcl, hb256⟩, ?_⟩; refine DVe_5 ?_
     first | refine exI ?_ | (intro cap7 hcap7; refine exI ?_)
     refine zc6 ?_; refine zk9 ?_; refine z8p (by rw [z36, hcl, hln]; omega) ?_; refine exI ?_; refine s_nil ?_; apply hK20; refine z0b ?_; apply hK11; refine z00 z6o fun _ hK21 => ?_
     iterate 3 refine z93 ?_
     refine s_nil ?_; apply hK21; refine dnS [] id (b + 1) ⟨by omega, by omega⟩ [0] uVe_0 uVe_0 uVe_0 uVe_0
   ·try simp only [dQ, if_true, if_false, reduceIte] at hb2
    iterate 4 refine sN ?_
    refine z93 ?_; refine s_nil ?_; apply hK16; apply hK15; refine z08 (b := _) rfl (fun h_t21 => ?_) (fun _ => ?_)
    ·exfalso; simp at h_t21
    refine z0c ?_; apply hK14; refine leW [] id [(0, .c (.int .i64 n)), (3, .c (.slice 0 0 (n + 1) (n + 1))), (4, .c (.int .i64 (b : Nat))), (5, .c (.int .i64 (z22 n b : Nat)))] [(0, .own 50 (.u64s (letK n b)) ((n + 1) * 4))] 1 [0] uVe_0 uVe_0 uVe_0 uVe_0 ?_; refine z00 z6o fun _ hK22 => ?_
    iterate 5 refine zc6 ?_
    refine zdf ?_; refine exA (.agg (.u64s (clsAt (letK n b) (z22 n b)))) (as_eq (congrArg (fun i => SV.agg ((Cont.u64s (letK n b)).sub i 4)) (by omega))) ?_; refine zc6 ?_; refine zdf ?_; refine ⟨clsAt (letK n b) (z22 n b), b, rfl, ⟨hcl, hb256⟩, ?_⟩; refine DVe_5 ?_
    first | refine exI ?_ | (intro cap7 hcap7; refine exI ?_)
    refine zc6 ?_; refine zk9 ?_; refine z8p (by rw [z36, hcl, hln]; omega) ?_; refine exI ?_; refine s_nil ?_; apply hK22; refine z0b ?_; apply hK11; refine z00 z6o fun _ hK23 => ?_
    iterate 3 refine z93 ?_
    refine s_nil ?_; apply hK23; refine dnS [] id (b + 1) ⟨by omega, by omega⟩ [0] uVe_0 uVe_0 uVe_0 uVe_0
  ·try simp only [dQ, if_true, if_false, reduceIte] at h_t10
   refine z0r ?_; refine z05 ?_; refine z05 ?_; refine z0m ?_; apply hK5; refine seq_k fun _ hK24 => ?_; refine z00 z6o fun _ hK25 => ?_
   iterate 2 refine z93 ?_
   refine s_nil ?_; apply hK25; apply hK24; refine z0f (z0n z6o (fun _ _ h => h) (by trivial) [0] [.tmp 2] rfl ?_)
   obtain rfl : b = 256 := by omega
   repeat' (first | exact pT  | exact trivial | refine aI ?_ ?_ | exact cC0 | refine low_cons' ?_ ?_ | exact cC1 | fail)
   all_goals first | omega | (show (_ : List UInt64) = _; exact zme n b (by omega) rfl) | (show (_ : Int) = _; rw [z22]; split <;> omega) | (show (_ : List UInt64) = _; rw [letK]; rfl) | (rw [z2x]; omega)| (show (0 : Nat) < (z02 _ _ _ _).length; rw [z01 hcl]; decide) | (simp [-List.reduceReplicate]; done) | (simp [-List.reduceReplicate] <;> omega) | skip
   all_goals first | (show 0 + (n + 1) * 4 ≤ (letK n 256).length; rw [z2x]; omega) | (rw [if_pos ⟨rfl, z2x n 256⟩]; done) | skip


end Go.Proofs.YtppmnaoollkboaaDoor

namespace Go.Proofs.YtppmnaoollkboaaDoor
set_option linter.all false
open Go.Ab Go.RowKit

theorem qVf0 {a : Prop} (h : a := by first | exact vcA | (simp <;> omega) | exact ⟨by omega, by omega, trivial, trivial⟩ | (show (s.1 + 1) * 24 ≤ 140737488355328 ∧ s.1 + 1 ≤ 9223372036854775807 ∧ _; exact ⟨by omega, by omega, trivial, trivial⟩) | (refine ⟨by omega, by omega⟩) | (refine ⟨by omega, by omega, ?_⟩; decide) | (simp only [z1b, z5m]; omega) | (simp only [z3m, z6p]; omega) | (simp only [z2m, zb8]; omega) | exact vcB) : a := h
theorem qVf1 {a : Prop} (h : a := by show (rowK _ _ _ _ _).length = _ * 1; rw [zb8, Nat.mul_one]) : a := h
theorem qVf2 {a : Prop} (h : a := by show (rowsC _).length = _ * 1; rw [z1b, z5m, Nat.mul_one]) : a := h
theorem qVf3 {a : Prop} (h : a := by show (accK _ _).length = _ * 1; rw [z6p, Nat.mul_one]) : a := h
theorem uVf_0 {a : Prop} (h : a := by
    repeat' (first | exact pT  | exact trivial | refine aI ?_ ?_ | exact cC0 | refine low_cons' ?_ ?_ | exact cC1 | fail)
    all_goals first | omega | (show (_ : List Int) = _; refine zy8 _ _ _ _ _ ?_; first | (rw [tgtK, if_pos (by omega), Int.toNat_natCast, Nat.mul_one]; exact (Int.natCast_emod _ _).symm) | (rw [tgtK, if_neg (by omega)])) | (show (_ : List Bool) = _; exact zy9 _ _ (by rw [zy7]; rfl)) | (show allTo _ _ _; rw [ztf]; exact z27 _) | exact z27 _ | exact z8l _ | (show (_ : Int) = _; push_cast; rw [Int.add_mul]; omega) | (rw [if_pos ⟨rfl, qVf1⟩, hj]; done) | (show _ = (rowsK _ _ _ _).length; rw [z5m]; done) | (show _ = (accK _ _).length; rw [z6p]; done) | (rw [if_pos ⟨rfl, qVf2⟩]; rfl) | (rw [if_pos ⟨rfl, qVf3⟩]; rfl) | (rw [z5m]; done) | (rw [z6p]; done)| (show (0 : Nat) < (z02 _ _ _ _).length; rw [z01 hcl]; decide) | (simp [-List.reduceReplicate]; done) | (simp [-List.reduceReplicate] <;> omega) | skip) : a := h
theorem DVf_0 {a b : Prop} (kZ : b) (h : HidB b → a := by intro kZ; (repeat first | refine aI qVf0 ?_ | refine z06 qVf0 ?_ | refine z04 qVf0 ?_ | refine z0k qVf0 ?_ | refine z0a ?_); exact kZ.out) : a := h ⟨kZ⟩
theorem z37 {a b : Prop} (kZ : b) (h : HidB b → a := by intro kZ; refine sX ?_; refine DVf_0 ?_; refine exI ?_; exact kZ.out) : a := h ⟨kZ⟩
theorem zp2 {a b : Prop} (kZ : b) (h : HidB b → a := by intro kZ; refine sX0 ?_; refine DVf_0 ?_; refine exI ?_; exact kZ.out) : a := h ⟨kZ⟩
theorem dXVf_3 {a b : Prop} (kZ : b) (h : HidB b → a := by intro kZ; refine dX ?_; refine DVf_0 ?_; refine exI ?_; exact kZ.out) : a := h ⟨kZ⟩
theorem gXVf_4 {a b : Prop} (kZ : b) (h : HidB b → a := by intro kZ; refine gX ?_; refine DVf_0 ?_; refine exI ?_; exact kZ.out) : a := h ⟨kZ⟩
theorem gX0Vf_5 {a b : Prop} (kZ : b) (h : HidB b → a := by intro kZ; refine gX0 ?_; refine DVf_0 ?_; refine exI ?_; exact kZ.out) : a := h ⟨kZ⟩
theorem zdg {a b : Prop} (kZ : b) (h : HidB b → a := by intro kZ; refine sX ?_; refine DVf_0 ?_; exact kZ.out) : a := h ⟨kZ⟩
theorem gXEVf_7 {a b : Prop} (kZ : b) (h : HidB b → a := by intro kZ; refine gX ?_; refine DVf_0 ?_; exact kZ.out) : a := h ⟨kZ⟩

open Go.Aut
attribute [local irreducible] z0q z1z zl z02 z18 putB letK
abbrev shpV (a : UInt8) (l : List UInt8) (m : UInt8) : SV := .agg (.cells [.u8 a, .ds l.length (.u8s l), .u8 m])
def madeN (a : UInt8) : Nat := 1 + a.toNat % 5
def z4s (a : UInt8) : Nat := 1 + a.toNat / 5 % 3
def madeC (a : UInt8) : Nat := z4s a + 1
def tgtK (l : List UInt8) (n i : Nat) : Int := if i < l.length then ((l.getD i 0).toNat % n : Nat) else 0
def rowK (l : List UInt8) (n nc s j : Nat) : List Int := (List.range j).map fun i => tgtK l n (s * nc + i)
def rowsK (l : List UInt8) (n nc s : Nat) : List (List Int) := (List.range s).map fun i => rowK l n nc i nc
def zy7 (m : UInt8) (i : Nat) : Bool := decide (shr8 m i % 2 = 1)
def accK (m : UInt8) (s : Nat) : List Bool := (List.range s).map (zy7 m)
@[simp] theorem zb8 (l : List UInt8) (n nc s j : Nat) : (rowK l n nc s j).length = j := by simp [rowK]
@[simp] theorem z5m (l : List UInt8) (n nc s : Nat) : (rowsK l n nc s).length = s := by simp [rowsK]
@[simp] theorem z6p (m : UInt8) (s : Nat) : (accK m s).length = s := by simp [accK]
theorem zy8 (l : List UInt8) (n nc s j : Nat) {v : Int} (hv : v = tgtK l n (s * nc + j)) : rowK l n nc s j ++ ([] ++ [v]) = rowK l n nc s (j + 1) := by
  subst hv; rw [rowK, rowK, List.range_succ, List.map_append]; rfl
theorem ztf (l : List UInt8) (n nc s : Nat) : rowsC (rowsK l n nc s) ++ ([] ++ [.ds nc (.ints .i64 (rowK l n nc s nc))]) = rowsC (rowsK l n nc (s + 1)) := by
  rw [rowsK, rowsK, List.range_succ, List.map_append, List.nil_append, rowsC, rowsC, List.map_append]
  simp
theorem zy9 (m : UInt8) (s : Nat) {v : Bool} (hv : v = zy7 m s) : accK m s ++ ([] ++ [v]) = accK m (s + 1) := by
  subst hv; rw [accK, accK, List.range_succ, List.map_append]; rfl
def madeD (a : UInt8) (l : List UInt8) (m : UInt8) : Dfa := { cls := letK (z4s a) 256, nc := madeC a, next := rowsK l (madeN a) (madeC a) (madeN a), acc := accK m (madeN a) }
noncomputable def gm4 : Ctx := { P := Tryd.prog, ty := ty, glob := gl, fs := [(73, .data zrp)] }
theorem z3x : gm4.OK := ⟨tyOK, ⟨⟨z07 Tryd.func73 (by kernel_rfl) rfl, zte⟩, trivial⟩, mixed⟩
@[simp] theorem gm4_ty : gm4.ty = ty := rfl

def madeS : QSpec := fun vs K => ∃ a : UInt8, ∃ l : List UInt8, ∃ m : UInt8, vs = [shpV a l m] ∧ l.length ≤ 9223372036854775807 ∧ K (dfaV (madeD a l m))
set_option maxHeartbeats 1000000 in
set_option maxRecDepth 4000 in
theorem zya : z2p Tryd.prog gl 21 madeS := by
 refine z2e (Γ := gm4) (N := 73) Tryd.func21 rfl rfl fun vs K h => ?_; obtain ⟨a, l, m, rfl, hl, h⟩ := h; refine ⟨_, h, zd4 _, by simp, fun w I => ?_⟩; refine seq_k fun _ hK1 => ?_; refine z00 z3x fun _ hK2 => ?_
 iterate 2 refine z37 ?_
 refine s_nil ?_; apply hK2; apply hK1; refine seq_k fun _ hK3 => ?_
 have haM := a.toNat_lt
 have hC : madeC a = z4s a + 1 := rfl
 have hLt : z4s a ≤ 3 := by unfold z4s; omega
 have hN : 1 ≤ madeN a ∧ madeN a ≤ 5 := by unfold madeN; omega
 refine z00 z3x fun _ hK4 => ?_
 iterate 4 refine z37 ?_
 refine zdg ?_; refine exA (.c (.int .i64 (((madeN a : Nat) : Int)))) (as_eq (congrArg (fun v => SV.c (Cell.int IntKind.i64 v)) (by rw [madeN]; push_cast; rfl))) ?_; refine z37 ?_; refine s_nil ?_; apply hK4; apply hK3; refine seq_k fun _ hK5 => ?_; refine z00 z3x fun _ hK6 => ?_
 iterate 5 refine z37 ?_
 refine zdg ?_; refine exA (.c (.int .i64 (((z4s a : Nat) : Int)))) (as_eq (congrArg (fun v => SV.c (Cell.int IntKind.i64 v)) (by rw [z4s]; push_cast; rfl))) ?_; refine zdg ?_; refine ⟨z4s a, rfl, by omega, ?_⟩; refine DVf_0 ?_
 first | refine exI ?_ | (intro cap6 hcap6; refine exI ?_)
 iterate 2 refine z37 ?_
 refine zp2 ?_; refine s_nil ?_; apply hK6; apply hK5; refine seq_k fun _ hK7 => ?_; refine z00 z3x fun _ hK8 => ?_; refine z37 ?_; refine s_nil ?_; apply hK8; apply hK7; refine seq_k fun _ hK9 => ?_; refine seq_k fun _ hK10 => ?_; refine z00 z3x fun _ hK11 => ?_; refine z37 ?_; refine s_nil ?_; apply hK11; apply hK10; refine z09 ?_
 refine z4v 2 1 51 (.cells []) rfl rfl rfl (fun _ h => by cases h) ?_
 refine z4v 2 2 4 (.bools []) rfl rfl rfl trivial ?_; refine z0t (α := Nat × Nat × Nat) (fun s => [(1, .c (.dp (.cells [.u8 a, .ds l.length (.u8s l), .u8 m]) 0)), (2, .c (.ptr 0 0)), (3, .c (.int .i64 (madeN a : Nat))), (4, .c (.ptr 1 0)), (5, .c (.int .i64 (s.1 * madeC a : Nat))), (6, .c (.int .i64 (s.1 : Nat)))]) (fun s => [(0, .own 30 (.cells [.nils, .nils, .nils]) 3), (1, .own 30 (.cells [.ds (madeC a) (.u64s (letK (z4s a) 256)), .slice 2 0 s.1 s.2.1, .slice 3 0 s.1 s.2.2]) 3), (2, .own 51 (.cells (rowsC (rowsK l (madeN a) (madeC a) s.1))) s.2.1), (3, .own 4 (.bools (accK m s.1)) s.2.2)]) 4 (fun s => s.1 ≤ madeN a ∧ s.1 ≤ s.2.1 ∧ s.1 ≤ s.2.2) (fun s => madeN a - s.1) ?_ ?_
 ·refine dnS [0] (fun i => i + 1) (0, 0, 0) ⟨Nat.zero_le _, Nat.le_refl _, Nat.le_refl _⟩ [1, 2, 3, 4] uVf_0 uVf_0 uVf_0 uVf_0
 ·intro s hs
  have hs20 : s.1 * madeC a ≤ 5 * 4 := Nat.mul_le_mul (by omega) (by omega)
  refine seq_k fun _ hK12 => ?_; refine seq_k fun _ hK13 => ?_; refine z00 z3x fun _ hK14 => ?_
  iterate 3 refine z37 ?_
  refine s_nil ?_; apply hK14; apply hK13; refine z08 (b := _) rfl (fun h_t25 => ?_) (fun h_t25 => ?_)
  ·try simp only [dQ, if_true, if_false, reduceIte] at h_t25
   refine z0c ?_; apply hK12; refine seq_k fun _ hK15 => ?_; refine z09 ?_; refine seq_k fun _ hK16 => ?_; refine z00 z3x fun _ hK17 => ?_
   iterate 2 refine z37 ?_
   refine s_nil ?_; apply hK17; apply hK16; refine seq_k fun _ hK18 => ?_; refine seq_k fun _ hK19 => ?_; refine z00 z3x fun _ hK20 => ?_; refine z37 ?_; refine s_nil ?_; apply hK20; apply hK19; refine z09 ?_; refine z0t (α := Nat × Nat) (fun k => [(1, .c (.dp (.cells [.u8 a, .ds l.length (.u8s l), .u8 m]) 0)), (2, .c (.ptr 0 0)), (3, .c (.int .i64 (madeN a : Nat))), (4, .c (.ptr 1 0)), (5, .c (.int .i64 (s.1 * madeC a + k.1 : Nat))), (6, .c (.int .i64 (s.1 : Nat))), (7, .c (.slice 4 0 k.1 k.2)), (8, .c (.int .i64 (k.1 : Nat)))]) (fun k => [(0, .own 30 (.cells [.nils, .nils, .nils]) 3), (1, .own 30 (.cells [.ds (madeC a) (.u64s (letK (z4s a) 256)), .slice 2 0 s.1 s.2.1, .slice 3 0 s.1 s.2.2]) 3), (2, .own 51 (.cells (rowsC (rowsK l (madeN a) (madeC a) s.1))) s.2.1), (3, .own 4 (.bools (accK m s.1)) s.2.2), (4, .own 3 (.ints .i64 (rowK l (madeN a) (madeC a) s.1 k.1)) k.2)]) 5 (fun k => k.1 ≤ madeC a ∧ k.1 ≤ k.2) (fun k => madeC a - k.1) ?_ ?_
   ·refine dnS [] id (0, 0) ⟨Nat.zero_le _, Nat.le_refl _⟩ [0, 1, 2, 3, 4] uVf_0 uVf_0 uVf_0 uVf_0
   ·intro k hk
    refine seq_k fun _ hK21 => ?_; refine seq_k fun _ hK22 => ?_; refine z00 z3x fun _ hK23 => ?_
    iterate 5 refine z37 ?_
    refine s_nil ?_; apply hK23; apply hK22; refine z08 (b := _) rfl (fun h_t33 => ?_) (fun h_t33 => ?_)
    ·try simp only [dQ, if_true, if_false, reduceIte] at h_t33
     refine z0c ?_; apply hK21; refine seq_k fun _ hK24 => ?_; refine z09 ?_; refine seq_k fun _ hK25 => ?_; refine z00 z3x fun _ hK26 => ?_; refine z37 ?_; refine s_nil ?_; apply hK26; apply hK25; refine seq_k fun _ hK27 => ?_; refine seq_k fun _ hK28 => ?_; refine z00 z3x fun _ hK29 => ?_
     iterate 5 refine z37 ?_
     refine s_nil ?_; apply hK29; apply hK28; refine z08 (b := _) rfl (fun h_t40 => ?_) (fun h_t40 => ?_)
     ·try simp only [dQ, if_true, if_false, reduceIte] at h_t40
      have hix : s.1 * madeC a + k.1 < l.length := by omega
      refine z00 z3x fun _ hK30 => ?_
      iterate 9 refine z37 ?_
      refine s_nil ?_; apply hK30; apply hK27; refine seq_k fun _ hK31 => ?_; refine z00 z3x fun _ hK32 => ?_
      iterate 3 refine z37 ?_
      refine s_nil ?_; apply hK32; apply hK31; refine z00 z3x fun _ hK33 => ?_
      iterate 3 refine z37 ?_
      refine zdg ?_; intro cap3 hcap3; refine exI ?_; refine z37 ?_; refine s_nil ?_; apply hK33; refine z0b ?_; apply hK24; refine z00 z3x fun _ hK34 => ?_
      iterate 3 refine z37 ?_
      refine s_nil ?_; apply hK34; refine dnS [] (fun i => if i = 4 then 6 else i) (k.1 + 1, cap3) ⟨⟨by omega, by omega⟩, by omega⟩ [0, 1, 2, 3, 6] uVf_0 uVf_0 uVf_0 uVf_0
     ·try simp only [dQ, if_true, if_false, reduceIte] at h_t40
      refine z0c ?_; apply hK27; refine seq_k fun _ hK35 => ?_; refine z00 z3x fun _ hK36 => ?_
      iterate 3 refine z37 ?_
      refine s_nil ?_; apply hK36; apply hK35; refine z00 z3x fun _ hK37 => ?_
      iterate 3 refine z37 ?_
      refine zdg ?_; intro cap3 hcap3; refine exI ?_; refine z37 ?_; refine s_nil ?_; apply hK37; refine z0b ?_; apply hK24; refine z00 z3x fun _ hK38 => ?_
      iterate 3 refine z37 ?_
      refine s_nil ?_; apply hK38; refine dnS [] (fun i => if i = 4 then 6 else i) (k.1 + 1, cap3) ⟨⟨by omega, by omega⟩, by omega⟩ [0, 1, 2, 3, 6] uVf_0 uVf_0 uVf_0 uVf_0
    ·try simp only [dQ, if_true, if_false, reduceIte] at h_t33
     refine z0r ?_; refine z05 ?_; refine z05 ?_; refine z0m ?_; apply hK18; refine seq_k fun _ hK39 => ?_
     obtain hj : k.1 = madeC a := by omega
     refine leW [4] id [(1, .c (.dp (.cells [.u8 a, .ds l.length (.u8s l), .u8 m]) 0)), (2, .c (.ptr 0 0)), (3, .c (.int .i64 (madeN a : Nat))), (4, .c (.ptr 1 0)), (5, .c (.int .i64 ((s.1 + 1) * madeC a : Nat))), (6, .c (.int .i64 (s.1 : Nat))), (7, .c (.ds (madeC a) (.ints .i64 (rowK l (madeN a) (madeC a) s.1 (madeC a)))))] [(0, .own 30 (.cells [.nils, .nils, .nils]) 3), (1, .own 30 (.cells [.ds (madeC a) (.u64s (letK (z4s a) 256)), .slice 2 0 s.1 s.2.1, .slice 3 0 s.1 s.2.2]) 3), (2, .own 51 (.cells (rowsC (rowsK l (madeN a) (madeC a) s.1))) s.2.1), (3, .own 4 (.bools (accK m s.1)) s.2.2)] 4 [0, 1, 2, 3] uVf_0 uVf_0 uVf_0 uVf_0 ?_; refine z00 z3x fun _ hK40 => ?_
     iterate 4 refine z37 ?_
     refine zdg ?_; intro cap4 hcap4; refine exI ?_; refine z37 ?_; refine zp2 ?_; refine s_nil ?_; apply hK40; apply hK39; refine z3l z3x [(0, true), (1, true), (2, true), (3, true), (4, true), (5, true), (6, true), (7, true), (8, false), (9, false), (10, true), (11, false)] rfl (by kernel_rfl) (by kernel_rfl) fun _ hK41 => ?_
     iterate 8 refine dXVf_3 ?_
     refine gXVf_4 ?_; refine gXEVf_7 ?_; intro cap9 hcap9; refine exI ?_; refine dXVf_3 ?_; refine gX0Vf_5 ?_; refine d_nil ?_; apply hK41; refine z0b ?_; apply hK15; refine z00 z3x fun _ hK42 => ?_
     iterate 3 refine z37 ?_
     refine s_nil ?_; apply hK42; refine dnS [] (fun i => if i = 2 then 5 else if i = 3 then 7 else i) (s.1 + 1, cap4, cap9) ⟨⟨by omega, by omega, by omega⟩, by omega⟩ [0, 1, 5, 7] uVf_0 uVf_0 uVf_0 uVf_0
  ·try simp only [dQ, if_true, if_false, reduceIte] at h_t25
   refine z0r ?_; refine z05 ?_; refine z05 ?_; refine z0m ?_; apply hK9; refine seq_k fun _ hK43 => ?_; refine z00 z3x fun _ hK44 => ?_; refine z37 ?_; refine zp2 ?_; refine s_nil ?_; apply hK44; apply hK43
   obtain hsn : s.1 = madeN a := by omega
   rw [hsn]; refine z0f (z0n z3x (fun _ _ h => h) (zd4 _) [2, 3] [.cell 2 30] rfl ?_)
   all_goals exact uVf_0


end Go.Proofs.YtppmnaoollkboaaDoor

namespace Go.Proofs.YtppmnaoollkboaaDoor
set_option linter.all false
open Go.Ab Go.RowKit

theorem qVg0 {a : Prop} (h : a := by first | exact vcA | (simp <;> omega) | exact vcB) : a := h
theorem DVg_0 {a b : Prop} (kZ : b) (h : HidB b → a := by intro kZ; (repeat first | refine aI qVg0 ?_ | refine z06 qVg0 ?_ | refine z04 qVg0 ?_ | refine z0k qVg0 ?_ | refine z0a ?_); exact kZ.out) : a := h ⟨kZ⟩
theorem zij {a b : Prop} (kZ : b) (h : HidB b → a := by intro kZ; refine sX ?_; refine DVg_0 ?_; refine exI ?_; exact kZ.out) : a := h ⟨kZ⟩
open Go.Aut
attribute [local irreducible] z0q z1z zl z02 z18 putB
def plc (x n : Int) : Int := if x = 0 then n else if x = n then 0 else x
def goodK (f : Nat → Nat → Bool) : Nat → List Bool
  | 0 => [true]
  | k + 1 => goodK f k ++ [(List.range (k + 1)).any fun j => (goodK f k).getD j false && f j (k + 1)]
def gd (f : Nat → Nat → Bool) (k : Nat) : Bool := (goodK f k).getD k false
def anyK (f : Nat → Nat → Bool) (k j : Nat) : Bool := (List.range j).any fun i => gd f i && f i k
def rowG (f : Nat → Nat → Bool) (n k j : Nat) : List Bool := (List.range (n + 1)).map fun i => if i < k then gd f i else if i = k then anyK f k j else false
@[simp] theorem rowG_length (f : Nat → Nat → Bool) (n k j : Nat) : (rowG f n k j).length = n + 1 := by simp [rowG]
theorem rowG_get (f : Nat → Nat → Bool) {n k j i : Nat} (h : i ≤ n) : (rowG f n k j).getD i false = if i < k then gd f i else if i = k then anyK f k j else false := by
  rw [rowG, List.getD_eq_getElem?_getD, List.getElem?_map, List.getElem?_range (by omega)]; rfl
def partF (d : Dfa) (x : List UInt8) (i k : Nat) : Bool := z2o d ((x.drop i).take (k - i))
def placeS : QSpec := fun vs K => ∃ x n : Int, vs = [.c (.int .i64 x), .c (.int .i64 n)] ∧ K (.c (.int .i64 (plc x n)))
theorem place_ok : z16 Tryd.prog gl 90 placeS := by
 refine z1a (Γ := g0) (N := 12) Tryd.func90 rfl rfl fun vs K h => ?_; obtain ⟨x, n, rfl, h⟩ := h; refine ⟨_, h, rfl, by simp, fun w I => ?_⟩; refine seq_k fun _ hK1 => ?_; refine z00 g0_ok fun _ hK2 => ?_; refine zij ?_; refine s_nil ?_; apply hK2; apply hK1; refine seq_k fun _ hK3 => ?_; refine seq_k fun _ hK4 => ?_; refine z00 g0_ok fun _ hK5 => ?_
 iterate 2 refine zij ?_
 refine s_nil ?_; apply hK5; apply hK4; refine z08 (b := _) rfl (fun h_t6 => ?_) (fun h_t6 => ?_)
 ·try simp only [dQ, if_true, if_false, reduceIte] at h_t6
  refine seq_k fun _ hK6 => ?_; refine z00 g0_ok fun _ hK7 => ?_
  iterate 2 refine zij ?_
  refine s_nil ?_; apply hK7; apply hK6; refine z0f (z0d g0_ok (fun _ _ h => h) (by first | rfl | assumption) [.tmp 4] rfl ?_); refine rtD ?_
  show SV.c (.int _ _) = _
  rw [plc, if_pos h_t6]
 ·try simp only [dQ, if_true, if_false, reduceIte] at h_t6
  refine z0c ?_; apply hK3; refine seq_k fun _ hK8 => ?_; refine seq_k fun _ hK9 => ?_; refine z00 g0_ok fun _ hK10 => ?_
  iterate 3 refine zij ?_
  refine s_nil ?_; apply hK10; apply hK9; refine z08 (b := _) rfl (fun h_t10 => ?_) (fun h_t10 => ?_)
  ·try simp only [dQ, if_true, if_false, reduceIte] at h_t10
   refine seq_k fun _ hK11 => ?_; refine z00 g0_ok fun _ hK12 => ?_; refine zij ?_; refine s_nil ?_; apply hK12; apply hK11; refine z0f (z0d g0_ok (fun _ _ h => h) (by first | rfl | assumption) [.tmp 4] rfl ?_); refine rtD ?_
   show SV.c (.int .i64 0) = _
   rw [plc, if_neg h_t6, if_pos h_t10]
  ·try simp only [dQ, if_true, if_false, reduceIte] at h_t10
   refine z0c ?_; apply hK8; refine seq_k fun _ hK13 => ?_; refine z00 g0_ok fun _ hK14 => ?_
   iterate 2 refine zij ?_
   refine s_nil ?_; apply hK14; apply hK13; refine z0f (z0d g0_ok (fun _ _ h => h) (by first | rfl | assumption) [.tmp 4] rfl ?_); refine rtD ?_
   show SV.c (.int _ _) = _
   rw [plc, if_neg h_t6, if_neg h_t10]

noncomputable def gd4 : Ctx := { P := Tryd.prog, ty := ty, glob := gl, fs := [(25, .flat zjm)] }
@[simp] theorem gd4_ty : gd4.ty = ty := rfl

def dividesS : QSpec := fun vs K => ∃ d : Dfa, ∃ x : List UInt8, vs = [dfaV d, .c (.ds x.length (.u8s x))] ∧ (d.wf ∧ x.length ≤ 1048576) ∧ K (.c (.bool (gd (partF d x) x.length)))
end Go.Proofs.YtppmnaoollkboaaDoor
