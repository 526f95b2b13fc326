/- Part 12 of what the claims of this seat share: the walk's engine, the functions' contracts, plain mathematics (Vb, Vc, Va, Vg, Vn, Vp, Vv). -/
import Derived.Test.YtppmnaoollkboaaDoorQd
import Derived.Test.YtppmnaoollkboaaDoorQh
import Derived.Test.YtppmnaoollkboaaDoorQb
import Derived.Test.YtppmnaoollkboaaDoorQk
namespace Go.Proofs.YtppmnaoollkboaaDoor
set_option linter.all false
open Go.Ab Go.RowKit

theorem qVb0 {a : Prop} (h : a := by first | exact vcA | (simp <;> omega) | exact vcB) : a := h
theorem uVb_0 {a : Prop} (h : a := by
    repeat' (first | exact trivial | refine aI ?_ ?_ | exact cC0 | refine low_cons' ?_ ?_ | exact cC1 | fail)) : a := h
theorem DVb_0 {a b : Prop} (kZ : b) (h : HidB b → a := by intro kZ; (repeat first | refine aI qVb0 ?_ | refine z06 qVb0 ?_ | refine z04 qVb0 ?_ | refine z0k qVb0 ?_ | refine z0b ?_); exact kZ.out) : a := h ⟨kZ⟩
theorem zc9 {a b : Prop} (kZ : b) (h : HidB b → a := by intro kZ; refine sX ?_; refine DVb_0 ?_; refine exI ?_; exact kZ.out) : a := h ⟨kZ⟩
theorem qXVb_2 {a b : Prop} (kZ : b) (h : HidB b → a := by intro kZ; refine qX ?_; refine DVb_0 ?_; refine exI ?_; exact kZ.out) : a := h ⟨kZ⟩

open Go.Aut
attribute [local irreducible] z0l z26 zl z01 z16 putB
theorem z89 {α : Type} {a b : List α} {k : Nat} {d : α} (h : a.take k = b.take k) (h1 : k < a.length) (h2 : k < b.length) (e : a.getD k d = b.getD k d) : a.take (k + 1) = b.take (k + 1) := by
  rw [List.getD_eq_getElem?_getD, List.getD_eq_getElem?_getD, List.getElem?_eq_getElem h1, List.getElem?_eq_getElem h2, Option.getD_some, Option.getD_some] at e; rw [List.take_add_one, List.take_add_one, h, List.getElem?_eq_getElem h1, List.getElem?_eq_getElem h2, e]
theorem z9g {α : Type} {a b : List α} {k : Nat} (h : a.take k = b.take k) (h1 : a.length ≤ k) (h2 : b.length ≤ k) : a = b := by
  rwa [List.take_of_length_le h1, List.take_of_length_le h2] at h
def zka : QSpec := fun vs K => ∃ a b : List Int, vs = [.c (.ds a.length (.ints .i64 a)), .c (.ds b.length (.ints .i64 b))] ∧ (a.length ≤ 9223372036854775807 ∧ b.length ≤ 9223372036854775807) ∧ K (.c (.bool (decide (a = b))))
theorem zmi : z1e Tryd.prog gl 72 zka := by
 refine z23 (Γ := g0) (N := 26) Tryd.func72 rfl rfl fun vs K h => ?_; obtain ⟨a, b, rfl, ⟨hb1, hb2⟩, h⟩ := h; refine ⟨_, h, rfl, by simp, fun w I => ?_⟩; refine srR g0_ok fun _ hK2 => ?_; refine zc9 ?_; refine s_nil ?_; apply hK2; refine seq_k fun _ hK3 => ?_; refine srR g0_ok fun _ hK5 => ?_
 iterate 5 refine zc9 ?_
 refine s_nil ?_; apply hK5; refine z05 (b := _) rfl (fun h_t10 => ?_) (fun h_t10 => ?_)
 ·try simp only [dQ, if_true, if_false, reduceIte] at h_t10
  refine srR g0_ok fun _ hK7 => ?_; refine zc9 ?_; refine s_nil ?_; apply hK7; refine z0e (z0d g0_ok (fun _ _ h => h) (by first | rfl | assumption) [.tmp 4] rfl ?_); refine rtD ?_
  show SV.c (.bool false) = _
  rw [decide_eq_false (fun e => h_t10 (by rw [e]))]
 ·try simp only [dQ, if_true, if_false, reduceIte] at h_t10
  refine z0a ?_; apply hK3; refine seq_k fun _ hK8 => ?_; refine srR g0_ok fun _ hK10 => ?_; refine zc9 ?_; refine s_nil ?_; apply hK10; refine z07 ?_
  have hl : a.length = b.length := by omega
  refine z0p (α := Nat) (fun k => [(0, .c (.ds a.length (.ints .i64 a))), (1, .c (.ds b.length (.ints .i64 b))), (5, .c (.int .i64 k))]) (fun k => []) 0 (fun k => k ≤ a.length ∧ a.take k = b.take k) (fun k => a.length - k) ?_ ?_
  ·refine dnS [] id 0 ⟨Nat.zero_le _, rfl⟩ [] uVb_0 uVb_0 uVb_0 uVb_0
  ·intro k hk
   refine seq_k fun _ hK11 => ?_; refine srR g0_ok fun _ hK13 => ?_
   iterate 4 refine zc9 ?_
   refine s_nil ?_; apply hK13; refine z05 (b := _) rfl (fun h_t14 => ?_) (fun h_t14 => ?_)
   ·try simp only [dQ, if_true, if_false, reduceIte] at h_t14
    refine z0a ?_; apply hK11; refine seq_k fun _ hK14 => ?_; refine z07 ?_
    have hka : k < a.length := by omega
    have hkb : k < b.length := by omega
    refine srQ g0_ok (by kernel_rfl) fun _ hK16 => ?_
    iterate 9 refine qXVb_2 ?_
    refine q_nil ?_; apply hK16; refine z05 (b := _) rfl (fun h_t25 => ?_) (fun h_t25 => ?_)
    ·simp only [Int.toNat_natCast, Nat.mul_one, Bool.not_eq_true', decide_eq_false_iff_not] at h_t25
     refine srR g0_ok fun _ hK18 => ?_; refine zc9 ?_; refine s_nil ?_; apply hK18; refine z0e (z0d g0_ok (fun _ _ h => h) (by first | rfl | assumption) [.tmp 4] rfl ?_); refine rtD ?_
     show SV.c (.bool false) = _
     rw [decide_eq_false (fun e => h_t25 (by rw [e]))]
    ·simp only [Int.toNat_natCast, Nat.mul_one, Bool.not_eq_false', decide_eq_true_eq] at h_t25
     refine z0a ?_; refine z09 ?_; apply hK14; refine z03 g0_ok fun _ hK19 => ?_
     iterate 3 refine zc9 ?_
     refine s_nil ?_; apply hK19; refine dnS [] id (k + 1) ⟨⟨by omega, z89 (d := 0) hk.2 hka hkb h_t25⟩, by omega⟩ [] uVb_0 uVb_0 uVb_0 uVb_0
   ·try simp only [dQ, if_true, if_false, reduceIte] at h_t14
    refine z0m ?_; refine z02 ?_; refine z02 ?_; refine z0i ?_; apply hK8; refine srR g0_ok fun _ hK21 => ?_; refine zc9 ?_; refine s_nil ?_; apply hK21; refine z0e (z0d g0_ok (fun _ _ h => h) (by first | rfl | assumption) [.tmp 4] rfl ?_); refine rtD ?_
    obtain rfl : k = a.length := by omega
    show SV.c (.bool true) = _
    rw [decide_eq_true (z9g hk.2 (Nat.le_refl _) (by omega))]

end Go.Proofs.YtppmnaoollkboaaDoor

namespace Go.Proofs.YtppmnaoollkboaaDoor
set_option linter.all false
open Go.Ab Go.RowKit

theorem qVc0 {a : Prop} (h : a := by first | exact vcA | (simp <;> omega) | (simp only [z1m]; omega) | exact vcB) : a := h
theorem qVc1 {a : Prop} (h : a := by rintro ⟨g1, g2, g3, g4⟩; have g5 := congrArg List.length g3; have g6 := congrArg List.length g4; first | omega | (simp_all; done) | (simp at *; omega)) : a := h
theorem qVc2 {a : Prop} (h : a := by first | exact vcA | (simp [hcd, hce] <;> omega) | (show (clsAt _ k).length = 4; first | exact hcd | exact hce) | exact hcd | exact hce | exact vcB) : a := h
theorem uVc_0 {a : Prop} (h : a := by
    repeat' (first | exact pT  | exact trivial | refine aI ?_ ?_ | exact cC0 | refine low_cons' ?_ ?_ | exact cC1 | fail)
    all_goals first | omega | exact za5 _ | exact z35 _| (show (0 : Nat) < (z01 _ _ _ _).length; rw [z00 hcl]; decide) | (simp [-List.reduceReplicate]; done) | (simp [-List.reduceReplicate] <;> omega) | skip) : a := h
theorem DVc_0 {a b : Prop} (kZ : b) (h : HidB b → a := by intro kZ; (repeat first | refine aI qVc0 ?_ | refine z06 qVc0 ?_ | refine z04 qVc0 ?_ | refine z0k qVc0 ?_ | refine z0b ?_); exact kZ.out) : a := h ⟨kZ⟩
theorem z2z {a b : Prop} (kZ : b) (h : HidB b → a := by intro kZ; refine sX ?_; refine DVc_0 ?_; refine exI ?_; exact kZ.out) : a := h ⟨kZ⟩
theorem zux {a b : Prop} (kZ : b) (h : HidB b → a := by intro kZ; refine sXT ?_; refine DVc_0 ?_; refine exI ?_; exact kZ.out) : a := h ⟨kZ⟩
theorem DVc_3 {a b : Prop} (kZ : b) (h : HidB b → a := by intro kZ; (repeat first | refine aI qVc2 ?_ | refine z06 qVc2 ?_ | refine z04 qVc2 ?_ | refine z0k qVc2 ?_ | refine z0b ?_); exact kZ.out) : a := h ⟨kZ⟩
theorem zuy {a b : Prop} (kZ : b) (h : HidB b → a := by intro kZ; refine qX ?_; refine DVc_3 ?_; refine exI ?_; exact kZ.out) : a := h ⟨kZ⟩
theorem zol {a b : Prop} (kZ : b) (h : HidB b → a := by intro kZ; refine qX ?_; refine DVc_0 ?_; refine exI ?_; exact kZ.out) : a := h ⟨kZ⟩
theorem zmj {a b : Prop} (kZ : b) (h : HidB b → a := by intro kZ; refine sX ?_; refine DVc_0 ?_; exact kZ.out) : a := h ⟨kZ⟩
theorem zuz {a b : Prop} (kZ : b) (h : HidB b → a := by intro kZ; refine qX ?_; refine DVc_3 ?_; exact kZ.out) : a := h ⟨kZ⟩
theorem zmk {a b : Prop} (kZ : b) (h : HidB b → a := by intro kZ; refine qX ?_; refine DVc_0 ?_; exact kZ.out) : a := h ⟨kZ⟩

open Go.Aut
attribute [local irreducible] z0l z26 zl z01 z16 putB
def sameD (d e : Dfa) : Bool := decide (d.nc = e.nc ∧ d.cls = e.cls ∧ d.next = e.next ∧ d.acc = e.acc)
theorem zaf {d e : Dfa} : sameD d e = true ↔ d = e := by
  cases d; cases e
  simp only [sameD, decide_eq_true_iff, Dfa.mk.injEq]
  exact ⟨fun h => ⟨h.2.1, h.1, h.2.2⟩, fun h => ⟨h.2.1, h.1, h.2.2⟩⟩
theorem cls_at {a : List UInt64} (j : Nat) : (clsAt a (j / 4))[j % 4]? = a[j]? := by
  rw [clsAt, List.getElem?_take, if_pos (Nat.mod_lt _ (by decide)), List.getElem?_drop]
  congr 1; omega
theorem cls_ext {a b : List UInt64} {n : Nat} (ha : a.length = n * 4) (hb : b.length = n * 4) (h : ∀ i, i < n → clsAt a i = clsAt b i) : a = b := by
  refine List.ext_getElem? fun j => ?_
  by_cases hj : j < n * 4
  · rw [← cls_at (a := a) j, ← cls_at (a := b) j, h _ (by omega)]
  · rw [List.getElem?_eq_none (by omega), List.getElem?_eq_none (by omega)]
noncomputable def gv1 : Ctx := { P := Tryd.prog, ty := ty, glob := gl, fs := [(72, .flat zka)] }
theorem z2f : gv1.OK := ⟨tyOK, ⟨⟨z08 Tryd.func72 (by kernel_rfl) rfl, zmi⟩, trivial⟩, mixed⟩
@[simp] theorem gv1_ty : gv1.ty = ty := rfl

def sameS : QSpec := fun vs K => ∃ d e : Dfa, vs = [dfaV d, dfaV e] ∧ (d.wf ∧ e.wf) ∧ K (.c (.bool (sameD d e)))
set_option maxHeartbeats 1000000 in
theorem same_ok : z1e Tryd.prog gl 28 sameS := by
 refine z23 (Γ := gv1) (N := 88) Tryd.func28 rfl rfl fun vs K h => ?_; obtain ⟨d, e, rfl, ⟨hd, he⟩, h⟩ := h; refine ⟨_, h, rfl, by simp, fun w I => ?_⟩; refine srR z2f fun _ hK2 => ?_
 iterate 3 refine z2z ?_
 refine s_nil ?_; apply hK2; refine seq_k fun _ hK3 => ?_; refine srR z2f fun _ hK5 => ?_
 iterate 7 refine z2z ?_
 refine zmj ?_; refine exB (fun hb7 => ?_) (fun hb7 => ?_)
 ·try simp only [dQ, if_true, if_false, reduceIte] at hb7
  iterate 7 refine sN ?_
  refine z2z ?_; refine zmj ?_; refine exB (fun hb16 => ?_) (fun hb16 => ?_)
  rotate_left 1
  ·exfalso; simp at hb16
  iterate 7 refine sN ?_
  refine z2z ?_; refine s_nil ?_; apply hK5; refine z05 (b := _) rfl (fun _ => ?_) (fun h_t32 => ?_)
  rotate_left 1
  ·exfalso; simp at h_t32
  refine srR z2f fun _ hK7 => ?_; refine z2z ?_; refine s_nil ?_; apply hK7; refine z0e (z0d z2f (fun _ _ h => h) (by first | rfl | assumption) [.tmp 4] rfl ?_); refine rtD ?_
  show SV.c (.bool false) = _
  rw [sameD, decide_eq_false qVc1]
 ·try simp only [dQ, if_true, if_false, reduceIte] at hb7
  iterate 7 refine zux ?_
  refine z2z ?_; refine zmj ?_; refine exB (fun hb16 => ?_) (fun hb16 => ?_)
  ·try simp only [dQ, if_true, if_false, reduceIte] at hb16
   iterate 7 refine sN ?_
   refine z2z ?_; refine s_nil ?_; apply hK5; refine z05 (b := _) rfl (fun _ => ?_) (fun h_t32 => ?_)
   rotate_left 1
   ·exfalso; simp at h_t32
   refine srR z2f fun _ hK9 => ?_; refine z2z ?_; refine s_nil ?_; apply hK9; refine z0e (z0d z2f (fun _ _ h => h) (by first | rfl | assumption) [.tmp 4] rfl ?_); refine rtD ?_
   show SV.c (.bool false) = _
   rw [sameD, decide_eq_false qVc1]
  ·try simp only [dQ, if_true, if_false, reduceIte] at hb16
   iterate 7 refine zux ?_
   refine z2z ?_; refine s_nil ?_; apply hK5; refine z05 (b := _) rfl (fun h_t32 => ?_) (fun h_t32 => ?_)
   ·try simp only [dQ, if_true, if_false, reduceIte] at h_t32
    refine srR z2f fun _ hK11 => ?_; refine z2z ?_; refine s_nil ?_; apply hK11; refine z0e (z0d z2f (fun _ _ h => h) (by first | rfl | assumption) [.tmp 4] rfl ?_); refine rtD ?_
    show SV.c (.bool false) = _
    rw [sameD, decide_eq_false qVc1]
   ·try simp only [dQ, if_true, if_false, reduceIte] at h_t32
    refine z0a ?_; apply hK3; refine seq_k fun _ hK12 => ?_
    have hL : d.nc = e.nc ∧ d.next.length = e.next.length ∧ d.acc.length = e.acc.length := by first | omega | (simp at *; omega)
    have hd1 := hd.1
    have he1 := he.1
    have hM1 := hd.2.1
    have hM2 := hd.2.2.1
    have hM3 := hd.2.2.2.1
    refine srR z2f fun _ hK14 => ?_; refine z2z ?_; refine s_nil ?_; apply hK14; refine z07 ?_; refine z0p (α := Nat) (fun k => [(2, .c (.dp (dfaC d) 0)), (3, .c (.dp (dfaC e) 0)), (5, .c (.int .i64 k))]) (fun k => []) 0 (fun k => k ≤ d.nc ∧ ∀ i, i < k → clsAt d.cls i = clsAt e.cls i) (fun k => d.nc - k) ?_ ?_
    ·refine dnS [0, 1] id 0 ⟨Nat.zero_le _, fun i hi => absurd hi (Nat.not_lt_zero i)⟩ [] uVc_0 uVc_0 uVc_0 uVc_0
    ·intro k hk
     refine seq_k fun _ hK15 => ?_; refine srR z2f fun _ hK17 => ?_
     iterate 5 refine z2z ?_
     refine s_nil ?_; apply hK17; refine z05 (b := _) rfl (fun h_t37 => ?_) (fun h_t37 => ?_)
     ·try simp only [dQ, if_true, if_false, reduceIte] at h_t37
      refine z0a ?_; apply hK15; refine seq_k fun _ hK18 => ?_; refine z07 ?_
      have hkn : k < d.nc := by omega
      have hcd := z3s hd1 hkn
      have hce := z3s he1 (hL.1 ▸ hkn)
      refine srQ z2f (by kernel_rfl) fun _ hK20 => ?_
      iterate 4 refine zuy ?_
      refine zuz ?_; refine exA (.agg (.u64s (clsAt d.cls k))) (as_eq rfl) ?_
      iterate 4 refine zuy ?_
      refine zuz ?_; refine exA (.agg (.u64s (clsAt e.cls k))) (as_eq rfl) ?_; refine zuy ?_; refine q_nil ?_; apply hK20; refine z05 (b := _) rfl (fun h_t50 => ?_) (fun h_t50 => ?_)
      ·try simp only [dQ, if_true, if_false, reduceIte] at h_t50
       refine srR z2f fun _ hK22 => ?_; refine z2z ?_; refine s_nil ?_; apply hK22; refine z0e (z0d z2f (fun _ _ h => h) (by first | rfl | assumption) [.tmp 4] rfl ?_); refine rtD ?_
       show SV.c (.bool false) = _
       rw [sameD, decide_eq_false (fun g => h_t50 (by rw [g.2.1]))]
      ·try simp only [dQ, if_true, if_false, reduceIte] at h_t50
       refine z0a ?_; refine z09 ?_; apply hK18; refine z03 z2f fun _ hK23 => ?_
       iterate 3 refine z2z ?_
       refine s_nil ?_; apply hK23; refine dnS [] id (k + 1) ⟨⟨by omega, fun i hi => (Nat.lt_succ_iff_lt_or_eq.1 hi).elim (hk.2 i) (fun e => e ▸ h_t50)⟩, by omega⟩ [] uVc_0 uVc_0 uVc_0 uVc_0
     ·try simp only [dQ, if_true, if_false, reduceIte] at h_t37
      refine z0m ?_; refine z02 ?_; refine z02 ?_; refine z0i ?_; apply hK12; refine seq_k fun _ hK24 => ?_
      obtain rfl : k = d.nc := by omega
      have hcls : d.cls = e.cls := cls_ext hd1 (hL.1 ▸ he1) hk.2
      refine srR z2f fun _ hK26 => ?_; refine z2z ?_; refine s_nil ?_; apply hK26; refine z07 ?_; refine z0p (α := Nat) (fun k => [(2, .c (.dp (dfaC d) 0)), (3, .c (.dp (dfaC e) 0)), (6, .c (.int .i64 k))]) (fun k => []) 0 (fun k => k ≤ d.next.length ∧ d.next.take k = e.next.take k) (fun k => d.next.length - k) ?_ ?_
      ·refine dnS [] id 0 ⟨Nat.zero_le _, rfl⟩ [] uVc_0 uVc_0 uVc_0 uVc_0
      ·intro k hk
       refine seq_k fun _ hK27 => ?_; refine srR z2f fun _ hK29 => ?_
       iterate 5 refine z2z ?_
       refine s_nil ?_; apply hK29; refine z05 (b := _) rfl (fun h_t55 => ?_) (fun h_t55 => ?_)
       ·try simp only [dQ, if_true, if_false, reduceIte] at h_t55
        refine z0a ?_; apply hK27; refine seq_k fun _ hK30 => ?_; refine z07 ?_
        have hkn : k < d.next.length := by omega
        have hke : k < e.next.length := by omega
        have hr1 := hd.2.2.2.2 _ (z2q (d := []) hkn)
        have hr2 := he.2.2.2.2 _ (z2q (d := []) hke)
        refine srQ z2f (by kernel_rfl) fun _ hK32 => ?_
        iterate 4 refine zol ?_
        refine zmk ?_; rw [zco]
        rotate_left 1
        ·first | omega | (simp <;> omega)
        refine exI ?_
        iterate 4 refine zol ?_
        refine zmk ?_; rw [zco]
        rotate_left 1
        ·first | omega | (simp <;> omega)
        refine exI ?_; refine zmk ?_
        simp only [Int.toNat_natCast, Nat.mul_one]
        refine ⟨d.next.getD k [], e.next.getD k [], rfl, ⟨hr1, hr2⟩, ?_⟩; refine DVc_0 ?_
        first | refine exI ?_ | (intro cap10 hcap10; refine exI ?_)
        refine zol ?_; refine q_nil ?_; apply hK32; refine z05 (b := _) rfl (fun h_t69 => ?_) (fun h_t69 => ?_)
        ·simp only [Int.toNat_natCast, Nat.mul_one, Bool.not_eq_true', decide_eq_false_iff_not] at h_t69
         refine srR z2f fun _ hK34 => ?_; refine z2z ?_; refine s_nil ?_; apply hK34; refine z0e (z0d z2f (fun _ _ h => h) (by first | rfl | assumption) [.tmp 4] rfl ?_); refine rtD ?_
         show SV.c (.bool false) = _
         rw [sameD, decide_eq_false (fun g => h_t69 (by rw [g.2.2.1]))]
        ·simp only [Int.toNat_natCast, Nat.mul_one, Bool.not_eq_false', decide_eq_true_eq] at h_t69
         refine z0a ?_; refine z09 ?_; apply hK30; refine z03 z2f fun _ hK35 => ?_
         iterate 3 refine z2z ?_
         refine s_nil ?_; apply hK35; refine dnS [] id (k + 1) ⟨⟨by omega, z89 (d := []) hk.2 hkn hke h_t69⟩, by omega⟩ [] uVc_0 uVc_0 uVc_0 uVc_0
       ·try simp only [dQ, if_true, if_false, reduceIte] at h_t55
        refine z0m ?_; refine z02 ?_; refine z02 ?_; refine z0i ?_; apply hK24; refine seq_k fun _ hK36 => ?_
        obtain rfl : k = d.next.length := by omega
        have hnx : d.next = e.next := z9g hk.2 (Nat.le_refl _) (by omega)
        refine srR z2f fun _ hK38 => ?_; refine z2z ?_; refine s_nil ?_; apply hK38; refine z07 ?_; refine z0p (α := Nat) (fun k => [(2, .c (.dp (dfaC d) 0)), (3, .c (.dp (dfaC e) 0)), (7, .c (.int .i64 k))]) (fun k => []) 0 (fun k => k ≤ d.acc.length ∧ d.acc.take k = e.acc.take k) (fun k => d.acc.length - k) ?_ ?_
        ·refine dnS [] id 0 ⟨Nat.zero_le _, rfl⟩ [] uVc_0 uVc_0 uVc_0 uVc_0
        ·intro k hk
         refine seq_k fun _ hK39 => ?_; refine srR z2f fun _ hK41 => ?_
         iterate 5 refine z2z ?_
         refine s_nil ?_; apply hK41; refine z05 (b := _) rfl (fun h_t74 => ?_) (fun h_t74 => ?_)
         ·try simp only [dQ, if_true, if_false, reduceIte] at h_t74
          refine z0a ?_; apply hK39; refine seq_k fun _ hK42 => ?_; refine z07 ?_
          have hkn : k < d.acc.length := by omega
          have hke : k < e.acc.length := by omega
          refine srQ z2f (by kernel_rfl) fun _ hK44 => ?_
          iterate 11 refine zol ?_
          refine q_nil ?_; apply hK44; refine z05 (b := _) rfl (fun h_t87 => ?_) (fun h_t87 => ?_)
          ·simp only [Int.toNat_natCast, Nat.mul_one, Bool.not_eq_true', decide_eq_false_iff_not] at h_t87
           refine srR z2f fun _ hK46 => ?_; refine z2z ?_; refine s_nil ?_; apply hK46; refine z0e (z0d z2f (fun _ _ h => h) (by first | rfl | assumption) [.tmp 4] rfl ?_); refine rtD ?_
           show SV.c (.bool false) = _
           rw [sameD, decide_eq_false (fun g => h_t87 (by rw [g.2.2.2]))]
          ·simp only [Int.toNat_natCast, Nat.mul_one, Bool.not_eq_false', decide_eq_true_eq] at h_t87
           refine z0a ?_; refine z09 ?_; apply hK42; refine z03 z2f fun _ hK47 => ?_
           iterate 3 refine z2z ?_
           refine s_nil ?_; apply hK47; refine dnS [] id (k + 1) ⟨⟨by omega, z89 (d := false) hk.2 hkn hke h_t87⟩, by omega⟩ [] uVc_0 uVc_0 uVc_0 uVc_0
         ·try simp only [dQ, if_true, if_false, reduceIte] at h_t74
          refine z0m ?_; refine z02 ?_; refine z02 ?_; refine z0i ?_; apply hK36; refine srR z2f fun _ hK49 => ?_; refine z2z ?_; refine s_nil ?_; apply hK49; refine z0e (z0d z2f (fun _ _ h => h) (by first | rfl | assumption) [.tmp 4] rfl ?_); refine rtD ?_
          obtain rfl : k = d.acc.length := by omega
          show SV.c (.bool true) = _
          rw [sameD, decide_eq_true ⟨hL.1, hcls, hnx, z9g hk.2 (Nat.le_refl _) (by omega)⟩]


end Go.Proofs.YtppmnaoollkboaaDoor

namespace Go.Proofs.YtppmnaoollkboaaDoor
set_option linter.all false
open Go.Ab Go.RowKit

open Go.Aut
def hasBit (c : List UInt64) (b : Nat) : Bool := decide (shr64 (c.getD (b / 64) 0) (b % 64) % 2 = 1)
def hasRefS : QSpec := fun vs K => ∃ c : List UInt64, ∃ b : Nat, vs = [.agg (.u64s c), .c (.int .i64 b)] ∧ (c.length = 4 ∧ b < 256) ∧ K (.c (.bool (hasBit c b)))
def cntK (cls : List UInt64) (b : Nat) : Nat → Nat
  | 0 => 0
  | k + 1 => if hasBit (clsAt cls k) b then cntK cls b k + 1 else cntK cls b k
def nzB (cls : List UInt64) (k : Nat) : Bool := !decide (clsAt cls k = Z4)
def oneB (cls : List UInt64) (nc b : Nat) : Bool := decide (cntK cls b nc = 1)
def partR (cls : List UInt64) (nc : Nat) : Bool := decide (1 ≤ nc ∧ nc ≤ 256) && (List.range nc).all (nzB cls) && (List.range 256).all (oneB cls nc)
noncomputable def n1 : Ctx := { P := Tryd.prog, ty := ty, glob := gl, fs := [(34, .flat hasRefS)] }
@[simp] theorem n1_ty : n1.ty = ty := rfl

def partS : QSpec := fun vs K => ∃ cls : List UInt64, ∃ nc : Nat, vs = [.c (.ds nc (.u64s cls))] ∧ (cls.length = nc * 4 ∧ nc ≤ 9223372036854775807) ∧ K (.c (.bool (partR cls nc)))
def soundD (d : Dfa) : Bool := decide (1 ≤ d.next.length ∧ d.acc.length = d.next.length) && partR d.cls d.nc && d.next.all (rowOK d.nc d.next.length)
noncomputable def n2 : Ctx := { P := Tryd.prog, ty := ty, glob := gl, fs := [(144, .flat partS)] }
@[simp] theorem n2_ty : n2.ty = ty := rfl

def soundRS : QSpec := fun vs K => ∃ d : Dfa, vs = [dfaV d] ∧ d.wf ∧ K (.c (.bool (soundD d)))
noncomputable def n3 : Ctx := { P := Tryd.prog, ty := ty, glob := gl, fs := [(89, .flat soundRS)] }
@[simp] theorem n3_ty : n3.ty = ty := rfl

end Go.Proofs.YtppmnaoollkboaaDoor

namespace Go.Proofs.YtppmnaoollkboaaDoor
set_option linter.all false
open Go.Ab Go.RowKit

open Go.Aut
attribute [local irreducible] z0l z26 zl z01 z16 putB
def plc (x n : Int) : Int := if x = 0 then n else if x = n then 0 else x
def goodK (f : Nat → Nat → Bool) : Nat → List Bool
  | 0 => [true]
  | k + 1 => goodK f k ++ [(List.range (k + 1)).any fun j => (goodK f k).getD j false && f j (k + 1)]
def gd (f : Nat → Nat → Bool) (k : Nat) : Bool := (goodK f k).getD k false
def anyK (f : Nat → Nat → Bool) (k j : Nat) : Bool := (List.range j).any fun i => gd f i && f i k
def rowG (f : Nat → Nat → Bool) (n k j : Nat) : List Bool := (List.range (n + 1)).map fun i => if i < k then gd f i else if i = k then anyK f k j else false
@[simp] theorem rowG_length (f : Nat → Nat → Bool) (n k j : Nat) : (rowG f n k j).length = n + 1 := by simp [rowG]
theorem rowG_get (f : Nat → Nat → Bool) {n k j i : Nat} (h : i ≤ n) : (rowG f n k j).getD i false = if i < k then gd f i else if i = k then anyK f k j else false := by
  rw [rowG, List.getD_eq_getElem?_getD, List.getElem?_map, List.getElem?_range (by omega)]; rfl
end Go.Proofs.YtppmnaoollkboaaDoor

namespace Go.Proofs.YtppmnaoollkboaaDoor
set_option linter.all false
open Go.Ab Go.RowKit

open Go.Aut
end Go.Proofs.YtppmnaoollkboaaDoor

namespace Go.Proofs.YtppmnaoollkboaaDoor
set_option linter.all false
open Go.Ab Go.RowKit

open Go.Aut
end Go.Proofs.YtppmnaoollkboaaDoor

namespace Go.Proofs.YtppmnaoollkboaaDoor
set_option linter.all false
open Go.Ab Go.RowKit

open Go.Aut
def plN (t s : Nat) : Nat := if t = 0 then s else if t = s then 0 else t
def mvRow (r : List Int) (s k : Nat) : List Int := (r.take k).map fun x => plc x (s : Int)
def mvR (d : Dfa) (s t : Nat) : List (List Int) := (List.range t).map fun i => mvRow (d.next.getD (plN i s) []) s (d.next.getD (plN i s) []).length
def mvA (d : Dfa) (s t : Nat) : List Bool := (List.range t).map fun i => d.acc.getD (plN i s) false
@[simp] theorem mvR_length (d : Dfa) (s t : Nat) : (mvR d s t).length = t := by simp [mvR]
@[simp] theorem mvA_length (d : Dfa) (s t : Nat) : (mvA d s t).length = t := by simp [mvA]
theorem mvRow_length {r : List Int} {s k : Nat} (h : k ≤ r.length) : (mvRow r s k).length = k := by rw [mvRow, List.length_map, List.length_take, Nat.min_eq_left h]
end Go.Proofs.YtppmnaoollkboaaDoor
