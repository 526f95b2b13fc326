/- Part 12 of what the claims of this seat share: the walk's engine, the functions' contracts, plain mathematics (Vb, Vc, Va, Vg, Vn, Vp, Vv). -/
import Derived.Test.YtppmnaoollkboaaDoorPd
import Derived.Test.YtppmnaoollkboaaDoorPh
import Derived.Test.YtppmnaoollkboaaDoorPb
import Derived.Test.YtppmnaoollkboaaDoorPk
namespace Go.Proofs.YtppmnaoollkboaaDoor
set_option linter.all false
open Go.Ab Go.RowKit

theorem qVb0 {a : Prop} (h : a := by first | exact vcA | (simp <;> omega) | exact vcB) : a := h
theorem uVb_0 {a : Prop} (h : a := by
    repeat' (first | exact trivial | refine aI ?_ ?_ | exact cC0 | refine low_cons' ?_ ?_ | exact cC1 | fail)) : a := h
theorem DVb_0 {a b : Prop} (kZ : b) (h : HidB b → a := by intro kZ; (repeat first | refine aI qVb0 ?_ | refine z09 qVb0 ?_ | refine z04 qVb0 ?_ | refine z0h qVb0 ?_ | refine z0c ?_); exact kZ.out) : a := h ⟨kZ⟩
theorem zen {a b : Prop} (kZ : b) (h : HidB b → a := by intro kZ; refine sX ?_; refine DVb_0 ?_; refine exI ?_; exact kZ.out) : a := h ⟨kZ⟩
theorem qXVb_2 {a b : Prop} (kZ : b) (h : HidB b → a := by intro kZ; refine qX ?_; refine DVb_0 ?_; refine exI ?_; exact kZ.out) : a := h ⟨kZ⟩

open Go.Aut
attribute [local irreducible] z0j z1t zl z07 z0w putB
theorem zk4 {α : Type} {a b : List α} {k : Nat} {d : α} (h : a.take k = b.take k) (h1 : k < a.length) (h2 : k < b.length) (e : a.getD k d = b.getD k d) : a.take (k + 1) = b.take (k + 1) := by
  rw [List.getD_eq_getElem?_getD, List.getD_eq_getElem?_getD, List.getElem?_eq_getElem h1, List.getElem?_eq_getElem h2, Option.getD_some, Option.getD_some] at e; rw [List.take_add_one, List.take_add_one, h, List.getElem?_eq_getElem h1, List.getElem?_eq_getElem h2, e]
theorem zmg {α : Type} {a b : List α} {k : Nat} (h : a.take k = b.take k) (h1 : a.length ≤ k) (h2 : b.length ≤ k) : a = b := by
  rwa [List.take_of_length_le h1, List.take_of_length_le h2] at h
noncomputable def lessB (a b : List UInt8) : Bool := @decide (sl (wN a) (wN b)) (Classical.propDecidable _)
theorem za7 {a b : List UInt8} : lessB a b = true ↔ sl (wN a) (wN b) := by unfold lessB; exact @decide_eq_true_iff _ (Classical.propDecidable _)
theorem zua : ∀ (k : Nat) {a b : List UInt8}, a.take k = b.take k → k < a.length → k < b.length → a.getD k 0 ≠ b.getD k 0 → (lexL (wN a) (wN b) ↔ a.getD k 0 < b.getD k 0)
  | 0, x :: a, y :: b, _, _, _, hne => by
    show x.toNat < y.toNat ∨ x.toNat = y.toNat ∧ _ ↔ x.toNat < y.toNat
    refine ⟨fun h => h.elim id fun h => absurd (UInt8.toNat_inj.1 h.1) hne, .inl⟩
  | k + 1, x :: a, y :: b, h, h1, h2, hne => by
    rw [List.take_succ_cons, List.take_succ_cons] at h
    injection h with hx h
    subst hx
    show x.toNat < x.toNat ∨ x.toNat = x.toNat ∧ lexL (wN a) (wN b) ↔ _
    rw [List.getD_cons_succ, List.getD_cons_succ, ← zua k h (by simpa using h1) (by simpa using h2) hne]; exact ⟨fun h => h.elim (fun h => absurd h (Nat.lt_irrefl _)) And.right, fun h => .inr ⟨rfl, h⟩⟩
theorem za8 (a : List UInt8) : (wN a).length = a.length := by rw [wN, List.length_map]
theorem zub {a b : List UInt8} (h : a.length ≠ b.length) : lessB a b = decide (a.length < b.length) := by
  rw [Bool.eq_iff_iff, za7, decide_eq_true_iff, sl, za8, za8]; exact ⟨fun k => k.elim id fun k => absurd k.1 h, .inl⟩
theorem lessB_at {a b : List UInt8} {k : Nat} (hl : a.length = b.length) (h : a.take k = b.take k) (h1 : k < a.length) (hne : a.getD k 0 ≠ b.getD k 0) : lessB a b = decide (a.getD k 0 < b.getD k 0) := by
  rw [Bool.eq_iff_iff, za7, decide_eq_true_iff, sl, za8, za8, zua k h h1 (hl ▸ h1) hne]; exact ⟨fun h => h.elim (fun h => absurd hl (Nat.ne_of_lt h)) And.right, fun h => .inr ⟨hl, h⟩⟩
theorem zq8 (a : List UInt8) : lessB a a = false := by
  rw [← Bool.not_eq_true, za7]; exact zru _
def lessRS : QSpec := fun vs K => ∃ a b : List UInt8, vs = [.c (.ds a.length (.u8s a)), .c (.ds b.length (.u8s b))] ∧ (a.length ≤ 9223372036854775807 ∧ b.length ≤ 9223372036854775807) ∧ K (.c (.bool (lessB a b)))
theorem lessR_ok : z1k Tryd.prog gl 35 lessRS := by
 refine z1l (Γ := g0) (N := 40) Tryd.func35 rfl rfl fun vs K h => ?_; obtain ⟨a, b, rfl, ⟨hb1, hb2⟩, h⟩ := h; refine ⟨_, h, rfl, by simp, fun w I => ?_⟩; refine srR g0_ok fun _ hK2 => ?_; refine zen ?_; refine s_nil ?_; apply hK2; refine seq_k fun _ hK3 => ?_; refine srR g0_ok fun _ hK5 => ?_
 iterate 5 refine zen ?_
 refine s_nil ?_; apply hK5; refine z02 (b := _) rfl (fun h_t10 => ?_) (fun h_t10 => ?_)
 ·try simp only [dQ, if_true, if_false, reduceIte] at h_t10
  refine srR g0_ok fun _ hK7 => ?_
  iterate 6 refine zen ?_
  refine s_nil ?_; apply hK7; refine z0d (z08 g0_ok (fun _ _ h => h) (by first | rfl | assumption) [.tmp 4] rfl ?_); refine rtD ?_
  show SV.c (.bool _) = _
  rw [zub (fun e => h_t10 (by rw [e]))]
  congr 2
  exact decide_eq_decide.2 (by omega)
 ·try simp only [dQ, if_true, if_false, reduceIte] at h_t10
  refine z0a ?_; apply hK3; refine seq_k fun _ hK8 => ?_; refine srR g0_ok fun _ hK10 => ?_; refine zen ?_; refine s_nil ?_; apply hK10; refine z05 ?_
  have hl : a.length = b.length := by omega
  refine z0p (α := Nat) (fun k => [(0, .c (.ds a.length (.u8s a))), (1, .c (.ds b.length (.u8s b))), (5, .c (.int .i64 k))]) (fun k => []) 0 (fun k => k ≤ a.length ∧ a.take k = b.take k) (fun k => a.length - k) ?_ ?_
  ·refine dnS [] id 0 ⟨Nat.zero_le _, rfl⟩ [] uVb_0 uVb_0 uVb_0 uVb_0
  ·intro k hk
   refine seq_k fun _ hK11 => ?_; refine srR g0_ok fun _ hK13 => ?_
   iterate 4 refine zen ?_
   refine s_nil ?_; apply hK13; refine z02 (b := _) rfl (fun h_t19 => ?_) (fun h_t19 => ?_)
   ·try simp only [dQ, if_true, if_false, reduceIte] at h_t19
    refine z0a ?_; apply hK11; refine seq_k fun _ hK14 => ?_; refine z05 ?_
    have hka : k < a.length := by omega
    have hkb : k < b.length := by omega
    refine srQ g0_ok (by kernel_rfl) fun _ hK16 => ?_
    iterate 9 refine qXVb_2 ?_
    refine q_nil ?_; apply hK16; refine z02 (b := _) rfl (fun h_t30 => ?_) (fun h_t30 => ?_)
    ·simp only [Int.toNat_natCast, Nat.mul_one, Bool.not_eq_true', decide_eq_false_iff_not] at h_t30
     refine srQ g0_ok (by kernel_rfl) fun _ hK18 => ?_
     iterate 10 refine qXVb_2 ?_
     refine q_nil ?_; apply hK18; refine z0d (z08 g0_ok (fun _ _ h => h) (by first | rfl | assumption) [.tmp 4] rfl ?_); refine rtD ?_
     show SV.c (.bool _) = _
     rw [lessB_at hl hk.2 hka h_t30]
     simp only [Int.toNat_natCast, Nat.mul_one]
    ·simp only [Int.toNat_natCast, Nat.mul_one, Bool.not_eq_false', decide_eq_true_eq] at h_t30
     refine z0a ?_; refine z0b ?_; apply hK14; refine z01 g0_ok fun _ hK19 => ?_
     iterate 3 refine zen ?_
     refine s_nil ?_; apply hK19; refine dnS [] id (k + 1) ⟨⟨by omega, zk4 (d := 0) hk.2 hka hkb h_t30⟩, by omega⟩ [] uVb_0 uVb_0 uVb_0 uVb_0
   ·try simp only [dQ, if_true, if_false, reduceIte] at h_t19
    refine z0k ?_; refine z00 ?_; refine z00 ?_; refine z0f ?_; apply hK8; refine srR g0_ok fun _ hK21 => ?_; refine zen ?_; refine s_nil ?_; apply hK21; refine z0d (z08 g0_ok (fun _ _ h => h) (by first | rfl | assumption) [.tmp 4] rfl ?_); refine rtD ?_
    obtain rfl : k = a.length := by omega
    show SV.c (.bool false) = _
    obtain rfl := zmg hk.2 (Nat.le_refl _) (by omega); rw [zq8]


end Go.Proofs.YtppmnaoollkboaaDoor

namespace Go.Proofs.YtppmnaoollkboaaDoor
set_option linter.all false
open Go.Ab Go.RowKit

open Go.Aut
attribute [local irreducible] z0j z1t zl z07 z0w putB
end Go.Proofs.YtppmnaoollkboaaDoor

namespace Go.Proofs.YtppmnaoollkboaaDoor
set_option linter.all false
open Go.Ab Go.RowKit

theorem qVa0 {a : Prop} (h : a := by first | exact vcA | (simp [hc] <;> omega) | exact vcB) : a := h
theorem qVa1 {a : Prop} (h : a := by first | exact vcA | (simp [hc] <;> omega) | (refine ⟨by omega, by omega, ?_⟩; decide) | (simp [hc]; omega) | exact vcB) : a := h
theorem qVa2 {a : Prop} (h : a := by first | exact vcA | (simp [hw] <;> omega) | exact vcB) : a := h
theorem qVa3 {a : Prop} (h : a := by first | exact vcA | (simp [hw, hcl] <;> omega) | (show (clsAt cls k).length = 4; exact hcl) | exact hcl | exact vcB) : a := h
theorem qVa4 {a : Prop} (h : a := by first | exact vcA | (simp [hw, hcl] <;> omega) | exact vcB) : a := h
theorem qVa5 {a : Prop} (h : a := by first | exact vcA | (simp [hw1] <;> omega) | exact vcB) : a := h
theorem qVa6 {a : Prop} (h : a := by first | exact vcA | (simp <;> omega) | exact vcB) : a := h
theorem uVa_0 {a : Prop} (h : a := by
    repeat' (first | exact trivial | refine aI ?_ ?_ | exact cC0 | refine low_cons' ?_ ?_ | exact cC1 | fail)) : a := h
theorem uVa_1 {a : Prop} (h : a := by
    repeat' (first | exact trivial | refine aI ?_ ?_ | exact cC0 | refine low_cons' ?_ ?_ | exact cC1 | fail)
    all_goals first | omega | (rw [cntK, if_pos h_t42]; simp; done) | (rw [cntK, if_neg h_t42]) | skip) : a := h
theorem uVa_2 {a : Prop} (h : a := by
    repeat' (first | exact trivial | refine aI ?_ ?_ | exact cC0 | refine low_cons' ?_ ?_ | exact cC1 | fail)
    all_goals first | omega | exact z9y _ | exact low_cons' trivial (low_cons' trivial (low_cons' trivial low_nil')) | (simp; done) | (simp <;> omega) | skip) : a := h
theorem DVa_0 {a b : Prop} (kZ : b) (h : HidB b → a := by intro kZ; (repeat first | refine aI qVa0 ?_ | refine z09 qVa0 ?_ | refine z04 qVa0 ?_ | refine z0h qVa0 ?_ | refine z0c ?_); exact kZ.out) : a := h ⟨kZ⟩
theorem sXVa_1 {a b : Prop} (kZ : b) (h : HidB b → a := by intro kZ; refine sX ?_; refine DVa_0 ?_; refine exI ?_; exact kZ.out) : a := h ⟨kZ⟩
theorem DVa_2 {a b : Prop} (kZ : b) (h : HidB b → a := by intro kZ; (repeat first | refine aI qVa1 ?_ | refine z09 qVa1 ?_ | refine z04 qVa1 ?_ | refine z0h qVa1 ?_ | refine z0c ?_); exact kZ.out) : a := h ⟨kZ⟩
theorem sXVa_3 {a b : Prop} (kZ : b) (h : HidB b → a := by intro kZ; refine sX ?_; refine DVa_2 ?_; refine exI ?_; exact kZ.out) : a := h ⟨kZ⟩
theorem DVa_4 {a b : Prop} (kZ : b) (h : HidB b → a := by intro kZ; (repeat first | refine aI qVa2 ?_ | refine z09 qVa2 ?_ | refine z04 qVa2 ?_ | refine z0h qVa2 ?_ | refine z0c ?_); exact kZ.out) : a := h ⟨kZ⟩
theorem z2y {a b : Prop} (kZ : b) (h : HidB b → a := by intro kZ; refine sX ?_; refine DVa_4 ?_; refine exI ?_; exact kZ.out) : a := h ⟨kZ⟩
theorem sXTVa_6 {a b : Prop} (kZ : b) (h : HidB b → a := by intro kZ; refine sXT ?_; refine DVa_4 ?_; refine exI ?_; exact kZ.out) : a := h ⟨kZ⟩
theorem DVa_7 {a b : Prop} (kZ : b) (h : HidB b → a := by intro kZ; (repeat first | refine aI qVa3 ?_ | refine z09 qVa3 ?_ | refine z04 qVa3 ?_ | refine z0h qVa3 ?_ | refine z0c ?_); exact kZ.out) : a := h ⟨kZ⟩
theorem sXVa_8 {a b : Prop} (kZ : b) (h : HidB b → a := by intro kZ; refine sX ?_; refine DVa_7 ?_; refine exI ?_; exact kZ.out) : a := h ⟨kZ⟩
theorem DVa_9 {a b : Prop} (kZ : b) (h : HidB b → a := by intro kZ; (repeat first | refine aI qVa4 ?_ | refine z09 qVa4 ?_ | refine z04 qVa4 ?_ | refine z0h qVa4 ?_ | refine z0c ?_); exact kZ.out) : a := h ⟨kZ⟩
theorem zuc {a b : Prop} (kZ : b) (h : HidB b → a := by intro kZ; refine sX ?_; refine DVa_9 ?_; refine exI ?_; exact kZ.out) : a := h ⟨kZ⟩
theorem zeo {a b : Prop} (kZ : b) (h : HidB b → a := by intro kZ; (repeat first | refine aI qVa5 ?_ | refine z09 qVa5 ?_ | refine z04 qVa5 ?_ | refine z0h qVa5 ?_ | refine z0c ?_); exact kZ.out) : a := h ⟨kZ⟩
theorem z1q {a b : Prop} (kZ : b) (h : HidB b → a := by intro kZ; refine sX ?_; refine zeo ?_; refine exI ?_; exact kZ.out) : a := h ⟨kZ⟩
theorem za9 {a b : Prop} (kZ : b) (h : HidB b → a := by intro kZ; refine sXT ?_; refine zeo ?_; refine exI ?_; exact kZ.out) : a := h ⟨kZ⟩
theorem zud {a b : Prop} (kZ : b) (h : HidB b → a := by intro kZ; refine dX ?_; refine zeo ?_; refine exI ?_; exact kZ.out) : a := h ⟨kZ⟩
theorem zk5 {a b : Prop} (kZ : b) (h : HidB b → a := by intro kZ; (repeat first | refine aI qVa6 ?_ | refine z09 qVa6 ?_ | refine z04 qVa6 ?_ | refine z0h qVa6 ?_ | refine z0c ?_); exact kZ.out) : a := h ⟨kZ⟩
theorem zhp {a b : Prop} (kZ : b) (h : HidB b → a := by intro kZ; refine sX ?_; refine zk5 ?_; refine exI ?_; exact kZ.out) : a := h ⟨kZ⟩
theorem sXTVa_17 {a b : Prop} (kZ : b) (h : HidB b → a := by intro kZ; refine sXT ?_; refine zk5 ?_; refine exI ?_; exact kZ.out) : a := h ⟨kZ⟩
theorem sXEVa_18 {a b : Prop} (kZ : b) (h : HidB b → a := by intro kZ; refine sX ?_; refine DVa_4 ?_; exact kZ.out) : a := h ⟨kZ⟩
theorem sXEVa_19 {a b : Prop} (kZ : b) (h : HidB b → a := by intro kZ; refine sX ?_; refine DVa_9 ?_; exact kZ.out) : a := h ⟨kZ⟩
theorem z8f {a b : Prop} (kZ : b) (h : HidB b → a := by intro kZ; refine sX ?_; refine zeo ?_; exact kZ.out) : a := h ⟨kZ⟩
theorem zk6 {a b : Prop} (kZ : b) (h : HidB b → a := by intro kZ; refine sXT ?_; refine zeo ?_; exact kZ.out) : a := h ⟨kZ⟩
theorem dXEVa_22 {a b : Prop} (kZ : b) (h : HidB b → a := by intro kZ; refine dX ?_; refine zeo ?_; exact kZ.out) : a := h ⟨kZ⟩
theorem sXEVa_23 {a b : Prop} (kZ : b) (h : HidB b → a := by intro kZ; refine sX ?_; refine zk5 ?_; exact kZ.out) : a := h ⟨kZ⟩
theorem zue {a b : Prop} (kZ : b) (h : HidB b → a := by intro kZ; refine sXT ?_; refine zk5 ?_; exact kZ.out) : a := h ⟨kZ⟩

open Go.Aut
def zep (c : List UInt64) (b : Nat) : Bool := decide (shr64 (c.getD (b / 64) 0) (b % 64) % 2 = 1)
def zuf : QSpec := fun vs K => ∃ c : List UInt64, ∃ b : Nat, vs = [.agg (.u64s c), .c (.int .i64 b)] ∧ (c.length = 4 ∧ b < 256) ∧ K (.c (.bool (zep c b)))
theorem zug : z1k Tryd.prog gl 34 zuf := by
 refine z1l (Γ := g0) (N := 14) Tryd.func34 rfl rfl fun vs K h => ?_; obtain ⟨c, b, rfl, ⟨hc, hb⟩, h⟩ := h; refine ⟨_, h, rfl, by simp, fun w I => ?_⟩; refine srR g0_ok fun _ hK2 => ?_
 iterate 2 refine sXVa_1 ?_
 refine s_nil ?_; apply hK2; refine srR g0_ok fun _ hK4 => ?_
 iterate 10 refine sXVa_3 ?_
 refine s_nil ?_; apply hK4; refine z0d (z08 g0_ok (fun _ _ h => h) (by first | rfl | assumption) [.tmp 4] rfl ?_); refine rtD ?_
 show SV.c (.bool _) = _
 rw [zep, show 0 + ((b : Int) / 64).toNat * 1 = b / 64 by omega, show ((b : Int) % 64).toNat = b % 64 by omega]
 rfl

def cntK (cls : List UInt64) (b : Nat) : Nat → Nat
  | 0 => 0
  | k + 1 => if zep (clsAt cls k) b then cntK cls b k + 1 else cntK cls b k
theorem zuh (cls : List UInt64) (b : Nat) : ∀ k, cntK cls b k ≤ k
  | 0 => Nat.le_refl _
  | k + 1 => by
    have := zuh cls b k
    rw [cntK]; split <;> omega
def nzB (cls : List UInt64) (k : Nat) : Bool := !decide (clsAt cls k = Z4)
def oneB (cls : List UInt64) (nc b : Nat) : Bool := decide (cntK cls b nc = 1)
def partR (cls : List UInt64) (nc : Nat) : Bool := decide (1 ≤ nc ∧ nc ≤ 256) && (List.range nc).all (nzB cls) && (List.range 256).all (oneB cls nc)
noncomputable def n1 : Ctx := { P := Tryd.prog, ty := ty, glob := gl, fs := [(34, .flat zuf)] }
theorem n1_ok : n1.OK := ⟨tyOK, ⟨⟨z03 Tryd.func34 (by kernel_rfl) rfl, zug⟩, trivial⟩, mixed⟩
@[simp] theorem n1_ty : n1.ty = ty := rfl

def partS : QSpec := fun vs K => ∃ cls : List UInt64, ∃ nc : Nat, vs = [.c (.ds nc (.u64s cls))] ∧ (cls.length = nc * 4 ∧ nc ≤ 9223372036854775807) ∧ K (.c (.bool (partR cls nc)))
theorem part_ok : z1k Tryd.prog gl 144 partS := by
 refine z1l (Γ := n1) (N := 47) Tryd.func144 rfl rfl fun vs K h => ?_; obtain ⟨cls, nc, rfl, ⟨hw, hn⟩, h⟩ := h; refine ⟨_, h, rfl, by simp, fun w I => ?_⟩; refine srR n1_ok fun _ hK2 => ?_; refine z2y ?_; refine s_nil ?_; apply hK2; refine seq_k fun _ hK3 => ?_; refine srR n1_ok fun _ hK5 => ?_
 iterate 3 refine z2y ?_
 refine sXEVa_18 ?_; refine exB (fun hb3 => ?_) (fun hb3 => ?_)
 ·try simp only [dQ, if_true, if_false, reduceIte] at hb3
  iterate 3 refine sN ?_
  refine z2y ?_; refine s_nil ?_; apply hK5; refine z02 (b := _) rfl (fun _ => ?_) (fun h_t14 => ?_)
  rotate_left 1
  ·exfalso; simp at h_t14
  refine srR n1_ok fun _ hK7 => ?_; refine z2y ?_; refine s_nil ?_; apply hK7; refine z0d (z08 n1_ok (fun _ _ h => h) (by first | rfl | assumption) [.tmp 2] rfl ?_); refine rtD ?_
  show SV.c (.bool false) = _
  rw [partR, decide_eq_false (fun hh => by omega), Bool.false_and, Bool.false_and]
 ·try simp only [dQ, if_true, if_false, reduceIte] at hb3
  iterate 3 refine sXTVa_6 ?_
  refine z2y ?_; refine s_nil ?_; apply hK5; refine z02 (b := _) rfl (fun h_t14 => ?_) (fun h_t14 => ?_)
  ·try simp only [dQ, if_true, if_false, reduceIte] at h_t14
   refine srR n1_ok fun _ hK9 => ?_; refine z2y ?_; refine s_nil ?_; apply hK9; refine z0d (z08 n1_ok (fun _ _ h => h) (by first | rfl | assumption) [.tmp 2] rfl ?_); refine rtD ?_
   show SV.c (.bool false) = _
   rw [partR, decide_eq_false (fun hh => by omega), Bool.false_and, Bool.false_and]
  ·try simp only [dQ, if_true, if_false, reduceIte] at h_t14
   refine z0a ?_; apply hK3; refine seq_k fun _ hK10 => ?_
   have hbase : 1 ≤ nc ∧ nc ≤ 256 := by omega
   refine srR n1_ok fun _ hK12 => ?_; refine z2y ?_; refine s_nil ?_; apply hK12; refine z05 ?_; refine z0p (α := Nat) (fun k => [(0, .c (.ds nc (.u64s cls))), (3, .c (.int .i64 k))]) (fun k => []) 0 (fun k => k ≤ nc ∧ (List.range k).all (nzB cls) = true) (fun k => nc - k) ?_ ?_
   ·refine dnS [] id 0 ⟨Nat.zero_le _, rfl⟩ [] uVa_0 uVa_0 uVa_0 uVa_0
   ·intro k hk
    refine seq_k fun _ hK13 => ?_; refine srR n1_ok fun _ hK15 => ?_
    iterate 4 refine z2y ?_
    refine s_nil ?_; apply hK15; refine z02 (b := _) rfl (fun h_t18 => ?_) (fun h_t18 => ?_)
    ·try simp only [dQ, if_true, if_false, reduceIte] at h_t18
     refine z0a ?_; apply hK13; refine seq_k fun _ hK16 => ?_; refine z05 ?_
     have hkn : k < nc := by omega
     have hcl := z3o hw hkn
     have hsub : (Cont.u64s cls).sub ((k : Int).toNat * 4) (4 * 1) = .u64s (clsAt cls k) := rfl
     refine srR n1_ok fun _ hK18 => ?_
     iterate 3 refine sXVa_8 ?_
     refine sX ?_; refine aI (by decide) ?_; refine aI (by simp only [z5e]; omega) ?_; refine z0c ?_; rw [hsub]; refine exI ?_
     iterate 2 refine sXVa_8 ?_
     refine s_nil ?_; apply hK18; refine z02 (b := _) rfl (fun h_t26 => ?_) (fun h_t26 => ?_)
     ·try simp only [dQ, if_true, if_false, reduceIte] at h_t26
      refine srR n1_ok fun _ hK20 => ?_; refine z2y ?_; refine s_nil ?_; apply hK20; refine z0d (z08 n1_ok (fun _ _ h => h) (by first | rfl | assumption) [.tmp 2] rfl ?_); refine rtD ?_
      show SV.c (.bool false) = _
      rw [partR, z5m hkn (by rw [nzB, decide_eq_true (show clsAt cls k = Z4 from h_t26)]; rfl), Bool.and_false, Bool.false_and]
     ·try simp only [dQ, if_true, if_false, reduceIte] at h_t26
      refine z0a ?_; refine z0b ?_; apply hK16; refine z01 n1_ok fun _ hK21 => ?_
      iterate 3 refine z2y ?_
      refine s_nil ?_; apply hK21; refine dnS [] id (k + 1) ⟨⟨by omega, z5u hk.2 (by rw [nzB, decide_eq_false (show ¬ clsAt cls k = Z4 from h_t26)]; rfl)⟩, by omega⟩ [] ?_ ?_ ?_ ?_
      ·exact uVa_0
      ·exact uVa_0
      ·exact uVa_0
      ·exact uVa_0
    ·try simp only [dQ, if_true, if_false, reduceIte] at h_t18
     refine z0k ?_; refine z00 ?_; refine z00 ?_; refine z0f ?_; apply hK10; refine seq_k fun _ hK22 => ?_
     obtain rfl : k = nc := by omega
     have hnz := hk.2
     refine srR n1_ok fun _ hK24 => ?_; refine z2y ?_; refine s_nil ?_; apply hK24; refine z05 ?_; refine z0p (α := Nat) (fun b => [(0, .c (.ds k (.u64s cls))), (4, .c (.int .i64 b))]) (fun b => []) 0 (fun b => b ≤ 256 ∧ (List.range b).all (oneB cls k) = true) (fun b => 256 - b) ?_ ?_
     ·refine dnS [] id 0 ⟨Nat.zero_le _, rfl⟩ [] uVa_0 uVa_0 uVa_0 uVa_0
     ·intro b hb
      refine seq_k fun _ hK25 => ?_; refine srR n1_ok fun _ hK27 => ?_
      iterate 2 refine z2y ?_
      refine s_nil ?_; apply hK27; refine z02 (b := _) rfl (fun h_t28 => ?_) (fun h_t28 => ?_)
      ·try simp only [dQ, if_true, if_false, reduceIte] at h_t28
       refine z0a ?_; apply hK25; refine seq_k fun _ hK28 => ?_; refine z05 ?_
       have hb256 : b < 256 := by omega
       refine srR n1_ok fun _ hK30 => ?_; refine z2y ?_; refine s_nil ?_; apply hK30; refine seq_k fun _ hK31 => ?_; refine srR n1_ok fun _ hK33 => ?_; refine z2y ?_; refine s_nil ?_; apply hK33; refine z05 ?_; refine z0p (α := Nat) (fun j => [(0, .c (.ds k (.u64s cls))), (4, .c (.int .i64 b)), (5, .c (.int .i64 (cntK cls b j))), (6, .c (.int .i64 j))]) (fun j => []) 0 (fun j => j ≤ k) (fun j => k - j) ?_ ?_
       ·refine dnS [] id 0 (Nat.zero_le _) [] uVa_0 uVa_0 uVa_0 uVa_0
       ·intro j hj
        refine seq_k fun _ hK34 => ?_; refine srR n1_ok fun _ hK36 => ?_
        iterate 4 refine z2y ?_
        refine s_nil ?_; apply hK36; refine z02 (b := _) rfl (fun h_t34 => ?_) (fun h_t34 => ?_)
        ·try simp only [dQ, if_true, if_false, reduceIte] at h_t34
         refine z0a ?_; apply hK34; refine seq_k fun _ hK37 => ?_; refine z05 ?_
         have hjn : j < k := by omega
         have hcl := z3o hw hjn
         have hsub : (Cont.u64s cls).sub ((j : Int).toNat * 4) (4 * 1) = .u64s (clsAt cls j) := rfl
         refine srR n1_ok fun _ hK39 => ?_
         iterate 3 refine zuc ?_
         refine sX ?_; refine aI (by decide) ?_; refine aI (by simp only [z5e]; omega) ?_; refine z0c ?_; rw [hsub]; refine exI ?_; refine zuc ?_; refine sXEVa_19 ?_; refine ⟨clsAt cls j, b, rfl, ⟨hcl, hb256⟩, ?_⟩; refine DVa_9 ?_
         first | refine exI ?_ | (intro cap5 hcap5; refine exI ?_)
         refine s_nil ?_; apply hK39; refine z02 (b := _) rfl (fun h_t42 => ?_) (fun h_t42 => ?_)
         ·have hcle := zuh cls b j
          refine z01 n1_ok fun _ hK40 => ?_
          iterate 3 refine z2y ?_
          refine s_nil ?_; apply hK40; refine z0b ?_; apply hK37; refine z01 n1_ok fun _ hK41 => ?_
          iterate 3 refine z2y ?_
          refine s_nil ?_; apply hK41; refine dnS [] id (j + 1) ⟨by omega, by omega⟩ [] uVa_1 uVa_0 uVa_0 uVa_0
         ·replace h_t42 : ¬ zep (clsAt cls j) b = true := by rw [h_t42]; decide
          refine z0a ?_; refine z0b ?_; apply hK37; refine z01 n1_ok fun _ hK42 => ?_
          iterate 3 refine z2y ?_
          refine s_nil ?_; apply hK42; refine dnS [] id (j + 1) ⟨by omega, by omega⟩ [] uVa_1 uVa_0 uVa_0 uVa_0
        ·try simp only [dQ, if_true, if_false, reduceIte] at h_t34
         refine z0k ?_; refine z00 ?_; refine z00 ?_; refine z0f ?_; apply hK31
         obtain rfl : j = k := by omega
         refine srR n1_ok fun _ hK44 => ?_
         iterate 2 refine z2y ?_
         refine s_nil ?_; apply hK44; refine z02 (b := _) rfl (fun h_t46 => ?_) (fun h_t46 => ?_)
         ·try simp only [dQ, if_true, if_false, reduceIte] at h_t46
          refine srR n1_ok fun _ hK46 => ?_; refine z2y ?_; refine s_nil ?_; apply hK46; refine z0d (z08 n1_ok (fun _ _ h => h) (by first | rfl | assumption) [.tmp 2] rfl ?_); refine rtD ?_
          show SV.c (.bool false) = _
          rw [partR, z5m hb256 (by rw [oneB, decide_eq_false (by omega)]), Bool.and_false]
         ·try simp only [dQ, if_true, if_false, reduceIte] at h_t46
          refine z0a ?_; refine z0b ?_; apply hK28; refine z01 n1_ok fun _ hK47 => ?_
          iterate 3 refine z2y ?_
          refine s_nil ?_; apply hK47; refine dnS [] id (b + 1) ⟨⟨by omega, z5u hb.2 (by rw [oneB, decide_eq_true (by omega)])⟩, by omega⟩ [] uVa_0 uVa_0 uVa_0 uVa_0
      ·try simp only [dQ, if_true, if_false, reduceIte] at h_t28
       refine z0k ?_; refine z00 ?_; refine z00 ?_; refine z0f ?_; apply hK22; refine srR n1_ok fun _ hK49 => ?_; refine z2y ?_; refine s_nil ?_; apply hK49; refine z0d (z08 n1_ok (fun _ _ h => h) (by first | rfl | assumption) [.tmp 2] rfl ?_); refine rtD ?_
       show SV.c (.bool true) = _
       obtain rfl : b = 256 := by omega
       rw [partR, decide_eq_true hbase, hnz, hb.2]
       rfl

def z8p (d : Dfa) : Bool := decide (1 ≤ d.next.length ∧ d.acc.length = d.next.length) && partR d.cls d.nc && d.next.all (rowOK d.nc d.next.length)
def zeq (d : Dfa) : Bool := decide (d.next.length ≤ 64) && z8p d
noncomputable def n2 : Ctx := { P := Tryd.prog, ty := ty, glob := gl, fs := [(144, .flat partS)] }
theorem n2_ok : n2.OK := ⟨tyOK, ⟨⟨z03 Tryd.func144 (by kernel_rfl) rfl, part_ok⟩, trivial⟩, mixed⟩
@[simp] theorem n2_ty : n2.ty = ty := rfl

def zui : QSpec := fun vs K => ∃ d : Dfa, vs = [dfaV d] ∧ d.wf ∧ K (.c (.bool (z8p d)))
set_option maxHeartbeats 1000000 in
theorem zuj : z1k Tryd.prog gl 89 zui := by
 refine z1l (Γ := n2) (N := 70) Tryd.func89 rfl rfl fun vs K h => ?_; obtain ⟨d, rfl, ⟨hw1, hw2, hw3, hw4, hw5⟩, h⟩ := h; refine ⟨_, h, rfl, by simp, fun w I => ?_⟩; refine srR n2_ok fun _ hK2 => ?_
 iterate 2 refine z1q ?_
 refine s_nil ?_; apply hK2; refine srR n2_ok fun _ hK4 => ?_
 iterate 4 refine z1q ?_
 refine s_nil ?_; apply hK4; refine seq_k fun _ hK5 => ?_; refine srR n2_ok fun _ hK7 => ?_
 iterate 2 refine z1q ?_
 refine z8f ?_; refine exB (fun hb2 => ?_) (fun hb2 => ?_)
 ·try simp only [dQ, if_true, if_false, reduceIte] at hb2
  iterate 5 refine sN ?_
  refine z1q ?_; refine z8f ?_; refine exB (fun hb9 => ?_) (fun hb9 => ?_)
  rotate_left 1
  ·exfalso; simp at hb9
  iterate 4 refine sN ?_
  refine z1q ?_; refine s_nil ?_; apply hK7; refine z02 (b := _) rfl (fun _ => ?_) (fun h_t23 => ?_)
  rotate_left 1
  ·exfalso; simp at h_t23
  refine srR n2_ok fun _ hK9 => ?_; refine z1q ?_; refine s_nil ?_; apply hK9; refine z0d (z08 n2_ok (fun _ _ h => h) (by first | rfl | assumption) [.tmp 2] rfl ?_); refine rtD ?_
  show SV.c (.bool false) = _
  rw [z8p, decide_eq_false (fun hh => by omega), Bool.false_and, Bool.false_and]
 ·try simp only [dQ, if_true, if_false, reduceIte] at hb2
  iterate 5 refine za9 ?_
  refine z1q ?_; refine z8f ?_; refine exB (fun hb9 => ?_) (fun hb9 => ?_)
  ·try simp only [dQ, if_true, if_false, reduceIte] at hb9
   iterate 4 refine sN ?_
   refine z1q ?_; refine s_nil ?_; apply hK7; refine z02 (b := _) rfl (fun _ => ?_) (fun h_t23 => ?_)
   rotate_left 1
   ·exfalso; simp at h_t23
   refine srR n2_ok fun _ hK11 => ?_; refine z1q ?_; refine s_nil ?_; apply hK11; refine z0d (z08 n2_ok (fun _ _ h => h) (by first | rfl | assumption) [.tmp 2] rfl ?_); refine rtD ?_
   show SV.c (.bool false) = _
   rw [z8p, decide_eq_false (fun hh => by omega), Bool.false_and, Bool.false_and]
  ·try simp only [dQ, if_true, if_false, reduceIte] at hb9
   iterate 2 refine za9 ?_
   refine zk6 ?_; refine ⟨d.cls, d.nc, rfl, ⟨hw1, hw2⟩, ?_⟩; refine zeo ?_
   first | refine exI ?_ | (intro cap12 hcap12; refine exI ?_)
   refine za9 ?_; refine z1q ?_; refine s_nil ?_; apply hK7; refine z02 (b := _) rfl (fun h_t23 => ?_) (fun h_t23 => ?_)
   ·try simp only [dQ, if_true, if_false, reduceIte] at h_t23
    refine srR n2_ok fun _ hK13 => ?_; refine z1q ?_; refine s_nil ?_; apply hK13; refine z0d (z08 n2_ok (fun _ _ h => h) (by first | rfl | assumption) [.tmp 2] rfl ?_); refine rtD ?_
    show SV.c (.bool false) = _
    rw [z8p, show partR d.cls d.nc = false by simpa using h_t23, Bool.and_false, Bool.false_and]
   ·try simp only [dQ, if_true, if_false, reduceIte] at h_t23
    refine z0a ?_; apply hK5; refine seq_k fun _ hK14 => ?_
    have hbase : 1 ≤ d.next.length ∧ d.acc.length = d.next.length := by omega
    have hpart : partR d.cls d.nc = true := by simpa using h_t23
    refine srR n2_ok fun _ hK16 => ?_; refine z1q ?_; refine s_nil ?_; apply hK16; refine z05 ?_; refine z0p (α := Nat) (fun k => [(1, .c (.ptr 0 0)), (3, .c (.int .i64 d.next.length)), (4, .c (.int .i64 k))]) (fun k => [(0, .own 30 (dfaC d) 3)]) 1 (fun k => k ≤ d.next.length ∧ (d.next.take k).all (rowOK d.nc d.next.length) = true) (fun k => d.next.length - k) ?_ ?_
    ·refine dnS [] id 0 ⟨Nat.zero_le _, rfl⟩ [0] uVa_2 uVa_2 uVa_2 uVa_2
    ·intro k hk
     refine seq_k fun _ hK17 => ?_; refine srR n2_ok fun _ hK19 => ?_
     iterate 3 refine z1q ?_
     refine s_nil ?_; apply hK19; refine z02 (b := _) rfl (fun h_t26 => ?_) (fun h_t26 => ?_)
     ·try simp only [dQ, if_true, if_false, reduceIte] at h_t26
      refine z0a ?_; apply hK17; refine seq_k fun _ hK20 => ?_; refine z05 ?_; refine seq_k fun _ hK21 => ?_
      have hkn : k < d.next.length := by omega
      have hrl := hw5 _ (z2s (d := []) hkn)
      refine srD n2_ok [(0, true), (1, true), (2, true), (3, true), (4, true), (5, true), (6, true), (7, true), (8, true), (9, true)] rfl (by kernel_rfl) (by kernel_rfl) fun _ hK23 => ?_
      iterate 4 refine zud ?_
      refine dXEVa_22 ?_; rw [show (k : Int).toNat * 1 = k by omega, z8b hkn]; refine exI ?_
      iterate 5 refine zud ?_
      refine d_nil ?_; apply hK23; refine z02 (b := _) rfl (fun h_t38 => ?_) (fun h_t38 => ?_)
      ·try simp only [dQ, if_true, if_false, reduceIte] at h_t38
       try simp only [Int.toNat_natCast, Nat.mul_one] at h_t38
       refine srR n2_ok fun _ hK25 => ?_; refine z1q ?_; refine s_nil ?_; apply hK25; refine z0d (z08 n2_ok (fun _ _ h => h) (by first | rfl | assumption) [.tmp 2] rfl ?_); refine rtD ?_
       show SV.c (.bool false) = _
       rw [z8p, z8m (d := []) hkn (by rw [rowOK, decide_eq_false (by omega), Bool.false_and]), Bool.and_false]
      ·try simp only [dQ, if_true, if_false, reduceIte] at h_t38
       try simp only [Int.toNat_natCast, Nat.mul_one] at h_t38
       refine z0a ?_; apply hK21; refine srR n2_ok fun _ hK27 => ?_; refine z1q ?_; refine s_nil ?_; apply hK27; refine z05 ?_; refine z0p (α := Nat) (fun j => [(1, .c (.ptr 0 0)), (3, .c (.int .i64 d.next.length)), (4, .c (.int .i64 k)), (5, .c (.int .i64 j))]) (fun j => [(0, .own 30 (dfaC d) 3)]) 1 (fun j => j ≤ (d.next.getD k []).length ∧ ((d.next.getD k []).take j).all (tgtOK d.next.length) = true) (fun j => (d.next.getD k []).length - j) ?_ ?_
       ·refine dnS [] id 0 ⟨Nat.zero_le _, rfl⟩ [0] uVa_2 uVa_2 uVa_2 uVa_2
       ·intro j hj
        refine seq_k fun _ hK28 => ?_; refine srR n2_ok fun _ hK30 => ?_
        iterate 5 refine z1q ?_
        refine z8f ?_; rw [show (k : Int).toNat * 1 = k by omega, z8b hkn]; refine exI ?_
        iterate 2 refine z1q ?_
        refine s_nil ?_; apply hK30; refine z02 (b := _) rfl (fun h_t46 => ?_) (fun h_t46 => ?_)
        ·try simp only [dQ, if_true, if_false, reduceIte] at h_t46
         try simp only [Int.toNat_natCast, Nat.mul_one] at h_t46
         refine z0a ?_; apply hK28; refine seq_k fun _ hK31 => ?_; refine z05 ?_
         have hjn : j < (d.next.getD k []).length := by omega
         refine srR n2_ok fun _ hK33 => ?_
         iterate 4 refine z1q ?_
         refine z8f ?_; rw [show (k : Int).toNat * 1 = k by omega, z8b hkn]; refine exI ?_
         iterate 4 refine z1q ?_
         refine z8f ?_; refine exB (fun hb9 => ?_) (fun hb9 => ?_)
         ·try simp only [dQ, if_true, if_false, reduceIte] at hb9
          iterate 10 refine sN ?_
          refine z1q ?_; refine s_nil ?_; apply hK33; refine z02 (b := _) rfl (fun _ => ?_) (fun h_t69 => ?_)
          rotate_left 1
          ·exfalso; simp at h_t69
          have htb : tgtOK d.next.length ((d.next.getD k []).getD j 0) = false := by
           simp only [tgtOK, Bool.and_eq_false_iff, decide_eq_false_iff_not]
           first | (simp only [Int.toNat_natCast, Nat.mul_one] at hb9 h_t69; omega) | (simp only [Int.toNat_natCast, Nat.mul_one] at hb9; omega)
          refine srR n2_ok fun _ hK35 => ?_; refine z1q ?_; refine s_nil ?_; apply hK35; refine z0d (z08 n2_ok (fun _ _ h => h) (by first | rfl | assumption) [.tmp 2] rfl ?_); refine rtD ?_
          show SV.c (.bool false) = _
          rw [z8p, z8m (d := []) hkn (by rw [rowOK, z8m (d := 0) hjn htb, Bool.and_false]), Bool.and_false]
         ·try simp only [dQ, if_true, if_false, reduceIte] at hb9
          iterate 4 refine za9 ?_
          refine zk6 ?_; rw [show (k : Int).toNat * 1 = k by omega, z8b hkn]; refine exI ?_
          iterate 5 refine za9 ?_
          refine z1q ?_; refine s_nil ?_; apply hK33; refine z02 (b := _) rfl (fun h_t69 => ?_) (fun h_t69 => ?_)
          ·try simp only [dQ, if_true, if_false, reduceIte] at h_t69
           have htb : tgtOK d.next.length ((d.next.getD k []).getD j 0) = false := by
            simp only [tgtOK, Bool.and_eq_false_iff, decide_eq_false_iff_not]
            first | (simp only [Int.toNat_natCast, Nat.mul_one] at hb9 h_t69; omega) | (simp only [Int.toNat_natCast, Nat.mul_one] at hb9; omega)
           refine srR n2_ok fun _ hK37 => ?_; refine z1q ?_; refine s_nil ?_; apply hK37; refine z0d (z08 n2_ok (fun _ _ h => h) (by first | rfl | assumption) [.tmp 2] rfl ?_); refine rtD ?_
           show SV.c (.bool false) = _
           rw [z8p, z8m (d := []) hkn (by rw [rowOK, z8m (d := 0) hjn htb, Bool.and_false]), Bool.and_false]
          ·try simp only [dQ, if_true, if_false, reduceIte] at h_t69
           refine z0a ?_; refine z0b ?_; apply hK31
           have htg : tgtOK d.next.length ((d.next.getD k []).getD j 0) = true := by simp only [tgtOK, Bool.and_eq_true, decide_eq_true_eq]; simp only [Int.toNat_natCast, Nat.mul_one] at hb9 h_t69; exact ⟨by omega, by omega⟩
           refine z01 n2_ok fun _ hK38 => ?_
           iterate 3 refine z1q ?_
           refine s_nil ?_; apply hK38; refine dnS [] id (j + 1) ⟨⟨by omega, z4u (d := 0) hjn hj.2 htg⟩, by omega⟩ [0] uVa_2 uVa_2 uVa_2 uVa_2
        ·try simp only [dQ, if_true, if_false, reduceIte] at h_t46
         try simp only [Int.toNat_natCast, Nat.mul_one] at h_t46
         refine z0k ?_; refine z00 ?_; refine z00 ?_; refine z0f ?_; refine z0b ?_; apply hK20
         have hrow : rowOK d.nc d.next.length (d.next.getD k []) = true := by
          have h1 := hj.2
          rw [List.take_of_length_le (by omega)] at h1; rw [rowOK, h1, decide_eq_true (by omega)]; rfl
         refine z01 n2_ok fun _ hK39 => ?_
         iterate 3 refine z1q ?_
         refine s_nil ?_; apply hK39; refine dnS [] id (k + 1) ⟨⟨by omega, z4u (d := []) hkn hk.2 hrow⟩, by omega⟩ [0] uVa_2 uVa_2 uVa_2 uVa_2
     ·try simp only [dQ, if_true, if_false, reduceIte] at h_t26
      refine z0k ?_; refine z00 ?_; refine z00 ?_; refine z0f ?_; apply hK14; refine srR n2_ok fun _ hK41 => ?_; refine z1q ?_; refine s_nil ?_; apply hK41; refine z0d (z08 n2_ok (fun _ _ h => h) (by first | rfl | assumption) [.tmp 2] rfl ?_); refine rtD ?_
      show SV.c (.bool true) = _
      obtain rfl : k = d.next.length := by omega
      have h1 := hk.2
      rw [List.take_length] at h1; rw [z8p, decide_eq_true hbase, hpart, h1]
      rfl

noncomputable def n3 : Ctx := { P := Tryd.prog, ty := ty, glob := gl, fs := [(89, .flat zui)] }
theorem n3_ok : n3.OK := ⟨tyOK, ⟨⟨z03 Tryd.func89 (by kernel_rfl) rfl, zuj⟩, trivial⟩, mixed⟩
@[simp] theorem n3_ty : n3.ty = ty := rfl

def zob : QSpec := fun vs K => ∃ d : Dfa, vs = [dfaV d] ∧ d.wf ∧ K (.c (.bool (zeq d)))
theorem zq9 : z1k Tryd.prog gl 32 zob := by
 refine z1l (Γ := n3) (N := 11) Tryd.func32 rfl rfl fun vs K h => ?_; obtain ⟨d, rfl, hw, h⟩ := h; refine ⟨_, h, rfl, by simp, fun w I => ?_⟩
 have hw' := hw
 obtain ⟨hw1, hw2, hw3, hw4, hw5⟩ := hw'; refine srR n3_ok fun _ hK2 => ?_
 iterate 2 refine zhp ?_
 refine s_nil ?_; apply hK2; refine srR n3_ok fun _ hK4 => ?_
 iterate 4 refine zhp ?_
 refine sXEVa_23 ?_; refine exB (fun hb4 => ?_) (fun hb4 => ?_)
 ·try simp only [dQ, if_true, if_false, reduceIte] at hb4
  refine sXTVa_17 ?_; refine zue ?_; refine ⟨d, rfl, hw, ?_⟩; refine zk5 ?_
  first | refine exI ?_ | (intro cap6 hcap6; refine exI ?_)
  iterate 2 refine zhp ?_
  refine s_nil ?_; apply hK4; refine z0d (z08 n3_ok (fun _ _ h => h) (by first | rfl | assumption) [.tmp 2] rfl ?_); refine rtD ?_
  show SV.c (.bool _) = _
  rw [zeq, decide_eq_true (by omega)]
  rfl
 ·try simp only [dQ, if_true, if_false, reduceIte] at hb4
  iterate 2 refine sN ?_
  iterate 2 refine zhp ?_
  refine s_nil ?_; apply hK4; refine z0d (z08 n3_ok (fun _ _ h => h) (by first | rfl | assumption) [.tmp 2] rfl ?_); refine rtD ?_
  show SV.c (.bool false) = _
  rw [zeq, decide_eq_false (by omega), Bool.false_and]


end Go.Proofs.YtppmnaoollkboaaDoor

namespace Go.Proofs.YtppmnaoollkboaaDoor
set_option linter.all false
open Go.Ab Go.RowKit

open Go.Aut
attribute [local irreducible] z0j z1t zl z07 z0w putB
def plc (x n : Int) : Int := if x = 0 then n else if x = n then 0 else x
def goodK (f : Nat → Nat → Bool) : Nat → List Bool
  | 0 => [true]
  | k + 1 => goodK f k ++ [(List.range (k + 1)).any fun j => (goodK f k).getD j false && f j (k + 1)]
def gd (f : Nat → Nat → Bool) (k : Nat) : Bool := (goodK f k).getD k false
def anyK (f : Nat → Nat → Bool) (k j : Nat) : Bool := (List.range j).any fun i => gd f i && f i k
def rowG (f : Nat → Nat → Bool) (n k j : Nat) : List Bool := (List.range (n + 1)).map fun i => if i < k then gd f i else if i = k then anyK f k j else false
@[simp] theorem rowG_length (f : Nat → Nat → Bool) (n k j : Nat) : (rowG f n k j).length = n + 1 := by simp [rowG]
theorem rowG_get (f : Nat → Nat → Bool) {n k j i : Nat} (h : i ≤ n) : (rowG f n k j).getD i false = if i < k then gd f i else if i = k then anyK f k j else false := by
  rw [rowG, List.getD_eq_getElem?_getD, List.getElem?_map, List.getElem?_range (by omega)]; rfl
end Go.Proofs.YtppmnaoollkboaaDoor

namespace Go.Proofs.YtppmnaoollkboaaDoor
set_option linter.all false
open Go.Ab Go.RowKit

open Go.Aut
end Go.Proofs.YtppmnaoollkboaaDoor

namespace Go.Proofs.YtppmnaoollkboaaDoor
set_option linter.all false
open Go.Ab Go.RowKit

open Go.Aut
theorem zuk : ∀ (n : Nat) (P : List Nat → Prop), (∃ v, Bytes v ∧ v.length = n ∧ P v) → ∃ w, Bytes w ∧ w.length = n ∧ P w ∧ ∀ v, Bytes v → v.length = n → P v → w = v ∨ lexL w v
  | 0, P, ⟨v, h1, h2, h3⟩ => by
    obtain rfl := List.length_eq_zero_iff.1 h2; exact ⟨[], h1, rfl, h3, fun u _ hu _ => .inl (List.length_eq_zero_iff.1 hu).symm⟩
  | n + 1, P, ⟨v, h1, h2, h3⟩ => by
    have he : ∃ a, ∃ u, Bytes (a :: u) ∧ u.length = n ∧ P (a :: u) := by
      cases v with
      | nil => cases h2
      | cons a u => exact ⟨a, u, h1, by simpa using h2, h3⟩
    obtain ⟨a, ⟨u, g1, g2, g3⟩, hmin⟩ := least he; obtain ⟨w, k1, k2, k3, k4⟩ := zuk n (fun u => P (a :: u)) ⟨u, fun b hb => g1 b (List.mem_cons_of_mem _ hb), g2, g3⟩; refine ⟨a :: w, Bytes.cons (g1 a List.mem_cons_self) k1, by simp [k2], k3, fun v hv hl hp => ?_⟩
    cases v with
    | nil => cases hl
    | cons b t =>
      have hl2 : t.length = n := by simpa using hl
      have hab : a ≤ b := Nat.le_of_not_lt fun h => hmin b h ⟨t, hv, hl2, hp⟩
      rcases Nat.lt_or_eq_of_le hab with h | rfl
      · exact .inr (.inl h)
      · rcases k4 t (fun x hx => hv x (List.mem_cons_of_mem _ hx)) hl2 hp with e | e
        · exact .inl (by rw [e])
        · exact .inr (.inr ⟨rfl, e⟩)
theorem least_ex {L : List Nat → Bool} {v : List Nat} (hv : Bytes v) (hL : L v = true) : ∃ w, z5i L w := by
  have he : ∃ n, ∃ u, Bytes u ∧ u.length = n ∧ L u = true := ⟨_, v, hv, rfl, hL⟩
  obtain ⟨n, hn, hmin⟩ := least he; obtain ⟨w, h1, h2, h3, h4⟩ := zuk n (fun u => L u = true) hn; refine ⟨w, h1, h3, fun u hu hLu => ?_⟩
  have : n ≤ u.length := Nat.le_of_not_lt fun h => hmin u.length h ⟨u, hu, rfl, hLu⟩
  rcases Nat.lt_or_eq_of_le this with h | h
  · exact .inr (.inl (by omega))
  · rcases h4 u hu h.symm hLu with e | e
    · exact .inl e
    · exact .inr (.inr ⟨by omega, e⟩)
theorem zul {L : List Nat → Bool} (h : z1v L = none) {v : List Nat} (hv : Bytes v) : L v = false := by
  cases e : L v with
  | false => rfl
  | true =>
    obtain ⟨w, hw⟩ := least_ex hv e; rw [z48 hw] at h; cases h
theorem lsB_len (w : List Nat) : (lsB (some w)).length = w.length := List.length_map ..
end Go.Proofs.YtppmnaoollkboaaDoor

namespace Go.Proofs.YtppmnaoollkboaaDoor
set_option linter.all false
open Go.Ab Go.RowKit

open Go.Aut
theorem hasBit_W (c : List UInt64) (b : Nat) : zep c b = hasW c b := by
  rw [zep, hasW]
  have h64 : b % 64 < 64 := Nat.mod_lt _ (by decide)
  have hn : (shr64 (c.getD (b / 64) 0) (b % 64)).toNat = (c.getD (b / 64) 0).toNat >>> (b % 64) := by
    unfold shr64; rw [if_pos h64, UInt64.toNat_shiftRight]
    congr 1
    rw [show (b % 64).toUInt64.toNat = b % 64 from UInt64.toNat_ofNat_of_lt' (by show b % 64 < 2 ^ 64; have : (64 : Nat) < 2 ^ 64 := by decide
                                                                                 omega)]
    omega
  rw [Bool.eq_iff_iff, decide_eq_true_eq, Nat.testBit_eq_decide_div_mod_eq, decide_eq_true_eq, ← UInt64.toNat_inj, UInt64.toNat_mod, hn, Nat.shiftRight_eq_div_pow]; exact Iff.rfl
theorem hasBit_C {cls : List UInt64} {k b : Nat} (hb : b < 256) : zep (clsAt cls k) b = hasC cls k b := by rw [hasBit_W, z92 hb]
theorem zum {cls : List UInt64} {b nc c : Nat} (hb : b < 256) (hc : c < nc) (h : ∀ x, x < nc → (hasC cls x b = true ↔ x = c)) : ∀ k, k ≤ nc → cntK cls b k = if c < k then 1 else 0
  | 0, _ => by rw [cntK, if_neg (Nat.not_lt_zero c)]
  | k + 1, hk => by
    rw [cntK, zum hb hc h k (by omega), hasBit_C hb]
    by_cases e : k = c
    · subst e
      rw [(h k (by omega)).2 rfl, if_pos rfl, if_neg (Nat.lt_irrefl k), if_pos (Nat.lt_succ_self k)]
    · have : hasC cls k b = false := by rw [← Bool.not_eq_true, h k (by omega)]; exact e
      rw [this]
      simp only [Bool.false_eq_true, if_false]
      by_cases e2 : c < k
      · rw [if_pos e2, if_pos (by omega)]
      · rw [if_neg e2, if_neg (by omega)]
theorem z6x {d : Dfa} (h : d.good) : zeq d = true := by
  obtain ⟨hk, h64⟩ := h
  have h1 := hk.npos
  have hv := z4z (d := d) ⟨hk, h64⟩
  rw [z38] at hv
  simp only [Bool.and_eq_true] at hv
  rw [zeq, z8p, partR]
  simp only [Bool.and_eq_true, decide_eq_true_eq, List.all_eq_true]
  refine ⟨h64, ⟨⟨h1, hk.alen⟩, ⟨⟨hk.cpos, hk.cmax⟩, fun k hkm => ?_⟩, fun b hb => ?_⟩, fun r hr => List.all_eq_true.1 hv.2 r hr⟩
  · have hk' := List.mem_range.1 hkm
    obtain ⟨b, hb, hc⟩ := hk.full k hk'; rw [nzB, Bool.not_eq_true', decide_eq_false_iff_not]; intro e; rw [← z92 hb, e, z3t] at hc; cases hc
  · have hb' := List.mem_range.1 hb
    obtain ⟨c, hc, hx⟩ := hk.part b hb'; rw [oneB, decide_eq_true_eq, zum hb' hc hx _ (Nat.le_refl _), if_pos hc]
def plN (t s : Nat) : Nat := if t = 0 then s else if t = s then 0 else t
def mvRow (r : List Int) (s k : Nat) : List Int := (r.take k).map fun x => plc x (s : Int)
def mvR (d : Dfa) (s t : Nat) : List (List Int) := (List.range t).map fun i => mvRow (d.next.getD (plN i s) []) s (d.next.getD (plN i s) []).length
def mvA (d : Dfa) (s t : Nat) : List Bool := (List.range t).map fun i => d.acc.getD (plN i s) false
@[simp] theorem mvR_length (d : Dfa) (s t : Nat) : (mvR d s t).length = t := by simp [mvR]
@[simp] theorem mvA_length (d : Dfa) (s t : Nat) : (mvA d s t).length = t := by simp [mvA]
theorem mvRow_length {r : List Int} {s k : Nat} (h : k ≤ r.length) : (mvRow r s k).length = k := by rw [mvRow, List.length_map, List.length_take, Nat.min_eq_left h]
end Go.Proofs.YtppmnaoollkboaaDoor
