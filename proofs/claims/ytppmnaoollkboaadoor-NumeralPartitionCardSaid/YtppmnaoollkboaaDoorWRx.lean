/- Numerals: the law of partitions. -/
import Derived.Test.YtppmnaoollkboaaDoorQo
import Derived.Test.YtppmnaoollkboaaDoorQl
namespace Go.Proofs.YtppmnaoollkboaaDoor
set_option linter.all false
open Go.Ab Go.RowKit

theorem qRx0 {a : Prop} (h : a := by first | exact vcA | (simp <;> omega) | exact ⟨by omega, by omega⟩ | exact ⟨by omega, by omega, by omega⟩ | decide | (show _ < _; decide) | exact vcB) : a := h
theorem uRx_0 {a : Prop} (h : a := by
    repeat' (first | exact pT  | exact trivial | refine aI ?_ ?_ | exact cC0 | refine low_cons' ?_ ?_ | exact cC1 | fail)
    all_goals first | omega | exact z35 _ | exact z1j _ | (simp; done) | (show Cont.u8s _ = _; simp; done)| (show (0 : Nat) < (z01 _ _ _ _).length; rw [z00 hcl]; decide) | (simp [-List.reduceReplicate]; done) | (simp [-List.reduceReplicate] <;> omega) | skip) : a := h
theorem DRx_0 {a b : Prop} (kZ : b) (h : HidB b → a := by intro kZ; (repeat first | refine aI qRx0 ?_ | refine z06 qRx0 ?_ | refine z04 qRx0 ?_ | refine z0k qRx0 ?_ | refine z0b ?_); exact kZ.out) : a := h ⟨kZ⟩
theorem z1f {a b : Prop} (kZ : b) (h : HidB b → a := by intro kZ; refine sX ?_; refine DRx_0 ?_; refine exI ?_; exact kZ.out) : a := h ⟨kZ⟩
theorem z7g {a b : Prop} (kZ : b) (h : HidB b → a := by intro kZ; refine sX0 ?_; refine DRx_0 ?_; refine exI ?_; exact kZ.out) : a := h ⟨kZ⟩
theorem z8y {a b : Prop} (kZ : b) (h : HidB b → a := by intro kZ; refine dX ?_; refine DRx_0 ?_; refine exI ?_; exact kZ.out) : a := h ⟨kZ⟩
theorem gXRx_4 {a b : Prop} (kZ : b) (h : HidB b → a := by intro kZ; refine gX ?_; refine DRx_0 ?_; refine exI ?_; exact kZ.out) : a := h ⟨kZ⟩
theorem zic {a b : Prop} (kZ : b) (h : HidB b → a := by intro kZ; refine gX0 ?_; refine DRx_0 ?_; refine exI ?_; exact kZ.out) : a := h ⟨kZ⟩
theorem z66 {a b : Prop} (kZ : b) (h : HidB b → a := by intro kZ; refine sXT ?_; refine DRx_0 ?_; refine exI ?_; exact kZ.out) : a := h ⟨kZ⟩
theorem zw4 {a b : Prop} (kZ : b) (h : HidB b → a := by intro kZ; refine qX ?_; refine DRx_0 ?_; refine exI ?_; exact kZ.out) : a := h ⟨kZ⟩
theorem qXTRx_8 {a b : Prop} (kZ : b) (h : HidB b → a := by intro kZ; refine qXT ?_; refine DRx_0 ?_; refine exI ?_; exact kZ.out) : a := h ⟨kZ⟩
theorem z1g {a b : Prop} (kZ : b) (h : HidB b → a := by intro kZ; refine sX ?_; refine DRx_0 ?_; exact kZ.out) : a := h ⟨kZ⟩
theorem zp5 {a b : Prop} (kZ : b) (h : HidB b → a := by intro kZ; refine dX ?_; refine DRx_0 ?_; exact kZ.out) : a := h ⟨kZ⟩
theorem zp6 {a b : Prop} (kZ : b) (h : HidB b → a := by intro kZ; refine gX ?_; refine DRx_0 ?_; exact kZ.out) : a := h ⟨kZ⟩
theorem qXERx_12 {a b : Prop} (kZ : b) (h : HidB b → a := by intro kZ; refine qX ?_; refine DRx_0 ?_; exact kZ.out) : a := h ⟨kZ⟩
theorem zw5 {a b : Prop} (kZ : b) (h : HidB b → a := by intro kZ; refine qXT ?_; refine DRx_0 ?_; exact kZ.out) : a := h ⟨kZ⟩
theorem z3h {a b : Prop} (kZ : b) (h : HidB b → a := by intro kZ; refine sXT ?_; refine DRx_0 ?_; exact kZ.out) : a := h ⟨kZ⟩

open Go.Aut
attribute [local irreducible] z0l z26 zl z01 z16 putB canD
theorem comb_and {r : Rul} (hr : r.ok) (P Q : Int × Bool → Bool) : combR (fun x y => x && y) (canD (langN r P)) (canD (langN r Q)) = (canD (langN r fun v => P v && Q v), 0) := combN hr _ P Q
theorem or_pu {r : Rul} (hr : r.ok) (m : Nat) : combR (fun x y => x || y) (canD (langN r (Pu ((m : Nat) : Int)))) (canD (langN r (Pn ((m + 1 : Nat) : Int)))) = (canD (langN r (Pu ((m + 1 : Nat) : Int))), 0) := by
  rw [combN hr, show ((m + 1 : Nat) : Int) = (m : Int) + 1 by omega]; exact congrArg (fun P => (canD (langN r P), 0)) (pu_succ (by omega))
noncomputable def gnr6 : Ctx := { P := Tryd.prog, ty := ty, glob := gl, fs := [(53, .flat zp2), (54, .data made9S), (60, .data zgg), (62, .data zmu), (36, .data andAS), (38, .data orAS), (29, .data zmh), (28, .flat sameS)] }
theorem z0v : gnr6.OK := ⟨tyOK, ⟨⟨z08 Tryd.func53 (by kernel_rfl) rfl, zqq⟩, ⟨z08 Tryd.func54 (by kernel_rfl) rfl, made9_ok⟩, ⟨z08 Tryd.func60 (by kernel_rfl) rfl, zkq⟩, ⟨z08 Tryd.func62 (by kernel_rfl) rfl, zkr⟩, ⟨z08 Tryd.func36 (by kernel_rfl) rfl, andA_ok⟩, ⟨z08 Tryd.func38 (by kernel_rfl) rfl, orA_ok⟩, ⟨z08 Tryd.func29 (by kernel_rfl) rfl, zk9⟩, ⟨z08 Tryd.func28 (by kernel_rfl) rfl, same_ok⟩, trivial⟩, mixed⟩
@[simp] theorem gnr6_ty : gnr6.ty = ty := rfl

def zid : QSpec := fun vs K => ∃ a b n k : UInt8, vs = [.agg (.u8s [a, b]), .c (.u8 n), .c (.u8 k)] ∧ K (.c (.bool true))
set_option maxHeartbeats 1000000 in
set_option maxRecDepth 4000 in
theorem zfb : z1e Tryd.prog gl 19 zid := by
 refine z23 (Γ := gnr6) (N := 136) Tryd.func19 rfl rfl fun vs K h => ?_; obtain ⟨a, b, n, k, rfl, h⟩ := h; refine ⟨_, h, rfl, by simp, fun w I => ?_⟩; refine srR z0v fun _ hK2 => ?_
 iterate 2 refine z1f ?_
 refine s_nil ?_; apply hK2; refine srR z0v fun _ hK4 => ?_
 iterate 2 refine z1f ?_
 refine s_nil ?_; apply hK4; obtain ⟨r, hr9⟩ : ∃ r, made9 a b = r := ⟨_, rfl⟩
 have hr : r.ok := hr9 ▸ zmp a b
 have ht1 := hr.t1
 have ht2 := hr.t2
 have hd1 := hr.d1
 have hd2 := hr.d2
 have hn9 := n.toNat_lt
 have hk9 := k.toNat_lt
 have hm := zw2 hr n
 have hmk := zw2 hr k
 have wA := z8d hr Pa
 have wN := z8d hr (Pn ((n.toNat : Int) % (r.top + 1)))
 have wK := z8d hr (Pn ((k.toNat : Int) % (r.top + 1)))
 have wB := z8d hr fun v => Pn ((n.toNat : Int) % (r.top + 1)) v && Pn ((k.toNat : Int) % (r.top + 1)) v
 refine srR z0v fun _ hK6 => ?_; refine z1f ?_; refine z1g ?_; refine ⟨a, b, rfl, ?_⟩; rw [hr9]; refine DRx_0 ?_
 first | refine exI ?_ | (intro cap1 hcap1; refine exI ?_)
 refine z1f ?_; refine z7g ?_; refine s_nil ?_; apply hK6; refine srR z0v fun _ hK8 => ?_; refine z1g ?_; refine exA (rulV r) (SV.as_refl _) ?_; refine z1g ?_; refine ⟨r, rfl, ?_⟩; rw [all_ok hr]; refine DRx_0 ?_
 first | refine exI ?_ | (intro cap1 hcap1; refine exI ?_)
 iterate 4 refine z1f ?_
 refine z7g ?_; refine z1f ?_; refine s_nil ?_; apply hK8; refine seq_k fun _ hK9 => ?_; refine srR z0v fun _ hK11 => ?_
 iterate 2 refine z1f ?_
 refine s_nil ?_; apply hK11; refine z05 (b := _) rfl (fun h_t33 => ?_) (fun _ => ?_)
 ·exfalso; first | (simp at h_t33; done) | cases h_t33
 refine z0a ?_; apply hK9; refine z2n (α := Unit) (fun _ => [(1, .c (.u8 n)), (2, .c (.u8 k)), (7, .c (.bool true)), (8, .c (.dp (rulC r) 0)), (9, .c (.dp (dfaC (canD (langN r Pa))) 0)), (10, .c (.int .i64 0)), (11, .c (.ptr 0 0)), (12, .c (.int .i64 0))]) (fun _ => [(0, .own 30 (dfaC (canD (langN r (Pn ((n.toNat : Int) % (r.top + 1)))))) 3)]) 1 (fun _ => True) ?_ ?_
 ·refine leW [1, 2] id [(1, .c (.u8 n)), (2, .c (.u8 k)), (7, .c (.bool true)), (8, .c (.dp (rulC r) 0)), (9, .c (.dp (dfaC (canD (langN r Pa))) 0)), (10, .c (.int .i64 0))] [] 0 [] uRx_0 uRx_0 uRx_0 uRx_0 ?_
  refine zdm z0v ?_; refine z0w z0v (g := 7) (by kernel_rfl) [(0, true), (1, true), (2, true), (3, true), (4, true), (5, true), (6, true)] (by kernel_rfl) fun _ hK13 => ?_; refine zp5 ?_; refine exA (rulV r) (SV.as_refl _) ?_
  iterate 6 refine z8y ?_
  refine d_nil ?_; apply hK13; refine z25 [7, 11] (by kernel_rfl) (by decide) (List.forall_mem_cons.2 ⟨?_, List.forall_mem_cons.2 ⟨?_, fun _ h => by cases h⟩⟩)
  ·refine z0g z0v ?_
   refine DRx_0 ?_; refine ⟨r, ((n.toNat : Int) % (r.top + 1)), rfl, ?_⟩; rw [z5y hr hm.1 hm.2]; refine DRx_0 ?_
   first | refine exI ?_ | (intro cap7 hcap7; refine exI ?_)
   refine z0w z0v (g := 0) (by kernel_rfl) [(8, true), (9, true), (10, true), (11, false), (12, false), (13, true)] (by kernel_rfl) fun _ hK14 => ?_
   iterate 3 refine z8y ?_
   refine gXRx_4 ?_; refine zic ?_; refine z8y ?_; refine d_nil ?_; apply hK14; refine z0q (by kernel_rfl) ?_; refine dnS [] id () trivial [0] uRx_0 uRx_0 uRx_0 uRx_0
  ·refine z0g z0v ?_
   refine DRx_0 ?_; refine exI ?_; refine z0w z0v (g := 0) (by kernel_rfl) [(7, false), (8, true), (9, true), (10, true), (12, false), (13, true)] (by kernel_rfl) fun _ hK15 => ?_; refine zp6 ?_; refine ⟨r, ((n.toNat : Int) % (r.top + 1)), rfl, ?_⟩; rw [z5y hr hm.1 hm.2]; refine DRx_0 ?_
   first | refine exI ?_ | (intro cap7 hcap7; refine exI ?_)
   iterate 3 refine z8y ?_
   refine zic ?_; refine z8y ?_; refine d_nil ?_; apply hK15; refine z0q (by kernel_rfl) ?_; refine dnS [] id () trivial [0] uRx_0 uRx_0 uRx_0 uRx_0
 ·intro u hu
  clear hu; refine z2n (α := Unit) (fun _ => [(1, .c (.u8 n)), (2, .c (.u8 k)), (7, .c (.bool true)), (8, .c (.dp (rulC r) 0)), (9, .c (.dp (dfaC (canD (langN r Pa))) 0)), (10, .c (.int .i64 0)), (11, .c (.dp (dfaC (canD (langN r (Pn ((n.toNat : Int) % (r.top + 1)))))) 0)), (12, .c (.int .i64 0)), (13, .c (.ptr 0 0)), (14, .c (.int .i64 0))]) (fun _ => [(0, .own 30 (dfaC (canD (langN r (Pn ((k.toNat : Int) % (r.top + 1)))))) 3)]) 1 (fun _ => True) ?_ ?_
  ·refine leW [0] id [(1, .c (.u8 n)), (2, .c (.u8 k)), (7, .c (.bool true)), (8, .c (.dp (rulC r) 0)), (9, .c (.dp (dfaC (canD (langN r Pa))) 0)), (10, .c (.int .i64 0)), (11, .c (.dp (dfaC (canD (langN r (Pn ((n.toNat : Int) % (r.top + 1)))))) 0)), (12, .c (.int .i64 0))] [] 0 [] uRx_0 uRx_0 uRx_0 uRx_0 ?_
   refine zdm z0v ?_; refine z0w z0v (g := 7) (by kernel_rfl) [(0, true), (1, true), (2, true), (3, true), (4, true), (5, true), (6, true)] (by kernel_rfl) fun _ hK17 => ?_; refine zp5 ?_; refine exA (rulV r) (SV.as_refl _) ?_
   iterate 6 refine z8y ?_
   refine d_nil ?_; apply hK17; refine z25 [7, 11] (by kernel_rfl) (by decide) (List.forall_mem_cons.2 ⟨?_, List.forall_mem_cons.2 ⟨?_, fun _ h => by cases h⟩⟩)
   ·refine z0g z0v ?_
    refine DRx_0 ?_; refine ⟨r, ((k.toNat : Int) % (r.top + 1)), rfl, ?_⟩; rw [z5y hr hmk.1 hmk.2]; refine DRx_0 ?_
    first | refine exI ?_ | (intro cap7 hcap7; refine exI ?_)
    refine z0w z0v (g := 0) (by kernel_rfl) [(8, true), (9, true), (10, true), (11, false), (12, false), (13, true)] (by kernel_rfl) fun _ hK18 => ?_
    iterate 3 refine z8y ?_
    refine gXRx_4 ?_; refine zic ?_; refine z8y ?_; refine d_nil ?_; apply hK18; refine z0q (by kernel_rfl) ?_; refine dnS [] id () trivial [0] uRx_0 uRx_0 uRx_0 uRx_0
   ·refine z0g z0v ?_
    refine DRx_0 ?_; refine exI ?_; refine z0w z0v (g := 0) (by kernel_rfl) [(7, false), (8, true), (9, true), (10, true), (12, false), (13, true)] (by kernel_rfl) fun _ hK19 => ?_; refine zp6 ?_; refine ⟨r, ((k.toNat : Int) % (r.top + 1)), rfl, ?_⟩; rw [z5y hr hmk.1 hmk.2]; refine DRx_0 ?_
    first | refine exI ?_ | (intro cap7 hcap7; refine exI ?_)
    iterate 3 refine z8y ?_
    refine zic ?_; refine z8y ?_; refine d_nil ?_; apply hK19; refine z0q (by kernel_rfl) ?_; refine dnS [] id () trivial [0] uRx_0 uRx_0 uRx_0 uRx_0
  ·intro u hu
   clear hu; refine srR z0v fun _ hK21 => ?_; refine z1g ?_; refine exA (dfaV (canD (langN r (Pn ((n.toNat : Int) % (r.top + 1)))))) (SV.as_refl _) ?_; refine z1g ?_; refine exA (dfaV (canD (langN r (Pn ((k.toNat : Int) % (r.top + 1)))))) (SV.as_refl _) ?_; refine z1g ?_; refine ⟨(canD (langN r (Pn ((n.toNat : Int) % (r.top + 1))))), (canD (langN r (Pn ((k.toNat : Int) % (r.top + 1))))), rfl, ⟨wN, wK⟩, ?_⟩; rw [comb_and hr]; refine DRx_0 ?_
   first | refine exI ?_ | (intro cap2 hcap2; refine exI ?_)
   iterate 4 refine z1f ?_
   refine z7g ?_; refine z1f ?_; refine s_nil ?_; apply hK21; refine seq_k fun _ hK22 => ?_; refine srR z0v fun _ hK24 => ?_
   iterate 2 refine z1f ?_
   refine z1g ?_; refine exB (fun hb2 => ?_) (fun hb2 => ?_)
   ·exfalso; first | exact absurd hb2 (by decide) | exact hb2 rfl | (simp at hb2; done) | omega
   iterate 2 refine z66 ?_
   refine z1f ?_; refine z1g ?_; refine exB (fun hb6 => ?_) (fun hb6 => ?_)
   ·exfalso; first | exact absurd hb6 (by decide) | exact hb6 rfl | (simp at hb6; done) | omega
   iterate 2 refine z66 ?_
   refine z1f ?_; refine s_nil ?_; apply hK24; refine z05 (b := _) rfl (fun h_t71 => ?_) (fun _ => ?_)
   ·exfalso; first | (simp at h_t71; done) | cases h_t71
   refine z0a ?_; apply hK22; refine srR z0v fun _ hK26 => ?_; refine z1g ?_; refine exA (dfaV (canD (langN r fun v => Pn ((n.toNat : Int) % (r.top + 1)) v && Pn ((k.toNat : Int) % (r.top + 1)) v))) (SV.as_refl _) ?_; refine z1g ?_; refine ⟨(canD (langN r fun v => Pn ((n.toNat : Int) % (r.top + 1)) v && Pn ((k.toNat : Int) % (r.top + 1)) v)), rfl, wB, ?_⟩; rw [zvz hr]; refine DRx_0 ?_
   first | refine exI ?_ | (intro cap1 hcap1; refine exI ?_)
   iterate 5 refine z1f ?_
   refine s_nil ?_; apply hK26; refine seq_k fun _ hK27 => ?_; refine srQ z0v (by kernel_rfl) fun _ hK29 => ?_; refine zw4 ?_; refine qXERx_12 ?_; refine exB (fun hb1 => ?_) (fun hb1 => ?_)
   ·try simp only [dQ, if_true, if_false, reduceIte] at hb1
    have heq : ((n.toNat : Int) % (r.top + 1)) = ((k.toNat : Int) % (r.top + 1)) := Classical.byContradiction fun e => by
     rw [pn_both e] at hb1; cases hb1
    iterate 12 refine qXTRx_8 ?_
    refine zw5 ?_; refine exA (.c (.bool (false))) (as_eq (congrArg (fun v => SV.c (Cell.bool v)) (by rw [heq]; simp))) ?_; refine zw4 ?_; refine q_nil ?_; apply hK29; refine z05 (b := _) rfl (fun h_t92 => ?_) (fun _ => ?_)
    ·exfalso; first | (simp at h_t92; done) | cases h_t92
    refine z0a ?_; apply hK27; refine leW [] id [(7, .c (.bool true)), (8, .c (.dp (rulC r) 0)), (9, .c (.dp (dfaC (canD (langN r Pa))) 0))] [] 0 [] uRx_0 uRx_0 uRx_0 uRx_0 ?_; refine srR z0v fun _ hK31 => ?_; refine z1g ?_; refine exA (rulV r) (SV.as_refl _) ?_; refine z1g ?_; refine ⟨r, 0, rfl, ?_⟩; rw [z5y hr (by omega) (by omega), zw3]; refine DRx_0 ?_
    first | refine exI ?_ | (intro cap1 hcap1; refine exI ?_)
    iterate 4 refine z1f ?_
    refine z7g ?_; refine z1f ?_; refine s_nil ?_; apply hK31; refine seq_k fun _ hK32 => ?_; refine srR z0v fun _ hK34 => ?_; refine z1f ?_; refine s_nil ?_; apply hK34; refine z07 ?_; refine z0p (α := Nat) (fun m => [(7, .c (.bool true)), (8, .c (.dp (rulC r) 0)), (9, .c (.dp (dfaC (canD (langN r Pa))) 0)), (19, .c (.ptr 0 0)), (20, .c (.int .i64 0)), (21, .c (.int .i64 (m + 1 : Nat)))]) (fun m => [(0, .own 30 (dfaC (canD (langN r (Pu ((m : Nat) : Int))))) 3)]) 1 (fun m => ((m : Nat) : Int) ≤ r.top) (fun m => r.top.toNat - m) ?_ ?_
    ·refine dnS [] id 0 (by show ((0 : Nat) : Int) ≤ r.top; omega) [0] ?_ ?_ ?_ ?_
     ·exact uRx_0
     ·exact uRx_0
     ·exact uRx_0
     ·exact uRx_0
    ·intro m hm1
     refine seq_k fun _ hK35 => ?_; refine srR z0v fun _ hK37 => ?_
     iterate 4 refine z1f ?_
     refine z1g ?_; refine exB (fun hb4 => ?_) (fun hb4 => ?_)
     ·try simp only [dQ, if_true, if_false, reduceIte] at hb4
      refine z66 ?_; refine z3h ?_; refine exA (.c (.bool (true))) (as_eq (congrArg (fun v => SV.c (Cell.bool v)) (decide_eq_true rfl))) ?_; refine z1f ?_; refine s_nil ?_; apply hK37; refine z05 (b := _) rfl (fun _ => ?_) (fun h_t105 => ?_)
      rotate_left 1
      ·exfalso; first | (simp at h_t105; done) | cases h_t105
      refine z0a ?_; apply hK35; refine seq_k fun _ hK38 => ?_; refine z07 ?_
      have hmt : ((m + 1 : Nat) : Int) ≤ r.top := by omega
      have wU := z8d hr (Pu ((m : Nat) : Int))
      have wM := z8d hr (Pn ((m + 1 : Nat) : Int))
      refine srR z0v fun _ hK40 => ?_; refine z1g ?_; refine exA (rulV r) (SV.as_refl _) ?_; refine z1f ?_; refine z1g ?_; refine ⟨r, ((m + 1 : Nat) : Int), rfl, ?_⟩; rw [z5y hr (by omega) hmt]; refine DRx_0 ?_
      first | refine exI ?_ | (intro cap2 hcap2; refine exI ?_)
      iterate 4 refine z1f ?_
      refine z7g ?_; refine z1f ?_; refine s_nil ?_; apply hK40; refine seq_k fun _ hK41 => ?_; refine srR z0v fun _ hK43 => ?_
      iterate 2 refine z1f ?_
      refine s_nil ?_; apply hK43; refine z05 (b := _) rfl (fun h_t115 => ?_) (fun _ => ?_)
      ·exfalso; first | (simp at h_t115; done) | cases h_t115
      refine z0a ?_; apply hK41; refine z03 z0v fun _ hK44 => ?_; refine z1g ?_; refine exA (dfaV (canD (langN r (Pu ((m : Nat) : Int))))) (SV.as_refl _) ?_; refine z1g ?_; refine exA (dfaV (canD (langN r (Pn ((m + 1 : Nat) : Int))))) (SV.as_refl _) ?_; refine z1g ?_; refine ⟨(canD (langN r (Pu ((m : Nat) : Int)))), (canD (langN r (Pn ((m + 1 : Nat) : Int)))), rfl, ⟨wU, wM⟩, ?_⟩; rw [or_pu hr]; refine DRx_0 ?_
      first | refine exI ?_ | (intro cap2 hcap2; refine exI ?_)
      iterate 3 refine z1f ?_
      refine z7g ?_; refine z1f ?_; refine s_nil ?_; apply hK44; refine z09 ?_; apply hK38; refine z03 z0v fun _ hK45 => ?_
      iterate 3 refine z1f ?_
      refine s_nil ?_; apply hK45; refine dnS [] id (m + 1) ⟨hmt, by omega⟩ [0] uRx_0 uRx_0 uRx_0 uRx_0
     ·try simp only [dQ, if_true, if_false, reduceIte] at hb4
      iterate 2 refine sN ?_
      refine z1f ?_; refine s_nil ?_; apply hK37; refine z05 (b := _) rfl (fun h_t105 => ?_) (fun _ => ?_)
      ·exfalso; simp at h_t105
      refine z0m ?_; refine z02 ?_; refine z02 ?_; refine z0i ?_; apply hK32
      have hmt : ((m : Nat) : Int) = r.top := by omega
      have wU := z8d hr (Pu ((m : Nat) : Int))
      refine srR z0v fun _ hK47 => ?_
      iterate 2 refine z1f ?_
      refine z1g ?_; refine exB (fun hb2 => ?_) (fun hb2 => ?_)
      ·exfalso; first | exact absurd hb2 (by decide) | exact hb2 rfl | (simp at hb2; done) | omega
      iterate 2 refine z66 ?_
      refine z3h ?_; refine exB (fun hb5 => ?_) (fun hb5 => ?_)
      rotate_left 1
      ·exfalso; first | exact absurd hb5 (by decide) | exact hb5 rfl | (simp at hb5; done) | omega
      refine z3h ?_; refine exA (dfaV (canD (langN r (Pu ((m : Nat) : Int))))) (SV.as_refl _) ?_; refine z3h ?_; refine exA (dfaV (canD (langN r Pa))) (SV.as_refl _) ?_; refine z3h ?_; refine ⟨(canD (langN r (Pu ((m : Nat) : Int)))), (canD (langN r Pa)), rfl, ⟨wU, wA⟩, ?_⟩; refine DRx_0 ?_
      first | refine exA (.c (.bool (true))) (as_eq (congrArg (fun v => SV.c (Cell.bool v)) (zaf.2 (by rw [hmt]; exact zp4 hr)))) ?_ | (intro cap8 hcap8; refine exA (.c (.bool (true))) (as_eq (congrArg (fun v => SV.c (Cell.bool v)) (zaf.2 (by rw [hmt]; exact zp4 hr)))) ?_)
      refine z66 ?_; refine z1g ?_; refine exA (.c (.bool (true))) (as_eq (congrArg (fun v => SV.c (Cell.bool v)) (by simp_all))) ?_; refine z1g ?_; refine exB (fun hb11 => ?_) (fun hb11 => ?_)
      rotate_left 1
      ·exfalso; first | exact absurd hb11 (by decide) | exact hb11 rfl | (simp at hb11; done) | omega
      refine z66 ?_
      iterate 2 refine z1f ?_
      refine s_nil ?_; apply hK47; refine z0e (z0d z0v (fun _ _ h => h) (by first | rfl | assumption) [.tmp 6] rfl ?_); refine rtD ?_
      rfl
   ·try simp only [dQ, if_true, if_false, reduceIte] at hb1
    iterate 13 refine qN ?_
    refine zw4 ?_; refine q_nil ?_; apply hK29; refine z05 (b := _) rfl (fun h_t92 => ?_) (fun _ => ?_)
    ·exfalso; first | (simp at h_t92; done) | cases h_t92
    refine z0a ?_; apply hK27; refine leW [] id [(7, .c (.bool true)), (8, .c (.dp (rulC r) 0)), (9, .c (.dp (dfaC (canD (langN r Pa))) 0))] [] 0 [] uRx_0 uRx_0 uRx_0 uRx_0 ?_; refine srR z0v fun _ hK49 => ?_; refine z1g ?_; refine exA (rulV r) (SV.as_refl _) ?_; refine z1g ?_; refine ⟨r, 0, rfl, ?_⟩; rw [z5y hr (by omega) (by omega), zw3]; refine DRx_0 ?_
    first | refine exI ?_ | (intro cap1 hcap1; refine exI ?_)
    iterate 4 refine z1f ?_
    refine z7g ?_; refine z1f ?_; refine s_nil ?_; apply hK49; refine seq_k fun _ hK50 => ?_; refine srR z0v fun _ hK52 => ?_; refine z1f ?_; refine s_nil ?_; apply hK52; refine z07 ?_; refine z0p (α := Nat) (fun m => [(7, .c (.bool true)), (8, .c (.dp (rulC r) 0)), (9, .c (.dp (dfaC (canD (langN r Pa))) 0)), (19, .c (.ptr 0 0)), (20, .c (.int .i64 0)), (21, .c (.int .i64 (m + 1 : Nat)))]) (fun m => [(0, .own 30 (dfaC (canD (langN r (Pu ((m : Nat) : Int))))) 3)]) 1 (fun m => ((m : Nat) : Int) ≤ r.top) (fun m => r.top.toNat - m) ?_ ?_
    ·refine dnS [] id 0 (by show ((0 : Nat) : Int) ≤ r.top; omega) [0] ?_ ?_ ?_ ?_
     ·exact uRx_0
     ·exact uRx_0
     ·exact uRx_0
     ·exact uRx_0
    ·intro m hm1
     refine seq_k fun _ hK53 => ?_; refine srR z0v fun _ hK55 => ?_
     iterate 4 refine z1f ?_
     refine z1g ?_; refine exB (fun hb4 => ?_) (fun hb4 => ?_)
     ·try simp only [dQ, if_true, if_false, reduceIte] at hb4
      refine z66 ?_; refine z3h ?_; refine exA (.c (.bool (true))) (as_eq (congrArg (fun v => SV.c (Cell.bool v)) (decide_eq_true rfl))) ?_; refine z1f ?_; refine s_nil ?_; apply hK55; refine z05 (b := _) rfl (fun _ => ?_) (fun h_t105 => ?_)
      rotate_left 1
      ·exfalso; first | (simp at h_t105; done) | cases h_t105
      refine z0a ?_; apply hK53; refine seq_k fun _ hK56 => ?_; refine z07 ?_
      have hmt : ((m + 1 : Nat) : Int) ≤ r.top := by omega
      have wU := z8d hr (Pu ((m : Nat) : Int))
      have wM := z8d hr (Pn ((m + 1 : Nat) : Int))
      refine srR z0v fun _ hK58 => ?_; refine z1g ?_; refine exA (rulV r) (SV.as_refl _) ?_; refine z1f ?_; refine z1g ?_; refine ⟨r, ((m + 1 : Nat) : Int), rfl, ?_⟩; rw [z5y hr (by omega) hmt]; refine DRx_0 ?_
      first | refine exI ?_ | (intro cap2 hcap2; refine exI ?_)
      iterate 4 refine z1f ?_
      refine z7g ?_; refine z1f ?_; refine s_nil ?_; apply hK58; refine seq_k fun _ hK59 => ?_; refine srR z0v fun _ hK61 => ?_
      iterate 2 refine z1f ?_
      refine s_nil ?_; apply hK61; refine z05 (b := _) rfl (fun h_t115 => ?_) (fun _ => ?_)
      ·exfalso; first | (simp at h_t115; done) | cases h_t115
      refine z0a ?_; apply hK59; refine z03 z0v fun _ hK62 => ?_; refine z1g ?_; refine exA (dfaV (canD (langN r (Pu ((m : Nat) : Int))))) (SV.as_refl _) ?_; refine z1g ?_; refine exA (dfaV (canD (langN r (Pn ((m + 1 : Nat) : Int))))) (SV.as_refl _) ?_; refine z1g ?_; refine ⟨(canD (langN r (Pu ((m : Nat) : Int)))), (canD (langN r (Pn ((m + 1 : Nat) : Int)))), rfl, ⟨wU, wM⟩, ?_⟩; rw [or_pu hr]; refine DRx_0 ?_
      first | refine exI ?_ | (intro cap2 hcap2; refine exI ?_)
      iterate 3 refine z1f ?_
      refine z7g ?_; refine z1f ?_; refine s_nil ?_; apply hK62; refine z09 ?_; apply hK56; refine z03 z0v fun _ hK63 => ?_
      iterate 3 refine z1f ?_
      refine s_nil ?_; apply hK63; refine dnS [] id (m + 1) ⟨hmt, by omega⟩ [0] uRx_0 uRx_0 uRx_0 uRx_0
     ·try simp only [dQ, if_true, if_false, reduceIte] at hb4
      iterate 2 refine sN ?_
      refine z1f ?_; refine s_nil ?_; apply hK55; refine z05 (b := _) rfl (fun h_t105 => ?_) (fun _ => ?_)
      ·exfalso; simp at h_t105
      refine z0m ?_; refine z02 ?_; refine z02 ?_; refine z0i ?_; apply hK50
      have hmt : ((m : Nat) : Int) = r.top := by omega
      have wU := z8d hr (Pu ((m : Nat) : Int))
      refine srR z0v fun _ hK65 => ?_
      iterate 2 refine z1f ?_
      refine z1g ?_; refine exB (fun hb2 => ?_) (fun hb2 => ?_)
      ·exfalso; first | exact absurd hb2 (by decide) | exact hb2 rfl | (simp at hb2; done) | omega
      iterate 2 refine z66 ?_
      refine z3h ?_; refine exB (fun hb5 => ?_) (fun hb5 => ?_)
      rotate_left 1
      ·exfalso; first | exact absurd hb5 (by decide) | exact hb5 rfl | (simp at hb5; done) | omega
      refine z3h ?_; refine exA (dfaV (canD (langN r (Pu ((m : Nat) : Int))))) (SV.as_refl _) ?_; refine z3h ?_; refine exA (dfaV (canD (langN r Pa))) (SV.as_refl _) ?_; refine z3h ?_; refine ⟨(canD (langN r (Pu ((m : Nat) : Int)))), (canD (langN r Pa)), rfl, ⟨wU, wA⟩, ?_⟩; refine DRx_0 ?_
      first | refine exA (.c (.bool (true))) (as_eq (congrArg (fun v => SV.c (Cell.bool v)) (zaf.2 (by rw [hmt]; exact zp4 hr)))) ?_ | (intro cap8 hcap8; refine exA (.c (.bool (true))) (as_eq (congrArg (fun v => SV.c (Cell.bool v)) (zaf.2 (by rw [hmt]; exact zp4 hr)))) ?_)
      refine z66 ?_; refine z1g ?_; refine exA (.c (.bool (true))) (as_eq (congrArg (fun v => SV.c (Cell.bool v)) (by simp_all))) ?_; refine z1g ?_; refine exB (fun hb11 => ?_) (fun hb11 => ?_)
      rotate_left 1
      ·exfalso; first | exact absurd hb11 (by decide) | exact hb11 rfl | (simp at hb11; done) | omega
      refine z66 ?_
      iterate 2 refine z1f ?_
      refine s_nil ?_; apply hK65; refine z0e (z0d z0v (fun _ _ h => h) (by first | rfl | assumption) [.tmp 6] rfl ?_); refine rtD ?_
      rfl


end Go.Proofs.YtppmnaoollkboaaDoor
