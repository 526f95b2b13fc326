/- Part 5 of what the claims of this seat share: the walk's engine, the functions' contracts, plain mathematics (Ul). -/
import Derived.Test.YtppmnaoollkboaaDoorQd
namespace Go.Proofs.YtppmnaoollkboaaDoor
set_option linter.all false
open Go.Ab Go.RowKit

theorem qUl0 {a : Prop} (h : a := by first | exact vcA | (simp [-List.reduceReplicate] <;> omega) | exact vTh | (simp only [z95, zhn]; omega) | (rw [z95, zhn]; omega) | exact vcB) : a := h
theorem qUl1 {a : Prop} (h : a := by first | exact vcA | (simp [-List.reduceReplicate] <;> omega) | exact vTh | (have := hok.alen; omega) | exact vcB) : a := h
theorem uUl_0 {a : Prop} (h : a := by
    repeat' (first | assumption | exact z2u zbd _ _ | exact z12 zbd _ | exact pT  | exact trivial | refine aI ?_ ?_ | exact cC0 | refine low_cons' ?_ ?_ | exact cC1 | fail)
    all_goals first | omega | exact hL0 | (rw [hX4]; exact z12 zbd _) | exact z12 zbd _ _ (by assumption) | (show (_ : List Int) = _; first | assumption | rfl) | (show (_ : List UInt8) = _; first | assumption | rfl) | (show (_ : List (SV × SV)) = _; first | assumption | rfl) | exact z2u zbd _ _ | exact z12 zbd _ | (show (0 : Nat) < (z01 _ _ _ _).length; rw [z00 hcl]; decide) | (simp [-List.reduceReplicate]; done) | (simp [-List.reduceReplicate] <;> omega) | skip) : a := h
theorem DUl_0 {a b : Prop} (kZ : b) (h : HidB b → a := by intro kZ; (repeat first | refine aI qUl0 ?_ | refine z06 qUl0 ?_ | refine z04 qUl0 ?_ | refine z0k qUl0 ?_ | refine z0b ?_); exact kZ.out) : a := h ⟨kZ⟩
theorem z1c {a b : Prop} (kZ : b) (h : HidB b → a := by intro kZ; refine sX ?_; refine DUl_0 ?_; refine exI ?_; exact kZ.out) : a := h ⟨kZ⟩
theorem DUl_2 {a b : Prop} (kZ : b) (h : HidB b → a := by intro kZ; (repeat first | refine aI qUl1 ?_ | refine z06 qUl1 ?_ | refine z04 qUl1 ?_ | refine z0k qUl1 ?_ | refine z0b ?_); exact kZ.out) : a := h ⟨kZ⟩
theorem sXUl_3 {a b : Prop} (kZ : b) (h : HidB b → a := by intro kZ; refine sX ?_; refine DUl_2 ?_; refine exI ?_; exact kZ.out) : a := h ⟨kZ⟩
theorem zma {a b : Prop} (kZ : b) (h : HidB b → a := by intro kZ; refine sX0 ?_; refine DUl_0 ?_; refine exI ?_; exact kZ.out) : a := h ⟨kZ⟩
theorem zc7 {a b : Prop} (kZ : b) (h : HidB b → a := by intro kZ; refine dX ?_; refine DUl_0 ?_; refine exI ?_; exact kZ.out) : a := h ⟨kZ⟩
theorem gXUl_6 {a b : Prop} (kZ : b) (h : HidB b → a := by intro kZ; refine gX ?_; refine DUl_0 ?_; refine exI ?_; exact kZ.out) : a := h ⟨kZ⟩
theorem z62 {a b : Prop} (kZ : b) (h : HidB b → a := by intro kZ; refine sX ?_; refine DUl_0 ?_; exact kZ.out) : a := h ⟨kZ⟩
theorem zu5 {a b : Prop} (kZ : b) (h : HidB b → a := by intro kZ; refine sX ?_; refine DUl_2 ?_; exact kZ.out) : a := h ⟨kZ⟩
theorem zbf {a b : Prop} (kZ : b) (h : HidB b → a := by intro kZ; refine dX ?_; refine DUl_0 ?_; exact kZ.out) : a := h ⟨kZ⟩
theorem zo6 {a b : Prop} (kZ : b) (h : HidB b → a := by intro kZ; refine gX ?_; refine DUl_0 ?_; exact kZ.out) : a := h ⟨kZ⟩

open Go.Aut
attribute [local irreducible] z0l z26 zl z01 z16 putB encN kbN b0L nxtL
def zu6 : QSpec := fun vs K => ∃ (t : Tab) (l : List Nat), vs = [tabV t, .c (.ds l.length (.ints .i64 (natsI l)))] ∧ t.fit ∧ RefIn t l ∧ K (.tup [.c (.ds (finL t l).length (.ints .i64 (natsI (finL t l)))), .c (.ds (finR t l).length (.ints .i64 (natsI (finR t l))))])
set_option maxHeartbeats 2000000 in
set_option maxRecDepth 4000 in
theorem zu7 : z24 Tryd.prog gl 139 zu6 := by
 refine z1x (Γ := g0) (N := 130) Tryd.func139 rfl rfl fun vs K h => ?_; obtain ⟨t, l, rfl, ht, hl, h⟩ := h; refine ⟨_, h, (List.forall_mem_cons.2 ⟨trivial, (List.forall_mem_cons.2 ⟨trivial, fun _ h => (by cases h)⟩)⟩), by simp, fun w I => ?_⟩
 have ht0 := ht
 obtain ⟨hok, hlen, hnc⟩ := ht0
 have hcl := hok.clen
 have hll := hl.len
 refine srR g0_ok fun _ hK2 => ?_
 iterate 3 refine z1c ?_
 refine s_nil ?_; apply hK2; refine leW [0] id [(1, .c (.ds l.length (.ints .i64 (natsI l)))), (2, .c (.dp (tabC t) 0))] [] 0 [] uUl_0 uUl_0 uUl_0 uUl_0 ?_; refine srR g0_ok fun _ hK4 => ?_; refine z1c ?_; refine z62 ?_; refine exA (.c (.ds t.next.length (.cells (rowsC t.next)))) (as_eq (congrArg SV.c (z7k hcl))) ?_
 iterate 3 refine z1c ?_
 refine s_nil ?_; apply hK4; refine seq_k fun _ hK5 => ?_
 have hZ : List.replicate t.next.length (0 : Int) = natsI (b0L t l 0) := (b0L_zero t l).symm
 refine leW [] id [(1, .c (.ds l.length (.ints .i64 (natsI l)))), (2, .c (.dp (tabC t) 0)), (6, .c (.slice 0 0 t.next.length t.next.length))] [(0, .own 3 (.ints .i64 (natsI (b0L t l 0))) t.next.length)] 1 [0] uUl_0 uUl_0 uUl_0 uUl_0 ?_; refine srR g0_ok fun _ hK7 => ?_
 iterate 3 refine z1c ?_
 refine s_nil ?_; apply hK7; refine z07 ?_; refine z0p (α := Nat) (fun k => [(1, .c (.ds l.length (.ints .i64 (natsI l)))), (2, .c (.dp (tabC t) 0)), (6, .c (.slice 0 0 t.next.length t.next.length)), (24, .c (.ds l.length (.ints .i64 (natsI l)))), (25, .c (.int .i64 (l.length : Nat))), (26, .c (.int .i64 (k : Nat)))]) (fun k => [(0, .own 3 (.ints .i64 (natsI (b0L t l k))) t.next.length)]) 1 (fun k => k ≤ l.length) (fun k => l.length - k) ?_ ?_
 ·refine dnS [] id 0 (Nat.zero_le _) [0] uUl_0 uUl_0 uUl_0 uUl_0
 ·intro k hk
  have hbll := zqh t l k
  refine srR g0_ok fun _ hK9 => ?_; refine z1c ?_; refine s_nil ?_; apply hK9; refine seq_k fun _ hK10 => ?_; refine z05 (b := _) rfl (fun h_t27 => ?_) (fun h_t27 => ?_)
  ·try simp only [dQ, if_true, if_false, reduceIte] at h_t27
   refine z0a ?_; apply hK10; refine seq_k fun _ hK11 => ?_; refine z07 ?_
   have hkl : k < l.length := by omega
   have hsl := hl.lt _ (getD_mem' hkl)
   refine srR g0_ok fun _ hK13 => ?_; refine z1c ?_; refine z62 ?_; refine exA (.c (.int .i64 (((l.getD k 0 : Nat) : Int)))) (as_eq (congrArg (fun v => SV.c (Cell.int IntKind.i64 v)) (by rw [← z1l]; congr 1; omega))) ?_; refine z1c ?_; refine s_nil ?_; apply hK13
   have hal := hok.alen
   refine srR g0_ok fun _ hK15 => ?_; refine sXUl_3 ?_; refine zu5 ?_; refine exA (.c (.ds t.acc.length (.bools t.acc))) (as_eq (congrArg SV.c (zjy hcl))) ?_
   iterate 2 refine sXUl_3 ?_
   refine zu5 ?_; refine exA (.c (.bool (t.acc.getD (l.getD k 0) false))) (as_eq (congrArg (fun v => SV.c (Cell.bool v)) (by congr 1; omega))) ?_; refine s_nil ?_; apply hK15; refine z05 (b := _) rfl (fun h_t34 => ?_) (fun h_t34 => ?_)
   ·refine z03 g0_ok fun _ hK16 => ?_
    iterate 3 refine z1c ?_
    refine zma ?_; refine s_nil ?_; apply hK16; refine z09 ?_; apply hK11; refine z03 g0_ok fun _ hK17 => ?_
    iterate 2 refine z1c ?_
    refine s_nil ?_; apply hK17
    have hS2 : (natsI (b0L t l k)).set (0 + ((l.getD k 0 : Nat) : Int).toNat * 1) 1 = natsI (b0L t l (k + 1)) := by
     rw [show (1 : Int) = ((1 : Nat) : Int) from rfl, zej, show 0 + ((l.getD k 0 : Nat) : Int).toNat * 1 = l.getD k 0 by omega, b0L_yes hkl (by simpa using h_t34)]
    refine dnS [] id (k + 1) ⟨by omega, by omega⟩ [0] uUl_0 uUl_0 uUl_0 uUl_0
   ·refine z0a ?_; refine z09 ?_; apply hK11; refine z03 g0_ok fun _ hK18 => ?_
    iterate 2 refine z1c ?_
    refine s_nil ?_; apply hK18
    have hS2 : natsI (b0L t l k) = natsI (b0L t l (k + 1)) := by rw [b0L_no hkl (by simpa using h_t34)]
    refine dnS [] id (k + 1) ⟨by omega, by omega⟩ [0] uUl_0 uUl_0 uUl_0 uUl_0
  ·try simp only [dQ, if_true, if_false, reduceIte] at h_t27
   refine z0m ?_; refine z02 ?_; refine z02 ?_; refine z0i ?_; apply hK5; refine srR g0_ok fun _ hK20 => ?_; refine z1c ?_; refine s_nil ?_; apply hK20; refine z07 ?_
   obtain rfl : k = l.length := by omega
   refine z0p (α := List Nat × Nat) (fun s => [(1, .c (.ds l.length (.ints .i64 (natsI l)))), (2, .c (.dp (tabC t) 0)), (6, .c (.slice 0 0 t.next.length t.next.length)), (9, .c (.int .i64 (s.2 : Nat)))]) (fun s => [(0, .own 3 (.ints .i64 (natsI s.1)) t.next.length)]) 1 (fun s => Blk (tblT t) l s.1 t.next.length s.2 ∧ s.2 ≤ l.length) (fun s => l.length + 1 - s.2) ?_ ?_
   ·refine dnS [] id (b0L t l l.length, 0) ⟨b0_blk hl, Nat.zero_le _⟩ [0] uUl_0 uUl_0 uUl_0 uUl_0
   ·intro s hs
    have hb := hs.1
    have hs2 := hs.2
    have hbl := hb.len
    refine z07 ?_; refine srR g0_ok fun _ hK22 => ?_
    iterate 2 refine z1c ?_
    refine s_nil ?_; apply hK22; refine srR g0_ok fun _ hK24 => ?_
    iterate 4 refine z1c ?_
    refine s_nil ?_; apply hK24; refine srR g0_ok fun _ hK26 => ?_; refine z1c ?_; refine s_nil ?_; apply hK26; refine seq_k fun _ hK27 => ?_; refine srR g0_ok fun _ hK29 => ?_
    iterate 3 refine z1c ?_
    refine s_nil ?_; apply hK29; refine z07 ?_; refine ziz 12 3 (.ints .i64 []) rfl rfl trivial ?_; refine z0p (α := Nat × Nat) (fun q => [(1, .c (.ds l.length (.ints .i64 (natsI l)))), (2, .c (.dp (tabC t) 0)), (6, .c (.slice 0 0 t.next.length t.next.length)), (9, .c (.int .i64 (s.2 : Nat))), (10, .c (.map 1)), (11, .c (.slice 2 0 t.next.length t.next.length)), (12, .c (.slice 3 0 (z0y (kB t s.1) (l.take q.1)).length q.2)), (43, .c (.ds l.length (.ints .i64 (natsI l)))), (44, .c (.int .i64 (l.length : Nat))), (45, .c (.int .i64 (q.1 : Nat)))]) (fun q => [(0, .own 3 (.ints .i64 (natsI s.1)) t.next.length), (1, .mp 184 (mapE eK (keysO (kB t s.1) (l.take q.1)))), (2, .own 3 (.ints .i64 (natsI (nxtL (tblT t) l s.1 q.1))) t.next.length), (3, .own 3 (.ints .i64 (natsI (z0y (kB t s.1) (l.take q.1)))) q.2)]) 4 (fun q => q.1 ≤ l.length ∧ (z0y (kB t s.1) (l.take q.1)).length ≤ q.2) (fun q => l.length - q.1) ?_ ?_
    ·have hZ2 : List.replicate t.next.length (0 : Int) = natsI (nxtL (tblT t) l s.1 0) := by rw [zs9, hbl]; simp [natsI]
     refine dnS [] id (0, 0) ⟨Nat.zero_le _, Nat.le_refl _⟩ [0, 1, 2, 3] uUl_0 uUl_0 uUl_0 uUl_0
    ·intro q hq
     have hqc := hq.2
     have hqj := hq.1
     have hfo : (z0y (kB t s.1) (l.take q.1)).length ≤ l.length := by rw [z28]; exact Nat.le_trans (z2x _) (by rw [List.length_take]; omega)
     have hnl := z79 (tblT t) l s.1 q.1
     refine srR g0_ok fun _ hK31 => ?_; refine z1c ?_; refine s_nil ?_; apply hK31; refine seq_k fun _ hK32 => ?_; refine z05 (b := _) rfl (fun h_t46 => ?_) (fun h_t46 => ?_)
     ·try simp only [dQ, if_true, if_false, reduceIte] at h_t46
      refine z0a ?_; apply hK32; refine seq_k fun _ hK33 => ?_; refine z07 ?_
      have hjl : q.1 < l.length := by omega
      have hsl := hl.lt _ (getD_mem' hjl)
      have hrl := zeh hok hsl
      refine srR g0_ok fun _ hK35 => ?_; refine z1c ?_; refine z62 ?_; refine exA (.c (.int .i64 ((((l.getD q.1 0) : Nat) : Int)))) (as_eq (congrArg (fun v => SV.c (Cell.int IntKind.i64 v)) (by rw [← z1l]; congr 1; omega))) ?_; refine z1c ?_; refine s_nil ?_; apply hK35; refine srR g0_ok fun _ hK37 => ?_; refine z1c ?_; refine z62 ?_; refine exA (.c (.ds t.next.length (.cells (rowsC t.next)))) (as_eq (congrArg SV.c (z7k hcl))) ?_
      iterate 2 refine z1c ?_
      refine z62 ?_; refine exA (.c (.ds (t.next.getD (l.getD q.1 0) []).length (.ints .i64 (t.next.getD (l.getD q.1 0) [])))) (as_eq (congrArg SV.c (z8v ⟨hsl, by omega⟩))) ?_
      iterate 5 refine z1c ?_
      refine s_nil ?_; apply hK37; refine srD g0_ok [(0, true), (1, true), (2, true), (3, true), (4, true), (5, true), (6, true), (7, true), (8, true), (9, true), (10, true), (11, true), (12, false), (13, false), (14, true)] rfl (by kernel_rfl) (by kernel_rfl) fun _ hK39 => ?_
      iterate 4 refine zc7 ?_
      refine zbf ?_; refine exA (.c (.int .i64 (((blkF s.1 (l.getD q.1 0) : Nat) : Int)))) (as_eq (congrArg (fun v => SV.c (Cell.int IntKind.i64 v)) ((congrArg (fun i => (natsI s.1).getD i 0) (by omega)).trans z1l))) ?_
      iterate 4 refine zc7 ?_
      refine zbf ?_; refine exA (.c (.int .i64 (((blkF s.1 (l.getD q.1 0) : Nat) : Int)))) (as_eq (congrArg (fun v => SV.c (Cell.int IntKind.i64 v)) ((congrArg (fun i => (natsI s.1).getD i 0) (by omega)).trans z1l))) ?_; refine zbf ?_; refine exA (.c (.int .i64 (((blkF s.1 (l.getD q.1 0) : Nat) : Int) / 2 ^ 8))) (as_eq (congrArg (fun v => SV.c (Cell.int IntKind.i64 v)) (rfl))) ?_; refine zc7 ?_; refine gXUl_6 ?_; refine zo6 ?_; intro cap13 hcap13; refine exI ?_; refine zc7 ?_; refine d_nil ?_; apply hK39; refine seq_k fun _ hK40 => ?_; refine srR g0_ok fun _ hK42 => ?_; refine z1c ?_; refine z62 ?_; refine exA (.c (.ds t.next.length (.cells (rowsC t.next)))) (as_eq (congrArg SV.c (z7k hcl))) ?_
      iterate 2 refine z1c ?_
      refine z62 ?_; refine exA (.c (.ds (t.next.getD (l.getD q.1 0) []).length (.ints .i64 (t.next.getD (l.getD q.1 0) [])))) (as_eq (congrArg SV.c (z8v ⟨hsl, by omega⟩))) ?_
      iterate 2 refine z1c ?_
      refine s_nil ?_; apply hK42; refine z07 ?_; refine z0p (α := Nat × Nat) (fun m => [(1, .c (.ds l.length (.ints .i64 (natsI l)))), (2, .c (.dp (tabC t) 0)), (6, .c (.slice 0 0 t.next.length t.next.length)), (9, .c (.int .i64 (s.2 : Nat))), (10, .c (.map 1)), (11, .c (.slice 2 0 t.next.length t.next.length)), (12, .c (.slice 3 0 (z0y (kB t s.1) (l.take q.1)).length q.2)), (43, .c (.ds l.length (.ints .i64 (natsI l)))), (44, .c (.int .i64 (l.length : Nat))), (45, .c (.int .i64 (q.1 : Nat))), (14, .c (.int .i64 ((l.getD q.1 0) : Nat))), (15, .c (.slice 4 0 (2 + 2 * m.1) m.2)), (76, .c (.ds (t.next.getD (l.getD q.1 0) []).length (.ints .i64 (t.next.getD (l.getD q.1 0) [])))), (77, .c (.int .i64 ((t.next.getD (l.getD q.1 0) []).length : Nat))), (78, .c (.int .i64 (m.1 : Nat)))]) (fun m => [(0, .own 3 (.ints .i64 (natsI s.1)) t.next.length), (1, .mp 184 (mapE eK (keysO (kB t s.1) (l.take q.1)))), (2, .own 3 (.ints .i64 (natsI (nxtL (tblT t) l s.1 q.1))) t.next.length), (3, .own 3 (.ints .i64 (natsI (z0y (kB t s.1) (l.take q.1)))) q.2), (4, .own 5 (.u8s (encN (kbN t s.1 (l.getD q.1 0) m.1))) m.2)]) 5 (fun m => m.1 ≤ t.nc ∧ 2 + 2 * m.1 ≤ m.2) (fun m => t.nc - m.1) ?_ ?_
      ·have hK0 : [] ++ [UInt8.ofInt ((blkF s.1 (l.getD q.1 0) : Nat) : Int), UInt8.ofInt (((blkF s.1 (l.getD q.1 0) : Nat) : Int) / 2 ^ 8)] = encN (kbN t s.1 (l.getD q.1 0) 0) := by unfold encN kbN; rfl
       refine dnS [] (fun i => if i = 4 then 6 else i) (0, cap13) ⟨Nat.zero_le _, by show 2 + 2 * 0 ≤ cap13; omega⟩ [0, 1, 2, 3, 6] ?_ ?_ ?_ ?_
       ·exact uUl_0
       ·exact uUl_0
       ·exact uUl_0
       ·exact uUl_0
      ·intro m hm
       have hm1 := hm.1
       have hm2 := hm.2
       have hkl := zhn t s.1 (l.getD q.1 0) m.1
       refine srR g0_ok fun _ hK44 => ?_; refine z1c ?_; refine s_nil ?_; apply hK44; refine seq_k fun _ hK45 => ?_; refine z05 (b := _) rfl (fun h_t79 => ?_) (fun h_t79 => ?_)
       ·try simp only [dQ, if_true, if_false, reduceIte] at h_t79
        refine z0a ?_; apply hK45; refine seq_k fun _ hK46 => ?_; refine z07 ?_
        have hm : m.1 < t.nc := by omega
        have hx := nextN hok hsl hm
        refine srR g0_ok fun _ hK48 => ?_; refine z1c ?_; refine z62 ?_; refine exA (.c (.int .i64 (((((tblT t).δ (l.getD q.1 0) m.1) : Nat) : Int)))) (as_eq (congrArg (fun v => SV.c (Cell.int IntKind.i64 v)) (by rw [← hx.2]; congr 1; omega))) ?_; refine z1c ?_; refine s_nil ?_; apply hK48; refine z72 g0_ok [(0, true), (1, true), (2, true), (3, true), (4, true), (5, true), (6, true), (7, true), (8, true), (9, true), (10, true), (11, true), (12, false), (13, false), (14, true)] rfl (by kernel_rfl) (by kernel_rfl) fun _ hK49 => ?_
        iterate 4 refine zc7 ?_
        refine zbf ?_; refine exA (.c (.int .i64 (((blkF s.1 ((tblT t).δ (l.getD q.1 0) m.1) : Nat) : Int)))) (as_eq (congrArg (fun v => SV.c (Cell.int IntKind.i64 v)) ((congrArg (fun i => (natsI s.1).getD i 0) (by omega)).trans z1l))) ?_
        iterate 4 refine zc7 ?_
        refine zbf ?_; refine exA (.c (.int .i64 (((blkF s.1 ((tblT t).δ (l.getD q.1 0) m.1) : Nat) : Int)))) (as_eq (congrArg (fun v => SV.c (Cell.int IntKind.i64 v)) ((congrArg (fun i => (natsI s.1).getD i 0) (by omega)).trans z1l))) ?_; refine zbf ?_; refine exA (.c (.int .i64 (((blkF s.1 ((tblT t).δ (l.getD q.1 0) m.1) : Nat) : Int) / 2 ^ 8))) (as_eq (congrArg (fun v => SV.c (Cell.int IntKind.i64 v)) (rfl))) ?_; refine zc7 ?_; refine gXUl_6 ?_; refine zo6 ?_; intro cap13 hcap13; refine exI ?_; refine zc7 ?_; refine d_nil ?_; apply hK49; refine z09 ?_; apply hK46; refine z03 g0_ok fun _ hK50 => ?_
        iterate 2 refine z1c ?_
        refine s_nil ?_; apply hK50
        have hK1 : encN (kbN t s.1 (l.getD q.1 0) m.1) ++ ([] ++ [UInt8.ofInt ((blkF s.1 ((tblT t).δ (l.getD q.1 0) m.1) : Nat) : Int), UInt8.ofInt (((blkF s.1 ((tblT t).δ (l.getD q.1 0) m.1) : Nat) : Int) / 2 ^ 8)]) = encN (kbN t s.1 (l.getD q.1 0) (m.1 + 1)) := kbN_succ t s.1 (l.getD q.1 0) m.1
        refine dnS [] (fun i => if i = 4 then 6 else i) (m.1 + 1, cap13) ⟨⟨by show m.1 + 1 ≤ _; omega, by show 2 + 2 * (m.1 + 1) ≤ cap13; omega⟩, by show _ - (m.1 + 1) < _; omega⟩ [0, 1, 2, 3, 6] ?_ ?_ ?_ ?_
        ·exact uUl_0
        ·exact uUl_0
        ·exact uUl_0
        ·exact uUl_0
       ·try simp only [dQ, if_true, if_false, reduceIte] at h_t79
        refine z0m ?_; refine z02 ?_; refine z02 ?_; refine z0i ?_; apply hK40
        have hmn : m.1 = t.nc := by omega
        have hkl := zhn t s.1 (l.getD q.1 0) m.1
        rw [hmn]; rw [hmn] at hkl; refine srR g0_ok fun _ hK52 => ?_
        iterate 3 refine z1c ?_
        refine z62 ?_; refine aI (ztv _) (And.intro (fun jj v hj => ?_) (fun hno => ?_))
        ·obtain ⟨rfl, hkin⟩ := ztu hb.few hj
         refine exI ?_
         iterate 5 refine z1c ?_
         refine s_nil ?_; apply hK52; refine seq_k fun _ hK53 => ?_; refine srR g0_ok fun _ hK55 => ?_
         iterate 2 refine z1c ?_
         refine s_nil ?_; apply hK55; refine z05 (b := _) rfl (fun h_t105 => ?_) (fun _ => ?_)
         ·exfalso; cases h_t105
         refine z0a ?_; apply hK53; refine z03 g0_ok fun _ hK56 => ?_
         iterate 4 refine z1c ?_
         refine zma ?_; refine s_nil ?_; apply hK56; refine z09 ?_; apply hK33; refine z03 g0_ok fun _ hK57 => ?_
         iterate 2 refine z1c ?_
         refine s_nil ?_; apply hK57
         have hq := ref_yes t s.1 hjl hkin
         obtain ⟨hq1, hq2, hq3⟩ := hq
         have hX1 : keysO (kB t s.1) (l.take q.1) = keysO (kB t s.1) (l.take (q.1 + 1)) := hq1.symm
         have hX2 : (natsI (nxtL (tblT t) l s.1 q.1)).set (0 + (((l.getD q.1 0) : Nat) : Int).toNat * 1) ((idxK (keysO (kB t s.1) (l.take q.1)) (kB t s.1 (l.getD q.1 0)) : Nat) : Int) = natsI (nxtL (tblT t) l s.1 (q.1 + 1)) := by
          rw [← hq3, zej, show 0 + (((l.getD q.1 0) : Nat) : Int).toNat * 1 = (l.getD q.1 0) by omega, zjn hjl]
         have hX3 : natsI (z0y (kB t s.1) (l.take q.1)) = natsI (z0y (kB t s.1) (l.take (q.1 + 1))) := by rw [hq2]
         have hX4 : mapE eK (keysO (kB t s.1) (l.take q.1)) = mapE eK (keysO (kB t s.1) (l.take (q.1 + 1))) := by rw [hq1]
         have hL0 : (z0y (kB t s.1) (l.take q.1)).length = (z0y (kB t s.1) (l.take (q.1 + 1))).length := by rw [hq2]
         have hL1 : (z0y (kB t s.1) (l.take (q.1 + 1))).length ≤ q.2 := by rw [hq2]; exact hqc
         refine dnS [] id (q.1 + 1, q.2) ⟨⟨by show q.1 + 1 ≤ _; omega, hL1⟩, by show _ - (q.1 + 1) < _; omega⟩ [0, 1, 2, 3] ?_ ?_ ?_ ?_
         ·exact uUl_0
         ·exact uUl_0
         ·exact uUl_0
         ·exact uUl_0
        ·have hkno := map_no hno
         refine exI ?_
         iterate 5 refine z1c ?_
         refine s_nil ?_; apply hK52; refine seq_k fun _ hK58 => ?_; refine srR g0_ok fun _ hK60 => ?_
         iterate 2 refine z1c ?_
         refine s_nil ?_; apply hK60; refine z05 (b := _) rfl (fun _ => ?_) (fun h_t105 => ?_)
         rotate_left 1
         ·exfalso; cases h_t105
         refine srR g0_ok fun _ hK62 => ?_
         iterate 3 refine z1c ?_
         refine s_nil ?_; apply hK62; refine srR g0_ok fun _ hK64 => ?_
         iterate 4 refine z1c ?_
         refine sX0 ?_; refine aI rfl (And.intro (ztv _) (And.intro (fun jj u hj => absurd (ztu hb.few hj).2 hkno) (fun hno2 => ?_))); refine exI ?_; refine s_nil ?_; apply hK64; refine z03 g0_ok fun _ hK65 => ?_
         iterate 3 refine z1c ?_
         refine z62 ?_; intro cap3 hcap3; refine exI ?_; refine z1c ?_; refine s_nil ?_; apply hK65; apply hK58; refine z03 g0_ok fun _ hK66 => ?_
         iterate 4 refine z1c ?_
         refine zma ?_; refine s_nil ?_; apply hK66; refine z09 ?_; apply hK33; refine z03 g0_ok fun _ hK67 => ?_
         iterate 2 refine z1c ?_
         refine s_nil ?_; apply hK67
         have hq := ref_no t s.1 hjl hkno
         obtain ⟨hq1, hq2, hq3⟩ := hq
         have hX2 : (natsI (nxtL (tblT t) l s.1 q.1)).set (0 + (((l.getD q.1 0) : Nat) : Int).toNat * 1) (((z0y (kB t s.1) (l.take q.1)).length : Nat) : Int) = natsI (nxtL (tblT t) l s.1 (q.1 + 1)) := by
          rw [← hq3, zej, show 0 + (((l.getD q.1 0) : Nat) : Int).toNat * 1 = (l.getD q.1 0) by omega, zjn hjl]
         have hX3 : natsI (z0y (kB t s.1) (l.take q.1)) ++ ([] ++ [(((l.getD q.1 0) : Nat) : Int)]) = natsI (z0y (kB t s.1) (l.take (q.1 + 1))) := by rw [hq2, List.nil_append, z56]
         have hkl : (z0y (kB t s.1) (l.take q.1)).length = (keysO (kB t s.1) (l.take q.1)).length := z28 _
         have hX4 : mapE eK (keysO (kB t s.1) (l.take q.1)) ++ [(.c (.str (encN (kbN t s.1 (l.getD q.1 0) t.nc))), .c (.int .i64 (((z0y (kB t s.1) (l.take q.1)).length : Nat) : Int)))] = mapE eK (keysO (kB t s.1) (l.take (q.1 + 1))) := by rw [hq1, hkl, ← z82, ← zho]
         have hL0 : (z0y (kB t s.1) (l.take q.1)).length + 1 = (z0y (kB t s.1) (l.take (q.1 + 1))).length := by rw [hq2, List.length_append]; rfl
         have hL1 : (z0y (kB t s.1) (l.take (q.1 + 1))).length ≤ cap3 := by rw [← hL0]; omega
         refine dnS [] (fun i => if i = 3 then 6 else i) (q.1 + 1, cap3) ⟨⟨by show q.1 + 1 ≤ _; omega, hL1⟩, by show _ - (q.1 + 1) < _; omega⟩ [0, 1, 2, 6] ?_ ?_ ?_ ?_
         ·exact uUl_0
         ·exact uUl_0
         ·exact uUl_0
         ·exact uUl_0
     ·try simp only [dQ, if_true, if_false, reduceIte] at h_t46
      refine z0m ?_; refine z02 ?_; refine z02 ?_; refine z0i ?_; apply hK27; refine seq_k fun _ hK68 => ?_
      have hql : q.1 = l.length := by omega
      have hfl : (z0y (kB t s.1) (l.take q.1)).length = z3q (tblT t) l (blkF s.1) := by rw [hql, List.take_length]; exact z28 _
      refine srR g0_ok fun _ hK70 => ?_
      iterate 4 refine z1c ?_
      refine s_nil ?_; apply hK70; refine z05 (b := _) rfl (fun h_t124 => ?_) (fun h_t124 => ?_)
      ·try simp only [dQ, if_true, if_false, reduceIte] at h_t124
       refine srR g0_ok fun _ hK72 => ?_
       iterate 4 refine z1c ?_
       refine s_nil ?_; apply hK72
       have hce : z3q (tblT t) l (blkF s.1) = s.2 := by omega
       have hout := znm hb hce hl.pos hl.lt hl.len hl.cl hok.byte
       have hfe : (z0y (kB t s.1) (l.take q.1)) = z0y (kB t s.1) l := by rw [hql, List.take_length]
       rw [hfe, show nxtL (tblT t) l s.1 q.1 = nxtL (tblT t) l s.1 l.length by rw [hql]]
       have hol := hout.len
       obtain ⟨hf1, hf2⟩ := ref_fin ht hl hb hce; rw [hf1, hf2]
       have hfl2 := z9c t l
       refine z0e (z0f g0_ok (fun _ _ h => h) ((List.forall_mem_cons.2 ⟨trivial, (List.forall_mem_cons.2 ⟨trivial, fun _ h => (by cases h)⟩)⟩)) [2, 3] [.tmp 4, .tmp 5] rfl ?_)
       all_goals exact uUl_0
      ·try simp only [dQ, if_true, if_false, reduceIte] at h_t124
       refine z0a ?_; apply hK68; refine z03 g0_ok fun _ hK73 => ?_
       iterate 5 refine z1c ?_
       refine s_nil ?_; apply hK73; refine z09 ?_
       have hne : z3q (tblT t) l (blkF s.1) ≠ s.2 := by intro e; apply h_t124; rw [hfl, e]
       have hnx := znl hb hl.lt hl.len hl.cl hok.byte
       have hcp := zjo (t := tblT t) (l := l) (bl := s.1) hl.pos
       have hcl2 := count_le (t := tblT t) (l := l) (bl := s.1)
       have hcm : s.2 ≤ z3q (tblT t) l (blkF s.1) := by
        rcases Nat.eq_zero_or_pos s.2 with e | e
        ·omega
        ·exact zsb hb e
       rw [hfl, hql]; refine dnS [] (fun _ => 2) (nxtL (tblT t) l s.1 l.length, z3q (tblT t) l (blkF s.1)) ⟨⟨hnx, hcl2⟩, by show _ + 1 - z3q (tblT t) l (blkF s.1) < _; omega⟩ [2] ?_ ?_ ?_ ?_
       ·exact uUl_0
       ·exact uUl_0
       ·exact uUl_0
       ·exact uUl_0


end Go.Proofs.YtppmnaoollkboaaDoor
