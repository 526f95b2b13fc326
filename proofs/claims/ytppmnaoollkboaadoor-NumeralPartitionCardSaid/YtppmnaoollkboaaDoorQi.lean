/- Part 9 of what the claims of this seat share: the walk's engine, the functions' contracts, plain mathematics (Uta, Utd, Ute). -/
import Derived.Test.YtppmnaoollkboaaDoorQh
import Derived.Test.YtppmnaoollkboaaDoorQd
namespace Go.Proofs.YtppmnaoollkboaaDoor
set_option linter.all false
open Go.Ab Go.RowKit

theorem qUta0 {a : Prop} (h : a := by first | exact vcA | (simp [-List.reduceReplicate] <;> omega) | exact vTa | exact vTb | exact ⟨by omega, by omega, trivial⟩ | (show _ < (jL _ _ _).length; rw [z0z]; omega) | exact vcB) : a := h
theorem qUta1 {a : Prop} (h : a := by first | exact vcA | (simp [-List.reduceReplicate] <;> omega) | (show 0 + 256 ≤ (jL _ _ _).length; rw [z0z]; decide) | exact z0z _ _ _ | exact (z0z _ _ _).symm | (show 256 = (jL _ _ _).length; rw [z0z]) | (show 0 < (jL _ _ _).length; rw [z0z]; decide) | (show 0 + (jL _ _ _).length ≤ _; rw [z0z]; simp) | (show (List.replicate 256 (0 : Int)).length = (jL _ _ _).length; rw [z0z, List.length_replicate]) | exact vcB) : a := h
theorem z5c {a : Prop} (h : a := by
    repeat' (first | assumption | exact z84 | exact z5t | exact z2u z63 _ _ | exact z12 z63 _ | exact pT  | exact trivial | refine aI ?_ ?_ | exact cC0 | refine low_cons' ?_ ?_ | exact cC1 | fail)
    all_goals first | omega | exact hL0 | exact z84 | exact z5t | exact hM0 | exact z2u z63 _ _ | exact z12 z63 _ | (rw [hX4]; exact z12 z63 _) | (show (_ : List Int) = _; first | assumption | rfl) | (show (_ : List (SV × SV)) = _; first | assumption | rfl) | (show (0 : Nat) < (z01 _ _ _ _).length; rw [z00 hcl]; decide) | (simp [-List.reduceReplicate]; done) | (simp [-List.reduceReplicate] <;> omega) | skip) : a := h
theorem zeu {a b : Prop} (kZ : b) (h : HidB b → a := by intro kZ; (repeat first | refine aI qUta0 ?_ | refine z06 qUta0 ?_ | refine z04 qUta0 ?_ | refine z0k qUta0 ?_ | refine z0b ?_); exact kZ.out) : a := h ⟨kZ⟩
theorem z2d {a b : Prop} (kZ : b) (h : HidB b → a := by intro kZ; refine sX ?_; refine zeu ?_; refine exI ?_; exact kZ.out) : a := h ⟨kZ⟩
theorem zme {a b : Prop} (kZ : b) (h : HidB b → a := by intro kZ; refine dX ?_; refine zeu ?_; refine exI ?_; exact kZ.out) : a := h ⟨kZ⟩
theorem gXUta_3 {a b : Prop} (kZ : b) (h : HidB b → a := by intro kZ; refine gX ?_; refine zeu ?_; refine exI ?_; exact kZ.out) : a := h ⟨kZ⟩
theorem gX0Uta_4 {a b : Prop} (kZ : b) (h : HidB b → a := by intro kZ; refine gX0 ?_; refine zeu ?_; refine exI ?_; exact kZ.out) : a := h ⟨kZ⟩
theorem zob {a b : Prop} (kZ : b) (h : HidB b → a := by intro kZ; refine sX0 ?_; refine zeu ?_; refine exI ?_; exact kZ.out) : a := h ⟨kZ⟩
theorem DUta_6 {a b : Prop} (kZ : b) (h : HidB b → a := by intro kZ; (repeat first | refine aI qUta1 ?_ | refine z06 qUta1 ?_ | refine z04 qUta1 ?_ | refine z0k qUta1 ?_ | refine z0b ?_); exact kZ.out) : a := h ⟨kZ⟩
theorem zuh {a b : Prop} (kZ : b) (h : HidB b → a := by intro kZ; refine sX ?_; refine DUta_6 ?_; refine exI ?_; exact kZ.out) : a := h ⟨kZ⟩
theorem sX0Uta_8 {a b : Prop} (kZ : b) (h : HidB b → a := by intro kZ; refine sX0 ?_; refine DUta_6 ?_; refine exI ?_; exact kZ.out) : a := h ⟨kZ⟩
theorem zoc {a b : Prop} (kZ : b) (h : HidB b → a := by intro kZ; refine dX ?_; refine zeu ?_; exact kZ.out) : a := h ⟨kZ⟩
theorem zad {a b : Prop} (kZ : b) (h : HidB b → a := by intro kZ; refine sX ?_; refine zeu ?_; exact kZ.out) : a := h ⟨kZ⟩

open Go.Aut
def cN (t : Tab) : Nat → Nat := (tblT t).cell
abbrev jk (a b : Tab) : Nat → Nat × Nat := jkey (cN a) (cN b)
def eP (p : Nat × Nat) : SV := .agg (.ints .i64 [(p.1 : Int), (p.2 : Int)])
theorem z63 (p : Nat × Nat) : (eP p).flat = true := rfl
theorem eP_inj {p q : Nat × Nat} (h : eP p = eP q) : p = q := by
  unfold eP at h
  injection h with h
  injection h with _ h
  simp only [List.cons.injEq, Int.natCast_inj, and_true] at h
  exact Prod.ext h.1 h.2
theorem zui {p : Nat × Nat} (h : p.1 ≤ 65536 ∧ p.2 ≤ 65536) : keyS ty 160 (eP p) := by
  refine ⟨rfl, rfl, rfl, fun x hx => ?_⟩
  rcases List.mem_cons.1 hx with rfl | hx
  · exact z60.mpr ⟨by omega, by omega⟩
  · rw [List.mem_singleton.1 hx]; exact z60.mpr ⟨by omega, by omega⟩
theorem zhv {a b : Tab} (ha : a.fit) (hb : b.fit) {x : Nat} (hx : x < 256) : (jk a b x).1 ≤ 65536 ∧ (jk a b x).2 ≤ 65536 := by
  have h1 := (cellN ha.1 hx).1
  have h2 := (cellN hb.1 hx).1
  have h3 := ha.2.2
  have h4 := hb.2.2
  exact ⟨by show cN a x ≤ _; unfold cN; omega, by show cN b x ≤ _; unfold cN; omega⟩
abbrev jK (a b : Tab) (x : Nat) : List (Nat × Nat) := keysO (jk a b) (List.range x)
theorem zuj {a b : Tab} (ha : a.fit) (hb : b.fit) {x : Nat} (hx : x ≤ 256) : ∀ p ∈ mapE eP (jK a b x), keyS ty 160 p.1 := fun p hp => by
  obtain ⟨k, i, hk, rfl⟩ := z7c hp; obtain ⟨y, hy, rfl⟩ := (z1k _ k).1 hk; exact zui (zhv ha hb (by have := List.mem_range.1 hy; omega))
theorem zod {a b : Tab} {x j : Nat} {q : Nat × Nat} {v : SV} (hj : (mapE eP (jK a b x))[j]? = some (eP q, v)) : v = .c (.int .i64 ((idxK (jK a b x) q : Nat) : Int)) ∧ q ∈ jK a b x := by
  obtain ⟨k, hk, e, rfl⟩ := z8o hj
  have e2 := eP_inj e
  subst e2
  have e4 : idxK (jK a b x) k = j := zha (z3n _) hk
  exact ⟨by rw [e4], List.mem_of_getElem? hk⟩
theorem jmap_no {a b : Tab} {x : Nat} {q : Nat × Nat} (hn : ∀ p ∈ mapE eP (jK a b x), p.1 ≠ eP q) : q ∉ jK a b x := zei hn
abbrev jR (a b : Tab) (x : Nat) : List Nat := z0y (jk a b) (List.range x)
def jL (a b : Tab) (k : Nat) : List Int := (List.range 256).map fun x => if x < k then ((jcell (cN a) (cN b) x : Nat) : Int) else 0
theorem z0z (a b : Tab) (k : Nat) : (jL a b k).length = 256 := by simp [jL]
theorem jL_zero (a b : Tab) : List.replicate 256 (0 : Int) = jL a b 0 := by simp [jL, List.map_const']
theorem jL_set {a b : Tab} {k : Nat} (h : k < 256) : (jL a b k).set k ((jcell (cN a) (cN b) k : Nat) : Int) = jL a b (k + 1) := by
  refine z1z 0 (by rw [List.length_set, z0z, z0z]) fun i hi => ?_
  have hi : i < 256 := by rw [List.length_set, z0z] at hi; exact hi
  rw [z1b (by rw [z0z]; exact hi), jL, jL, z0h hi, z0h hi]
  by_cases e : k = i
  · subst e; rw [if_pos rfl, if_pos (by omega)]
  · rw [if_neg e]
    by_cases h2 : i < k
    · rw [if_pos h2, if_pos (by omega)]
    · rw [if_neg h2, if_neg (by omega)]
theorem zoe (a b : Tab) {x : Nat} (hx : x < 256) : jcell (cN a) (cN b) x = idxK (jK a b (x + 1)) (jk a b x) := by
  have e : allB = List.range (x + 1) ++ (List.range' (x + 1) (256 - (x + 1))) := by
    have := List.range'_append (s := 0) (m := x + 1) (n := 256 - (x + 1)) (step := 1)
    rw [Nat.one_mul, Nat.zero_add, show x + 1 + (256 - (x + 1)) = 256 by omega] at this; rw [allB, List.range_eq_range', List.range_eq_range', this]
  obtain ⟨r, hr⟩ := z5p (key := jk a b) (List.range (x + 1)) (List.range' (x + 1) (256 - (x + 1)))
  have hin : jk a b x ∈ jK a b (x + 1) := (z1k _ _).2 ⟨x, List.mem_range.2 (by omega), rfl⟩
  rw [jcell, zln, e, hr, z77 hin]
theorem j_yes {a b : Tab} {x : Nat} (hx : x < 256) (h : jk a b x ∈ jK a b x) : jK a b (x + 1) = jK a b x ∧ jR a b (x + 1) = jR a b x ∧ jcell (cN a) (cN b) x = idxK (jK a b x) (jk a b x) := by
  have e : jK a b (x + 1) = jK a b x := by rw [jK, List.range_succ, z2p, addK, if_pos h]
  refine ⟨e, ?_, by rw [zoe a b hx, e]⟩; rw [jR, List.range_succ, z2k, if_pos h]
theorem j_no {a b : Tab} {x : Nat} (hx : x < 256) (h : jk a b x ∉ jK a b x) : jK a b (x + 1) = jK a b x ++ [jk a b x] ∧ jR a b (x + 1) = jR a b x ++ [x] ∧ jcell (cN a) (cN b) x = (jR a b x).length := by
  have e : jK a b (x + 1) = jK a b x ++ [jk a b x] := by rw [jK, List.range_succ, z2p, addK, if_neg h]
  refine ⟨e, ?_, by rw [zoe a b hx, e, z78 h, z28]⟩; rw [jR, List.range_succ, z2k, if_neg h]
theorem jR_len (a b : Tab) (x : Nat) : (jR a b x).length ≤ x := by
  rw [z28]; exact Nat.le_trans (z2x _) (by rw [List.length_range]; exact Nat.le_refl _)
theorem zmf (a b : Tab) : jR a b 0 = [] := rfl
theorem jK_zero (a b : Tab) : ([] : List (SV × SV)) = mapE eP (jK a b 0) := rfl
theorem jR_all (a b : Tab) : jR a b 256 = jrep (cN a) (cN b) := rfl
attribute [local irreducible] z0l z26 zl z01 z16 putB jL jcell jrep
def jointS : QSpec := fun vs K => ∃ a b : Tab, vs = [tabV a, tabV b] ∧ (a.fit ∧ b.fit) ∧ K (.tup [.agg (.ints .i64 (jL a b 256)), .c (.ds (jrep (cN a) (cN b)).length (.ints .i64 (natsI (jrep (cN a) (cN b)))))])
set_option maxHeartbeats 1000000 in
set_option maxRecDepth 4000 in
theorem joint_ok : z24 Tryd.prog gl 76 jointS := by
 refine z1x (Γ := g0) (N := 49) Tryd.func76 rfl rfl fun vs K h => ?_; obtain ⟨a, b, rfl, ⟨ha, hb⟩, h⟩ := h; refine ⟨_, h, (List.forall_mem_cons.2 ⟨trivial, (List.forall_mem_cons.2 ⟨trivial, fun _ h => (by cases h)⟩)⟩), by simp, fun w I => ?_⟩; refine srR g0_ok fun _ hK2 => ?_
 iterate 4 refine z2d ?_
 refine s_nil ?_; apply hK2; refine leW [0, 1] (fun _ => 2) [(2, .c (.dp (tabC a) 0)), (3, .c (.dp (tabC b) 0)), (4, .c (.ptr 0 0))] [(0, .own 85 (.ints .i64 (List.replicate 256 0)) 256)] 1 [2] ?_ ?_ ?_ ?_ ?_
 ·repeat' (first | assumption | exact z84 | exact z5t | exact z2u z63 _ _ | exact z12 z63 _ | exact pT  | exact trivial | refine aI ?_ ?_ | exact cC0 | refine low_cons' ?_ ?_ | exact cC1 | fail)
  all_goals first | omega | exact hL0 | exact z84 | exact z5t | exact hM0 | exact z2u z63 _ _ | exact z12 z63 _ | (rw [hX4]; exact z12 z63 _) | (show (_ : List Int) = _; first | assumption | rfl) | (show (_ : List (SV × SV)) = _; first | assumption | rfl) | (show (0 : Nat) < (z01 _ _ _ _).length; (first | rw [z00 ha.1.clen] | rw [z00 hb.1.clen]); decide) | (simp [-List.reduceReplicate]; done) | (simp [-List.reduceReplicate] <;> omega) | skip
 ·exact z5c
 ·exact z5c
 ·exact z5c
 refine srR g0_ok fun _ hK4 => ?_; refine z2d ?_; refine s_nil ?_; apply hK4; refine srR g0_ok fun _ hK6 => ?_; refine z2d ?_; refine s_nil ?_; apply hK6; refine srR g0_ok fun _ hK8 => ?_
 iterate 2 refine z2d ?_
 refine s_nil ?_; apply hK8; refine seq_k fun _ hK9 => ?_; refine srR g0_ok fun _ hK11 => ?_; refine z2d ?_; refine s_nil ?_; apply hK11; refine z07 ?_; refine ziz 7 3 (.ints .i64 []) rfl rfl trivial ?_; refine z0p (α := Nat × Nat) (fun s => [(2, .c (.dp (tabC a) 0)), (3, .c (.dp (tabC b) 0)), (4, .c (.ptr 0 0)), (6, .c (.ptr 1 0)), (7, .c (.slice 3 0 (jR a b s.1).length s.2)), (8, .c (.map 2)), (14, .c (.int .i64 (s.1 : Nat)))]) (fun s => [(0, .own 85 (.ints .i64 (List.replicate 256 0)) 256), (1, .own 85 (.ints .i64 (jL a b s.1)) 256), (2, .mp 159 (mapE eP (jK a b s.1))), (3, .own 3 (.ints .i64 (natsI (jR a b s.1))) s.2)]) 4 (fun s => s.1 ≤ 256 ∧ (jR a b s.1).length ≤ s.2) (fun s => 256 - s.1) ?_ ?_
 ·have hX1 := jL_zero a b
  have hM0 := jK_zero a b
  have hN0 : ([] : List Int) = natsI (jR a b 0) := by rw [zmf]; rfl
  have hL0 : 0 = (jR a b 0).length := by rw [zmf]; rfl
  refine dnS [] id (0, 0) ⟨Nat.zero_le _, by show (jR a b 0).length ≤ 0; rw [zmf]; exact Nat.le_refl _⟩ [0, 1, 2, 3] ?_ ?_ ?_ ?_
  ·exact z5c
  ·exact z5c
  ·exact z5c
  ·exact z5c
 ·intro s hs
  obtain ⟨hs1, hs2⟩ := hs
  have hjl2 := jR_len a b s.1
  refine srR g0_ok fun _ hK13 => ?_; refine z2d ?_; refine s_nil ?_; apply hK13; refine seq_k fun _ hK14 => ?_; refine z05 (b := _) rfl (fun h_t15 => ?_) (fun h_t15 => ?_)
  ·try simp only [dQ, if_true, if_false, reduceIte] at h_t15
   refine z0a ?_; apply hK14; refine seq_k fun _ hK15 => ?_; refine z07 ?_
   have hx : s.1 < 256 := by omega
   refine srR g0_ok fun _ hK17 => ?_
   iterate 2 refine z2d ?_
   refine s_nil ?_; apply hK17; refine srD g0_ok [(0, true), (1, true), (2, true), (3, true), (4, true), (5, true), (6, true), (7, true), (8, true), (9, false), (10, false)] rfl (by kernel_rfl) (by kernel_rfl) fun _ hK19 => ?_
   iterate 3 refine zme ?_
   refine zoc ?_; refine exA (.c (.int .i64 ((cN a s.1 : Nat) : Int))) (as_eq (congrArg SV.c ((zg6 ha.1.clen (by first | omega | (simp; done)) hx).trans (congrArg (Cell.int IntKind.i64) (cellN ha.1 hx).2)))) ?_
   iterate 3 refine zme ?_
   refine zoc ?_; refine exA (.c (.int .i64 ((cN b s.1 : Nat) : Int))) (as_eq (congrArg SV.c ((zg6 hb.1.clen (by first | omega | (simp; done)) hx).trans (congrArg (Cell.int IntKind.i64) (cellN hb.1 hx).2)))) ?_; refine zme ?_; refine gXUta_3 ?_; refine gX0Uta_4 ?_; refine d_nil ?_; apply hK19; refine srR g0_ok fun _ hK21 => ?_; refine z2d ?_; refine zad ?_; refine exA (eP (jk a b s.1)) (SV.as_refl _) ?_; refine zad ?_; refine aI (zui (zhv ha hb hx)) (And.intro (zuj ha hb hs1) (And.intro (fun jj v hj => ?_) (fun hno => ?_)))
   ·obtain ⟨rfl, hin⟩ := zod hj
    refine exI ?_
    iterate 5 refine z2d ?_
    refine s_nil ?_; apply hK21; refine seq_k fun _ hK22 => ?_; refine srR g0_ok fun _ hK24 => ?_
    iterate 2 refine z2d ?_
    refine s_nil ?_; apply hK24; refine z05 (b := _) rfl (fun h_t33 => ?_) (fun _ => ?_)
    ·exfalso; cases h_t33
    refine z0a ?_; apply hK22; refine z03 g0_ok fun _ hK25 => ?_
    iterate 3 refine z2d ?_
    refine zob ?_; refine s_nil ?_; apply hK25; refine z09 ?_; apply hK15; refine z03 g0_ok fun _ hK26 => ?_
    iterate 2 refine z2d ?_
    refine s_nil ?_; apply hK26; obtain ⟨j1, j2, j3⟩ := j_yes hx hin
    have hX1 : (jL a b s.1).set (0 + ((s.1 : Nat) : Int).toNat * 1) (((idxK (jK a b s.1) (jk a b s.1) : Nat) : Int)) = jL a b (s.1 + 1) := by rw [← j3, show 0 + ((s.1 : Nat) : Int).toNat * 1 = s.1 by omega]; exact jL_set hx
    have hX5 : mapE eP (jK a b s.1) = mapE eP (jK a b (s.1 + 1)) := by rw [j1]
    have hX6 : natsI (jR a b s.1) = natsI (jR a b (s.1 + 1)) := by rw [j2]
    have hL0 : (jR a b s.1).length = (jR a b (s.1 + 1)).length := by rw [j2]
    refine dnS [] id (s.1 + 1, s.2) ⟨⟨by show s.1 + 1 ≤ _; omega, (by show (jR a b (s.1 + 1)).length ≤ s.2; omega)⟩, by show _ - (s.1 + 1) < _; omega⟩ [0, 1, 2, 3] ?_ ?_ ?_ ?_
    ·exact z5c
    ·exact z5c
    ·exact z5c
    ·exact z5c
   ·have hnin := jmap_no hno
    refine exI ?_
    iterate 5 refine z2d ?_
    refine s_nil ?_; apply hK21; refine seq_k fun _ hK27 => ?_; refine srR g0_ok fun _ hK29 => ?_
    iterate 2 refine z2d ?_
    refine s_nil ?_; apply hK29; refine z05 (b := _) rfl (fun _ => ?_) (fun h_t33 => ?_)
    rotate_left 1
    ·exfalso; cases h_t33
    refine srR g0_ok fun _ hK31 => ?_
    iterate 3 refine z2d ?_
    refine s_nil ?_; apply hK31; refine srR g0_ok fun _ hK33 => ?_; refine z2d ?_; refine zad ?_; refine exA (eP (jk a b s.1)) (SV.as_refl _) ?_; refine z2d ?_; refine sX0 ?_; refine aI (zui (zhv ha hb hx)) (And.intro (zuj ha hb hs1) (And.intro (fun jj u hj => absurd (zod hj).2 hnin) (fun hno2 => ?_))); refine exI ?_; refine s_nil ?_; apply hK33; refine z03 g0_ok fun _ hK34 => ?_
    iterate 3 refine z2d ?_
    refine zad ?_; intro cap3 hcap3; refine exI ?_; refine z2d ?_; refine s_nil ?_; apply hK34; apply hK27; refine z03 g0_ok fun _ hK35 => ?_
    iterate 3 refine z2d ?_
    refine zob ?_; refine s_nil ?_; apply hK35; refine z09 ?_; apply hK15; refine z03 g0_ok fun _ hK36 => ?_
    iterate 2 refine z2d ?_
    refine s_nil ?_; apply hK36; obtain ⟨j1, j2, j3⟩ := j_no hx hnin
    have hX1 : (jL a b s.1).set (0 + ((s.1 : Nat) : Int).toNat * 1) ((((jR a b s.1).length : Nat) : Int)) = jL a b (s.1 + 1) := by rw [← j3, show 0 + ((s.1 : Nat) : Int).toNat * 1 = s.1 by omega]; exact jL_set hx
    have hkl : (jR a b s.1).length = (jK a b s.1).length := z28 _
    have hX4 : mapE eP (jK a b s.1) ++ [(eP (jk a b s.1), .c (.int .i64 (((jR a b s.1).length : Nat) : Int)))] = mapE eP (jK a b (s.1 + 1)) := by rw [j1, hkl, ← z82]
    have hX6 : natsI (jR a b s.1) ++ ([] ++ [((s.1 : Nat) : Int)]) = natsI (jR a b (s.1 + 1)) := by rw [j2, List.nil_append, z56]
    have hL0 : (jR a b s.1).length + 1 = (jR a b (s.1 + 1)).length := by rw [j2, List.length_append]; rfl
    refine dnS [] (fun i => if i = 3 then 6 else i) (s.1 + 1, cap3) ⟨⟨by show s.1 + 1 ≤ _; omega, (by show (jR a b (s.1 + 1)).length ≤ cap3; omega)⟩, by show _ - (s.1 + 1) < _; omega⟩ [0, 1, 2, 6] ?_ ?_ ?_ ?_
    ·exact z5c
    ·exact z5c
    ·exact z5c
    ·exact z5c
  ·try simp only [dQ, if_true, if_false, reduceIte] at h_t15
   refine z0m ?_; refine z02 ?_; refine z02 ?_; refine z0i ?_; apply hK9
   have hse : s.1 = 256 := by omega
   rw [hse]
   have hjl := z0z a b 256
   have hjr : jR a b 256 = jrep (cN a) (cN b) := jR_all a b
   rw [hjr]; refine srR g0_ok fun _ hK38 => ?_
   iterate 2 refine zuh ?_
   refine sX0Uta_8 ?_; refine zuh ?_; refine s_nil ?_; apply hK38; refine z0e (z0f g0_ok (fun _ _ h => h) ((List.forall_mem_cons.2 ⟨trivial, (List.forall_mem_cons.2 ⟨trivial, fun _ h => (by cases h)⟩)⟩)) [3] [.cell 4 85, .tmp 5] rfl ?_)
   repeat first | refine aI (by first | exact trivial | rfl | exact ⟨rfl, rfl⟩ | exact Nat.le_refl _ | (show 0 + 256 * 1 ≤ (jL a b 256).length; rw [z0z]; decide) | decide) ?_ | refine z06 (by show (jL a b 256).length = 256 * 1; rw [z0z]) ?_
   clear hjl hjr hs1 hs2 hjl2
   repeat' (first | exact trivial | refine aI ?_ ?_)
   all_goals first | exact List.mem_singleton.2 rfl | exact Nat.one_pos | (show 0 + _ * 1 ≤ (natsI _).length; rw [z1a]; omega) | (rw [if_pos ⟨rfl, by show (natsI _).length = _ * 1; rw [z1a, Nat.mul_one]⟩]) | rfl


end Go.Proofs.YtppmnaoollkboaaDoor

namespace Go.Proofs.YtppmnaoollkboaaDoor
set_option linter.all false
open Go.Ab Go.RowKit

open Go.Aut
def bF1 (t : Tab) (s b : Nat) : Nat := (tblT t).δ s (cN t b)
abbrev oB (t : Tab) (p : Nat) : List Nat := expO (bF1 t) 256 0 p
abbrev wB (t : Tab) (p : Nat) : List (List Nat) := wrdO (bF1 t) p
theorem bF1_lt {t : Tab} (h : t.ok) {s b : Nat} (hs : s < t.next.length) (hb : b < 256) : bF1 t s b < t.next.length := (nextN h hs (cellN h hb).1).1
theorem oB_lt {t : Tab} (h : t.ok) : ∀ p, ∀ x ∈ oB t p, x < t.next.length
  | 0, x, hx => by
    have hx : x ∈ [0] := hx
    rw [List.mem_singleton.1 hx]; exact h.npos
  | p + 1, x, hx => by
    have ih := oB_lt h p
    have hx : x ∈ addG (oB t p) (bF1 t ((oB t p).getD (p / 256) default) (p % 256)) := hx
    rw [addG] at hx
    split at hx
    · exact ih x hx
    · rcases List.mem_append.1 hx with hx | hx
      · exact ih x hx
      · rw [List.mem_singleton.1 hx]
        refine bF1_lt h ?_ (Nat.mod_lt _ (by decide)); rw [List.getD_eq_getElem?_getD]
        cases e : (oB t p)[p / 256]? with
        | none => exact h.npos
        | some y => exact ih y (List.mem_of_getElem? e)
theorem oB_le {t : Tab} (h : t.ok) (p : Nat) : (oB t p).length ≤ t.next.length := z5n (z55 p) (oB_lt h p)
theorem zuk (t : Tab) (p : Nat) : (oB t p).getD 0 0 = 0 := z4o zdw
theorem wB_zero (t : Tab) (p : Nat) : (wB t p).getD 0 [] = [] := by
  have := z50 (f := bF1 t) (Nat.zero_le p) (i := 0) (by show 0 < 1; decide)
  rw [this]; rfl
theorem zhw {t : Tab} {i b : Nat} (hb : b < 256) (hi : i < (oB t (i * 256 + b)).length) : oB t (i * 256 + b + 1) = addG (oB t (i * 256 + b)) (bF1 t ((oB t (i * 256 + b)).getD i 0) b) := z9y hb (at_of (d := 0) hi)
theorem zul {t : Tab} {i b : Nat} (hb : b < 256) : wB t (i * 256 + b + 1) = if bF1 t ((oB t (i * 256 + b)).getD i 0) b ∈ oB t (i * 256 + b) then wB t (i * 256 + b) else wB t (i * 256 + b) ++ [(wB t (i * 256 + b)).getD i [] ++ [b]] := by
  obtain ⟨h1, h2⟩ := z9x (i := i) (k := b) (nc := 256) hb; rw [wB, wrdO, h1, h2]; rfl
structure FB (t : Tab) (p : Nat) (fr : List Int) (bs : List UInt8) : Prop where
  flen : fr.length = t.next.length
  blen : bs.length = t.next.length
  out : ∀ x, x < t.next.length → x ∉ oB t p → fr.getD x 0 = -1
  inn : ∀ x, x ∈ oB t p → 0 ≤ fr.getD x 0
  come : ∀ j, 0 < j → j < (oB t p).length → ∃ i b, i < j ∧ b < 256 ∧ fr.getD ((oB t p).getD j 0) 0 = (((oB t p).getD i 0 : Nat) : Int) ∧ bs.getD ((oB t p).getD j 0) 0 = UInt8.ofNat b ∧ (wB t p).getD j [] = (wB t p).getD i [] ++ [b]
theorem FB.zero {t : Tab} (h : t.ok) : FB t 0 ((List.replicate t.next.length (-1)).set 0 0) (List.replicate t.next.length 0) := by
  have hp := h.npos
  have ho : oB t 0 = [0] := rfl
  refine ⟨by simp, by simp, fun x hx hn => ?_, fun x hx => ?_, fun j h0 hj => ?_⟩
  · rw [ho] at hn
    have : ¬ 0 = x := fun e => hn (by rw [← e]; exact List.mem_cons_self)
    rw [z1b (by simpa using hx), if_neg this, zhp hx]
  · rw [ho] at hx
    rw [List.mem_singleton.1 hx, z1b (by simpa using hp), if_pos rfl]; exact Int.le_refl 0
  · rw [ho] at hj
    simp at hj; omega
theorem FB.same {t : Tab} {i b : Nat} {fr : List Int} {bs : List UInt8} (h : FB t (i * 256 + b) fr bs) (hb : b < 256) (hi : i < (oB t (i * 256 + b)).length) (hin : bF1 t ((oB t (i * 256 + b)).getD i 0) b ∈ oB t (i * 256 + b)) : FB t (i * 256 + b + 1) fr bs := by
  have e : oB t (i * 256 + b + 1) = oB t (i * 256 + b) := by rw [zhw hb hi, addG, if_pos hin]
  have e2 : wB t (i * 256 + b + 1) = wB t (i * 256 + b) := by rw [zul hb, if_pos hin]
  exact ⟨h.flen, h.blen, by rw [e]; exact h.out, by rw [e]; exact h.inn, by rw [e, e2]; exact h.come⟩
theorem FB.more {t : Tab} (ht : t.ok) {i b : Nat} {fr : List Int} {bs : List UInt8} (h : FB t (i * 256 + b) fr bs) (hb : b < 256) (hi : i < (oB t (i * 256 + b)).length) (hin : bF1 t ((oB t (i * 256 + b)).getD i 0) b ∉ oB t (i * 256 + b)) :
    FB t (i * 256 + b + 1) (fr.set (bF1 t ((oB t (i * 256 + b)).getD i 0) b) (((oB t (i * 256 + b)).getD i 0 : Nat) : Int)) (bs.set (bF1 t ((oB t (i * 256 + b)).getD i 0) b) (UInt8.ofNat b)) := by
  obtain ⟨to, hto⟩ : ∃ to, to = bF1 t ((oB t (i * 256 + b)).getD i 0) b := ⟨_, rfl⟩
  have hlt : to < t.next.length := by rw [hto]; exact bF1_lt ht (oB_lt ht _ _ (getD_mem' hi)) hb
  have e : oB t (i * 256 + b + 1) = oB t (i * 256 + b) ++ [to] := by rw [zhw hb hi, addG, if_neg hin, hto]
  have e2 : wB t (i * 256 + b + 1) = wB t (i * 256 + b) ++ [(wB t (i * 256 + b)).getD i [] ++ [b]] := by rw [zul hb, if_neg hin]
  have hwl : (wB t (i * 256 + b)).length = (oB t (i * 256 + b)).length := z8l _
  rw [← hto] at hin ⊢; refine ⟨by rw [List.length_set]; exact h.flen, by rw [List.length_set]; exact h.blen, fun x hx hn => ?_, fun x hx => ?_, fun j h0 hj => ?_⟩
  · rw [e] at hn
    have hne : ¬ to = x := fun e' => hn (by rw [← e']; simp)
    rw [z1b (by rw [h.flen]; exact hx), if_neg hne]; exact h.out x hx fun hx' => hn (List.mem_append_left _ hx')
  · rw [e] at hx
    by_cases hne : to = x
    · rw [z1b (by rw [h.flen, ← hne]; exact hlt), if_pos hne]; omega
    · rcases List.mem_append.1 hx with hx | hx
      · have hxl := oB_lt ht _ x (by exact hx)
        rw [z1b (by rw [h.flen]; exact hxl), if_neg hne]; exact h.inn x (by exact hx)
      · exact absurd (List.mem_singleton.1 hx).symm hne
  · rw [e, List.length_append] at hj
    have hj : j < (oB t (i * 256 + b)).length + 1 := hj
    rw [e, e2]
    rcases Nat.lt_or_ge j (oB t (i * 256 + b)).length with h1 | h1
    · obtain ⟨i', b', g1, g2, g3, g4, g5⟩ := h.come j h0 (by exact h1)
      have hga : ∀ k, k < (oB t (i * 256 + b)).length → ((oB t (i * 256 + b)) ++ [to]).getD k 0 = (oB t (i * 256 + b)).getD k 0 := fun k hk => by rw [List.getD_eq_getElem?_getD, List.getD_eq_getElem?_getD, List.getElem?_append_left hk]
      have hgw : ∀ k, k < (oB t (i * 256 + b)).length → (wB t (i * 256 + b) ++ [(wB t (i * 256 + b)).getD i [] ++ [b]]).getD k [] = (wB t (i * 256 + b)).getD k [] := fun k hk => by
        simp only [List.getD_eq_getElem?_getD]
        rw [List.getElem?_append_left (by rw [hwl]; exact hk)]
      have hne : ¬ to = (oB t (i * 256 + b)).getD j 0 := fun e' => hin (by rw [e']; exact getD_mem' h1)
      have hxl := oB_lt ht _ ((oB t (i * 256 + b)).getD j 0) (by exact getD_mem' h1)
      refine ⟨i', b', g1, g2, ?_, ?_, ?_⟩
      · rw [hga j h1, hga i' (by omega), z1b (by rw [h.flen]; exact hxl), if_neg hne]; exact g3
      · rw [hga j h1, z1b (by rw [h.blen]; exact hxl), if_neg hne]; exact g4
      · rw [hgw j h1, hgw i' (by omega)]; exact g5
    · have hje : j = (oB t (i * 256 + b)).length := by omega
      subst hje
      have hgl : ((oB t (i * 256 + b)) ++ [to]).getD (oB t (i * 256 + b)).length 0 = to := by rw [List.getD_eq_getElem?_getD, List.getElem?_append_right (Nat.le_refl _), Nat.sub_self]; rfl
      have hgw : (wB t (i * 256 + b) ++ [(wB t (i * 256 + b)).getD i [] ++ [b]]).getD (oB t (i * 256 + b)).length [] = (wB t (i * 256 + b)).getD i [] ++ [b] := by rw [List.getD_eq_getElem?_getD, List.getElem?_append_right (by rw [hwl]; exact Nat.le_refl _), hwl, Nat.sub_self]; rfl
      have hga : ((oB t (i * 256 + b)) ++ [to]).getD i 0 = (oB t (i * 256 + b)).getD i 0 := by rw [List.getD_eq_getElem?_getD, List.getD_eq_getElem?_getD, List.getElem?_append_left hi]
      refine ⟨i, b, hi, hb, ?_, ?_, ?_⟩
      · rw [hgl, hga, z1b (by rw [h.flen]; exact hlt), if_pos rfl]
      · rw [hgl, z1b (by rw [h.blen]; exact hlt), if_pos rfl]
      · rw [hgw, List.getD_eq_getElem?_getD (i := i) (l := wB t (i * 256 + b) ++ _), List.getElem?_append_left (by rw [hwl]; exact hi), ← List.getD_eq_getElem?_getD]
def lsB (o : Option (List Nat)) : List UInt8 := (o.getD []).map UInt8.ofNat
abbrev lsV (o : Option (List Nat)) : SV := .tup [.c (.ds (lsB o).length (.u8s (lsB o))), .c (.bool o.isSome)]
theorem z8w (o : Option (List Nat)) : SV.low 0 (lsV o) := List.forall_mem_cons.2 ⟨trivial, List.forall_mem_cons.2 ⟨trivial, fun _ h => by cases h⟩⟩
theorem zum (t : Tab) : z3e ((tblT t).lang 0) = z3e fun w => t.acc.getD (runB (bF1 t) 0 w) false := z7y fun w hw => ze5 _ w
theorem hz_of {t : Tab} {i : Nat} (ha : ∀ j, j < i → j < (oB t (j * 256)).length) : ∀ q, q < i * 256 → q / 256 < (oB t q).length := fun q hq => by
  have h1 : q / 256 < i := Nat.div_lt_of_lt_mul (by rw [Nat.mul_comm]; exact hq)
  exact Nat.lt_of_lt_of_le (ha _ h1) (z1y (Nat.div_mul_le_self q 256))
theorem ls_found {t : Tab} {i : Nat} (ha : ∀ j, j < i → j < (oB t (j * 256)).length) (hi : i < (oB t (i * 256)).length) (hno : ∀ j, j < i → t.acc.getD ((oB t (i * 256)).getD j 0) false = false) (hyes : t.acc.getD ((oB t (i * 256)).getD i 0) false = true) : z3e ((tblT t).lang 0) = some ((wB t (i * 256)).getD i []) := by
  rw [zum]; exact z5b (least_at (f := bF1 t) (acc := fun s => t.acc.getD s false) (hz_of ha) hi hno hyes)
theorem ls_none {t : Tab} {i : Nat} (ha : ∀ j, j < i → j < (oB t (j * 256)).length) (hi : (oB t (i * 256)).length ≤ i) (hno : ∀ j, j < i → t.acc.getD ((oB t (i * 256)).getD j 0) false = false) : z3e ((tblT t).lang 0) = none := by
  rw [zum]; exact z98 (zq3 (f := bF1 t) (acc := fun s => t.acc.getD s false) (hz_of ha) hi hno)

end Go.Proofs.YtppmnaoollkboaaDoor

namespace Go.Proofs.YtppmnaoollkboaaDoor
set_option linter.all false
open Go.Ab Go.RowKit

theorem qUte0 {a : Prop} (h : a := by first | exact vcA | (simp [-List.reduceReplicate] <;> omega) | exact vTh | exact ⟨by omega, by omega, trivial⟩ | (show _ < (fillN _ _ _).length; rw [z85]; omega) | (simp only [z3v, List.length_replicate]; omega) | (show _ < (List.replicate _ _).length; rw [List.length_replicate]; omega) | exact vcB) : a := h
theorem z17 {a : Prop} (h : a := by
    repeat' (first | (show (_ : List Int) = _; assumption) | (show (_ : List UInt8) = _; assumption) | exact pT  | exact trivial | refine aI ?_ ?_ | exact cC0 | refine low_cons' ?_ ?_ | exact cC1 | fail)
    all_goals first | omega | exact hL0 | (show (_ : List Int) = _; first | assumption | rfl) | (show (_ : List UInt8) = _; first | assumption | rfl) | (show (0 : Nat) < (z01 _ _ _ _).length; rw [z00 hcl]; decide) | (simp [-List.reduceReplicate]; done) | (simp [-List.reduceReplicate] <;> omega) | skip) : a := h
theorem zk5 {a b : Prop} (kZ : b) (h : HidB b → a := by intro kZ; (repeat first | refine aI qUte0 ?_ | refine z06 qUte0 ?_ | refine z04 qUte0 ?_ | refine z0k qUte0 ?_ | refine z0b ?_); exact kZ.out) : a := h ⟨kZ⟩
theorem z0t {a b : Prop} (kZ : b) (h : HidB b → a := by intro kZ; refine sX ?_; refine zk5 ?_; refine exI ?_; exact kZ.out) : a := h ⟨kZ⟩
theorem zcv {a b : Prop} (kZ : b) (h : HidB b → a := by intro kZ; refine sX0 ?_; refine zk5 ?_; refine exI ?_; exact kZ.out) : a := h ⟨kZ⟩
theorem zev {a b : Prop} (kZ : b) (h : HidB b → a := by intro kZ; refine qX ?_; refine zk5 ?_; refine exI ?_; exact kZ.out) : a := h ⟨kZ⟩
theorem z3z {a b : Prop} (kZ : b) (h : HidB b → a := by intro kZ; refine sX ?_; refine zk5 ?_; exact kZ.out) : a := h ⟨kZ⟩
theorem zcw {a b : Prop} (kZ : b) (h : HidB b → a := by intro kZ; refine qX ?_; refine zk5 ?_; exact kZ.out) : a := h ⟨kZ⟩

open Go.Aut
theorem zof (w : List Nat) : lsB (some w) = w.map UInt8.ofNat := rfl
theorem oB_ne {t : Tab} {p j : Nat} (hj : j < (oB t p).length) : (oB t p).getD j 0 = 0 ↔ j = 0 := by
  constructor
  · intro h
    have hn := z55 (f := bF1 t) (nc := 256) (b0 := 0) p
    have h0 := zuk t p
    have hp : 0 < (oB t p).length := by omega
    have e1 : (oB t p)[j] = (oB t p)[0] := by rw [z3c hj] at h; rw [z3c hp] at h0; rw [h, h0]
    have a1 := hn.idxOf_getElem j hj
    have a2 := hn.idxOf_getElem 0 hp
    rw [e1, a2] at a1; exact a1.symm
  · rintro rfl; exact zuk t p
attribute [local irreducible] z0l z26 zl z01 z16 putB fillN wrdO expO
def zun : QSpec := fun vs K => ∃ t : Tab, vs = [tabV t] ∧ t.fit ∧ K (lsV (z3e ((tblT t).lang 0)))
set_option maxHeartbeats 2000000 in
set_option maxRecDepth 4000 in
theorem zuo : z24 Tryd.prog gl 86 zun := by
 refine z1x (Γ := g0) (N := 96) Tryd.func86 rfl rfl fun vs K h => ?_; obtain ⟨t, rfl, ht, h⟩ := h; refine ⟨_, h, z8w _, by simp, fun w I => ?_⟩
 have ht0 := ht
 obtain ⟨hok, hlen, hnc⟩ := ht0
 have hcl := hok.clen
 refine srR g0_ok fun _ hK2 => ?_
 iterate 3 refine z0t ?_
 refine s_nil ?_; apply hK2; refine leW [0] id [(1, .c (.dp (tabC t) 0))] [] 0 [] z17 z17 z17 z17 ?_; refine srR g0_ok fun _ hK4 => ?_; refine z0t ?_; refine z3z ?_; refine exA (.c (.ds t.next.length (.cells (rowsC t.next)))) (as_eq (congrArg SV.c (z7k hcl))) ?_
 iterate 3 refine z0t ?_
 refine s_nil ?_; apply hK4
 have hnp := hok.npos
 refine leW [] id [(1, .c (.dp (tabC t) 0)), (4, .c (.slice 0 0 t.next.length t.next.length))] [(0, .own 3 (.ints .i64 (List.replicate t.next.length 0)) t.next.length)] 1 [0] z17 z17 z17 z17 ?_; refine srR g0_ok fun _ hK6 => ?_; refine z0t ?_; refine z3z ?_; refine exA (.c (.ds t.next.length (.cells (rowsC t.next)))) (as_eq (congrArg SV.c (z7k hcl))) ?_
 iterate 3 refine z0t ?_
 refine s_nil ?_; apply hK6; refine seq_k fun _ hK7 => ?_; refine srR g0_ok fun _ hK9 => ?_
 iterate 3 refine z0t ?_
 refine s_nil ?_; apply hK9; refine z07 ?_; refine z0p (α := Nat) (fun k => [(1, .c (.dp (tabC t) 0)), (4, .c (.slice 0 0 t.next.length t.next.length)), (5, .c (.slice 1 0 t.next.length t.next.length)), (22, .c (.int .i64 (t.next.length : Nat))), (23, .c (.int .i64 (k : Nat)))]) (fun k => [(0, .own 3 (.ints .i64 (fillN t.next.length (-1) k)) t.next.length), (1, .own 5 (.u8s (List.replicate t.next.length 0)) t.next.length)]) 2 (fun k => k ≤ t.next.length) (fun k => t.next.length - k) ?_ ?_
 ·have hX1 : List.replicate t.next.length (0 : Int) = fillN t.next.length (-1) 0 := (zbe _ _).symm
  refine dnS [] id 0 (Nat.zero_le _) [0, 1] z17 z17 z17 z17
 ·intro k hk
  refine srR g0_ok fun _ hK11 => ?_; refine z0t ?_; refine s_nil ?_; apply hK11; refine seq_k fun _ hK12 => ?_; refine z05 (b := _) rfl (fun h_t24 => ?_) (fun h_t24 => ?_)
  ·try simp only [dQ, if_true, if_false, reduceIte] at h_t24
   refine z0a ?_; apply hK12; refine seq_k fun _ hK13 => ?_; refine z07 ?_; refine srR g0_ok fun _ hK15 => ?_
   iterate 2 refine z0t ?_
   refine s_nil ?_; apply hK15
   have hkl : k < t.next.length := by omega
   refine z03 g0_ok fun _ hK16 => ?_
   iterate 3 refine z0t ?_
   refine zcv ?_; refine s_nil ?_; apply hK16; refine z09 ?_; apply hK13; refine z03 g0_ok fun _ hK17 => ?_
   iterate 2 refine z0t ?_
   refine s_nil ?_; apply hK17
   have hX1 : (fillN t.next.length (-1) k).set (0 + ((k : Nat) : Int).toNat * 1) (-1) = fillN t.next.length (-1) (k + 1) := by rw [show 0 + ((k : Nat) : Int).toNat * 1 = k by omega]; exact zen _ hkl
   refine dnS [] id (k + 1) ⟨by omega, by omega⟩ [0, 1] z17 z17 z17 z17
  ·try simp only [dQ, if_true, if_false, reduceIte] at h_t24
   refine z0m ?_; refine z02 ?_; refine z02 ?_; refine z0i ?_; apply hK7
   obtain rfl : k = t.next.length := by omega
   rw [zem]; refine srR g0_ok fun _ hK19 => ?_
   iterate 2 refine z0t ?_
   refine zcv ?_; refine s_nil ?_; apply hK19; refine srR g0_ok fun _ hK21 => ?_
   iterate 2 refine z0t ?_
   refine s_nil ?_; apply hK21; refine seq_k fun _ hK22 => ?_; refine srR g0_ok fun _ hK24 => ?_; refine z0t ?_; refine s_nil ?_; apply hK24; refine z07 ?_; refine z0p (α := Nat × Nat × List Int × List UInt8) (fun g => [(1, .c (.dp (tabC t) 0)), (4, .c (.slice 0 0 t.next.length t.next.length)), (5, .c (.slice 1 0 t.next.length t.next.length)), (7, .c (.slice 2 0 (oB t (g.1 * 256)).length g.2.1)), (8, .c (.int .i64 (g.1 : Nat)))]) (fun g => [(0, .own 3 (.ints .i64 g.2.2.1) t.next.length), (1, .own 5 (.u8s g.2.2.2) t.next.length), (2, .own 3 (.ints .i64 (natsI (oB t (g.1 * 256)))) g.2.1)]) 3 (fun g => g.1 ≤ t.next.length ∧ (∀ j, j < g.1 → j < (oB t (j * 256)).length) ∧ g.1 ≤ (oB t (g.1 * 256)).length ∧ (oB t (g.1 * 256)).length ≤ g.2.1 ∧ FB t (g.1 * 256) g.2.2.1 g.2.2.2 ∧ (∀ j, j < g.1 → t.acc.getD ((oB t (g.1 * 256)).getD j 0) false = false)) (fun g => t.next.length - g.1) ?_ ?_
   ·have hz : oB t (0 * 256) = [0] := by unfold oB; rw [Nat.zero_mul]; unfold expO; rfl
    have hL0 : 1 = (oB t (0 * 256)).length := by rw [hz]; rfl
    have hX2 : [] ++ [(0 : Int)] = natsI (oB t (0 * 256)) := by rw [hz]; rfl
    have hfz := FB.zero hok
    have hfz : FB t (0 * 256) ((List.replicate t.next.length (-1)).set 0 0) (List.replicate t.next.length 0) := by rw [Nat.zero_mul]; exact hfz
    refine dnS [] id (0, 1, (List.replicate t.next.length (-1)).set 0 0, List.replicate t.next.length 0) ⟨Nat.zero_le _, fun j hj => absurd hj (Nat.not_lt_zero j), Nat.zero_le _, (by show (oB t (0 * 256)).length ≤ 1; rw [hz]; exact Nat.le_refl _), hfz, fun j hj => absurd hj (Nat.not_lt_zero j)⟩ [0, 1, 2] ?_ ?_ ?_ ?_
    ·exact z17
    ·exact z17
    ·exact z17
    ·exact z17
   ·intro g hg
    obtain ⟨hg1, hga, hg3, hg4, hfb, hna⟩ := hg
    have hfl := hfb.flen
    have hbl := hfb.blen
    refine seq_k fun _ hK25 => ?_; refine srR g0_ok fun _ hK27 => ?_
    iterate 4 refine z0t ?_
    refine s_nil ?_; apply hK27; refine z05 (b := _) rfl (fun h_t36 => ?_) (fun h_t36 => ?_)
    ·try simp only [dQ, if_true, if_false, reduceIte] at h_t36
     refine z0a ?_; apply hK25; refine seq_k fun _ hK28 => ?_; refine z07 ?_
     have hi : g.1 < (oB t (g.1 * 256)).length := by omega
     have hsl := oB_lt hok _ _ (getD_mem' hi)
     have hal := hok.alen
     have hrw := zeh hok hsl
     have hole := oB_le hok (g.1 * 256)
     refine srR g0_ok fun _ hK30 => ?_
     iterate 3 refine z0t ?_
     refine z3z ?_; refine exA (.c (.int .i64 (((((oB t (g.1 * 256)).getD g.1 0) : Nat) : Int)))) (as_eq (congrArg (fun v => SV.c (Cell.int IntKind.i64 v)) ((congrArg (fun i => (natsI (oB t (g.1 * 256))).getD i 0) (by omega)).trans z1l))) ?_; refine z0t ?_; refine s_nil ?_; apply hK30; refine seq_k fun _ hK31 => ?_; refine srR g0_ok fun _ hK33 => ?_; refine z0t ?_; refine z3z ?_; refine exA (.c (.ds t.acc.length (.bools t.acc))) (as_eq (congrArg SV.c (zjy hcl))) ?_
     iterate 2 refine z0t ?_
     refine z3z ?_; refine exA (.c (.bool (t.acc.getD ((oB t (g.1 * 256)).getD g.1 0) false))) (as_eq (congrArg (fun v => SV.c (Cell.bool v)) (congrArg (fun i => t.acc.getD i false) (by omega)))) ?_; refine s_nil ?_; apply hK33; refine z05 (b := _) rfl (fun h_t47 => ?_) (fun h_t47 => ?_)
     ·try simp only [dQ, if_true, if_false, reduceIte] at h_t47
      refine srR g0_ok fun _ hK35 => ?_
      iterate 2 refine z0t ?_
      refine s_nil ?_; apply hK35; refine seq_k fun _ hK36 => ?_; refine z07 ?_; refine z0p (α := Nat × List Nat × Nat) (fun q => [(1, .c (.dp (tabC t) 0)), (4, .c (.slice 0 0 t.next.length t.next.length)), (5, .c (.slice 1 0 t.next.length t.next.length)), (7, .c (.slice 2 0 (oB t (g.1 * 256)).length g.2.1)), (8, .c (.int .i64 (g.1 : Nat))), (9, .c (.int .i64 (((oB t (g.1 * 256)).getD q.1 0) : Nat))), (10, .c (.slice 3 0 q.2.1.length q.2.2))]) (fun q => [(0, .own 3 (.ints .i64 g.2.2.1) t.next.length), (1, .own 5 (.u8s g.2.2.2) t.next.length), (2, .own 3 (.ints .i64 (natsI (oB t (g.1 * 256)))) g.2.1), (3, .own 5 (.u8s (q.2.1.map UInt8.ofNat)) q.2.2)]) 4 (fun q => q.1 < (oB t (g.1 * 256)).length ∧ q.2.1.length ≤ q.2.2 ∧ (wB t (g.1 * 256)).getD g.1 [] = (wB t (g.1 * 256)).getD q.1 [] ++ q.2.1 ∧ q.1 + q.2.1.length ≤ g.1) (fun q => q.1) ?_ ?_
      ·refine dnS [] id (g.1, [], 0) ⟨hi, Nat.le_refl _, by simp, Nat.le_refl _⟩ [0, 1, 2, 3] z17 z17 z17 z17
      ·intro q hq
       obtain ⟨hqj, hqc, hqw, hql⟩ := hq; refine seq_k fun _ hK37 => ?_; refine srR g0_ok fun _ hK39 => ?_
       iterate 2 refine z0t ?_
       refine s_nil ?_; apply hK39; refine z05 (b := _) rfl (fun h_t50 => ?_) (fun h_t50 => ?_)
       ·try simp only [dQ, if_true, if_false, reduceIte] at h_t50
        refine z0a ?_; apply hK37; refine seq_k fun _ hK40 => ?_; refine z07 ?_
        have hj0 : 0 < q.1 := by
         rcases Nat.eq_zero_or_pos q.1 with e | e
         ·exact absurd ((oB_ne hqj).2 e) (by simpa using h_t50)
         ·exact e
        obtain ⟨i, b, c1, c2, c3, c4, c5⟩ := hfb.come q.1 hj0 hqj
        have hsj := oB_lt hok _ _ (getD_mem' hqj)
        have hsi := oB_lt hok _ _ (getD_mem' (show i < (oB t (g.1 * 256)).length by omega))
        have hql2 : q.2.1.length ≤ 65536 := by omega
        refine z03 g0_ok fun _ hK41 => ?_
        iterate 3 refine z0t ?_
        refine z3z ?_; refine exA (.c (.u8 (UInt8.ofNat b))) (as_eq (congrArg (fun v => SV.c (Cell.u8 v)) ((congrArg (fun i => g.2.2.2.getD i 0) (by omega)).trans c4))) ?_
        iterate 2 refine z0t ?_
        refine z3z ?_; intro cap6 hcap6; refine exI ?_; refine z0t ?_; refine s_nil ?_; apply hK41; refine z09 ?_; apply hK40; refine z03 g0_ok fun _ hK42 => ?_
        iterate 3 refine z0t ?_
        refine z3z ?_; refine exA (.c (.int .i64 ((((oB t (g.1 * 256)).getD i 0 : Nat) : Int)))) (as_eq (congrArg (fun v => SV.c (Cell.int IntKind.i64 v)) ((congrArg (fun i => g.2.2.1.getD i 0) (by omega)).trans c3))) ?_; refine z0t ?_; refine s_nil ?_; apply hK42
        have hX4 : ([] ++ [UInt8.ofNat b]) ++ q.2.1.map UInt8.ofNat = (b :: q.2.1).map UInt8.ofNat := rfl
        refine dnS [] (fun i => if i = 3 then 5 else i) (i, b :: q.2.1, cap6) ⟨⟨by show i < (oB t (g.1 * 256)).length; omega, (by show (b :: q.2.1).length ≤ cap6; simp only [List.length_cons]; omega), (by rw [hqw, c5, List.append_assoc]; rfl), (by show i + (b :: q.2.1).length ≤ g.1; simp only [List.length_cons]; omega)⟩, c1⟩ [0, 1, 2, 5] ?_ ?_ ?_ ?_
        ·exact z17
        ·exact z17
        ·exact z17
        ·exact z17
       ·try simp only [dQ, if_true, if_false, reduceIte] at h_t50
        refine z0m ?_; refine z02 ?_; refine z02 ?_; refine z0i ?_; apply hK36; refine srR g0_ok fun _ hK44 => ?_
        iterate 3 refine z0t ?_
        refine s_nil ?_; apply hK44
        have hq0 : q.1 = 0 := (oB_ne hqj).1 (by simpa using h_t50)
        have hw : z3e ((tblT t).lang 0) = some q.2.1 := by
         rw [ls_found hga hi hna (by simpa using h_t47), hqw, hq0, wB_zero]; rfl
        rw [hw]; refine z0e (z0f g0_ok (fun _ _ h => h) (z8w _) [3] [.tmp 2, .tmp 3] rfl ?_)
        repeat' (first | (show (_ : List Int) = _; assumption) | (show (_ : List UInt8) = _; assumption) | exact pT  | exact trivial | refine aI ?_ ?_ | exact cC0 | refine low_cons' ?_ ?_ | exact cC1 | fail)
        all_goals first | omega | (show _ = (lsB (some _)).length; rw [zof, List.length_map]) | (rw [zof]; rw [if_pos ⟨rfl, by simp⟩]) | (rw [if_pos ⟨rfl, by simp⟩]; rfl) | exact hL0 | (show (_ : List Int) = _; first | assumption | rfl) | (show (_ : List UInt8) = _; first | assumption | rfl) | (show (0 : Nat) < (z01 _ _ _ _).length; rw [z00 hcl]; decide) | (simp [-List.reduceReplicate]; done) | (simp [-List.reduceReplicate] <;> omega) | skip
     ·try simp only [dQ, if_true, if_false, reduceIte] at h_t47
      refine z0a ?_; apply hK31; refine srR g0_ok fun _ hK46 => ?_; refine z0t ?_; refine s_nil ?_; apply hK46; refine z07 ?_; refine z0p (α := Nat × Nat × List Int × List UInt8) (fun z => [(1, .c (.dp (tabC t) 0)), (4, .c (.slice 0 0 t.next.length t.next.length)), (5, .c (.slice 1 0 t.next.length t.next.length)), (7, .c (.slice 2 0 (oB t (g.1 * 256 + z.1)).length z.2.1)), (8, .c (.int .i64 (g.1 : Nat))), (9, .c (.int .i64 (((oB t (g.1 * 256)).getD g.1 0) : Nat))), (63, .c (.int .i64 (z.1 : Nat)))]) (fun z => [(0, .own 3 (.ints .i64 z.2.2.1) t.next.length), (1, .own 5 (.u8s z.2.2.2) t.next.length), (2, .own 3 (.ints .i64 (natsI (oB t (g.1 * 256 + z.1)))) z.2.1)]) 3 (fun z => z.1 ≤ 256 ∧ (oB t (g.1 * 256 + z.1)).length ≤ z.2.1 ∧ FB t (g.1 * 256 + z.1) z.2.2.1 z.2.2.2) (fun z => 256 - z.1) ?_ ?_
      ·refine dnS [] id (0, g.2.1, g.2.2.1, g.2.2.2) ⟨Nat.zero_le _, hg4, hfb⟩ [0, 1, 2] z17 z17 z17 z17
      ·intro z hz
       obtain ⟨hz1, hz4, hzf⟩ := hz
       have hzfl := hzf.flen
       have hzbl := hzf.blen
       refine srR g0_ok fun _ hK48 => ?_; refine z0t ?_; refine s_nil ?_; apply hK48; refine seq_k fun _ hK49 => ?_; refine z05 (b := _) rfl (fun h_t64 => ?_) (fun h_t64 => ?_)
       ·try simp only [dQ, if_true, if_false, reduceIte] at h_t64
        refine z0a ?_; apply hK49; refine seq_k fun _ hK50 => ?_; refine z07 ?_
        have hb256 : z.1 < 256 := by omega
        have hiz : g.1 < (oB t (g.1 * 256 + z.1)).length := Nat.lt_of_lt_of_le hi (z1y (Nat.le_add_right _ _))
        have hgz : (oB t (g.1 * 256 + z.1)).getD g.1 0 = ((oB t (g.1 * 256)).getD g.1 0) := z6i (Nat.le_add_right _ _) hi
        have hcb := cellN hok hb256
        have hx := nextN hok hsl hcb.1
        have htl : (bF1 t ((oB t (g.1 * 256)).getD g.1 0) z.1) < t.next.length := hx.1
        have holz := oB_le hok (g.1 * 256 + z.1)
        refine srR g0_ok fun _ hK52 => ?_
        iterate 2 refine z0t ?_
        refine s_nil ?_; apply hK52; refine srQ g0_ok (by kernel_rfl) fun _ hK54 => ?_; refine zev ?_; refine zcw ?_; refine exA (.c (.ds t.next.length (.cells (rowsC t.next)))) (as_eq (congrArg SV.c (z7k hcl))) ?_
        iterate 2 refine zev ?_
        refine zcw ?_; refine exA (.c (.ds (t.next.getD ((oB t (g.1 * 256)).getD g.1 0) []).length (.ints .i64 (t.next.getD ((oB t (g.1 * 256)).getD g.1 0) [])))) (as_eq (congrArg SV.c (z8v ⟨hsl, by omega⟩))) ?_
        iterate 3 refine zev ?_
        refine zcw ?_; refine exA (.c (.int .i64 (((tblT t).cell z.1 : Nat) : Int))) (as_eq (congrArg SV.c ((zg6 hcl (by first | omega | (simp; done)) hb256).trans (congrArg (Cell.int IntKind.i64) hcb.2)))) ?_; refine zev ?_; refine zcw ?_; refine exA (.c (.int .i64 ((((bF1 t ((oB t (g.1 * 256)).getD g.1 0) z.1) : Nat) : Int)))) (as_eq (congrArg (fun v => SV.c (Cell.int IntKind.i64 v)) ((congrArg (fun i => (t.next.getD ((oB t (g.1 * 256)).getD g.1 0) []).getD i 0) (by omega)).trans hx.2))) ?_; refine zev ?_; refine q_nil ?_; apply hK54; refine srR g0_ok fun _ hK56 => ?_
        iterate 3 refine z0t ?_
        refine z3z ?_; refine exA (.c (.int .i64 (z.2.2.1.getD (bF1 t ((oB t (g.1 * 256)).getD g.1 0) z.1) 0))) (as_eq (congrArg (fun v => SV.c (Cell.int IntKind.i64 v)) (congrArg (fun i => z.2.2.1.getD i 0) (by omega)))) ?_; refine z0t ?_; refine s_nil ?_; apply hK56; refine z05 (b := _) rfl (fun h_t81 => ?_) (fun h_t81 => ?_)
        ·try simp only [dQ, if_true, if_false, reduceIte] at h_t81
         refine srR g0_ok fun _ hK58 => ?_
         iterate 6 refine z0t ?_
         refine z3z ?_; refine exA (.c (.u8 (UInt8.ofNat z.1))) (as_eq (congrArg (fun v => SV.c (Cell.u8 v)) (z80 _))) ?_; refine z0t ?_; refine zcv ?_; refine z0t ?_; refine zcv ?_; refine s_nil ?_; apply hK58; refine z03 g0_ok fun _ hK59 => ?_
         iterate 3 refine z0t ?_
         refine z3z ?_; intro cap3 hcap3; refine exI ?_; refine z0t ?_; refine s_nil ?_; apply hK59; refine z09 ?_; apply hK50; refine z03 g0_ok fun _ hK60 => ?_
         iterate 2 refine z0t ?_
         refine s_nil ?_; apply hK60
         have hnin : (bF1 t ((oB t (g.1 * 256)).getD g.1 0) z.1) ∉ (oB t (g.1 * 256 + z.1)) := fun hx => by
          have := hzf.inn _ hx
          omega
         have hmo := hzf.more hok hb256 hiz (by rw [hgz]; exact hnin)
         rw [hgz] at hmo
         have hst : (oB t (g.1 * 256 + (z.1 + 1))) = (oB t (g.1 * 256 + z.1)) ++ [(bF1 t ((oB t (g.1 * 256)).getD g.1 0) z.1)] := by
          have := zhw hb256 hiz
          rw [hgz, addG, if_neg hnin] at this; exact this
         have hX2 : natsI (oB t (g.1 * 256 + z.1)) ++ ([] ++ [(((bF1 t ((oB t (g.1 * 256)).getD g.1 0) z.1) : Nat) : Int)]) = natsI (oB t (g.1 * 256 + (z.1 + 1))) := by rw [hst, List.nil_append, z56]
         have hL0 : (oB t (g.1 * 256 + z.1)).length + 1 = (oB t (g.1 * 256 + (z.1 + 1))).length := by rw [hst, List.length_append]; rfl
         have hX5 : z.2.2.1.set (0 + (((bF1 t ((oB t (g.1 * 256)).getD g.1 0) z.1) : Nat) : Int).toNat * 1) ((((oB t (g.1 * 256)).getD g.1 0) : Nat) : Int) = z.2.2.1.set (bF1 t ((oB t (g.1 * 256)).getD g.1 0) z.1) ((((oB t (g.1 * 256)).getD g.1 0) : Nat) : Int) := by congr 1; omega
         have hX6 : z.2.2.2.set (0 + (((bF1 t ((oB t (g.1 * 256)).getD g.1 0) z.1) : Nat) : Int).toNat * 1) (UInt8.ofNat z.1) = z.2.2.2.set (bF1 t ((oB t (g.1 * 256)).getD g.1 0) z.1) (UInt8.ofNat z.1) := by congr 1; omega
         refine dnS [] (fun i => if i = 2 then 4 else i) (z.1 + 1, cap3, z.2.2.1.set (bF1 t ((oB t (g.1 * 256)).getD g.1 0) z.1) ((((oB t (g.1 * 256)).getD g.1 0) : Nat) : Int), z.2.2.2.set (bF1 t ((oB t (g.1 * 256)).getD g.1 0) z.1) (UInt8.ofNat z.1)) ⟨⟨by show z.1 + 1 ≤ 256; omega, (by show (oB t (g.1 * 256 + (z.1 + 1))).length ≤ cap3; omega), hmo⟩, by show 256 - (z.1 + 1) < _; omega⟩ [0, 1, 4] ?_ ?_ ?_ ?_
         ·exact z17
         ·exact z17
         ·exact z17
         ·exact z17
        ·try simp only [dQ, if_true, if_false, reduceIte] at h_t81
         refine z0a ?_; refine z09 ?_; apply hK50; refine z03 g0_ok fun _ hK61 => ?_
         iterate 2 refine z0t ?_
         refine s_nil ?_; apply hK61
         have hin : (bF1 t ((oB t (g.1 * 256)).getD g.1 0) z.1) ∈ (oB t (g.1 * 256 + z.1)) := Classical.byContradiction fun hx => by
          have := hzf.out _ htl hx
          omega
         have hst : (oB t (g.1 * 256 + (z.1 + 1))) = (oB t (g.1 * 256 + z.1)) := by
          have := zhw hb256 hiz
          rw [hgz, addG, if_pos hin] at this; exact this
         have hsm := hzf.same hb256 hiz (by rw [hgz]; exact hin)
         rw [← hst]; refine dnS [] id (z.1 + 1, z.2.1, z.2.2.1, z.2.2.2) ⟨⟨by show z.1 + 1 ≤ 256; omega, (by rw [hst]; exact hz4), hsm⟩, by show 256 - (z.1 + 1) < _; omega⟩ [0, 1, 2] ?_ ?_ ?_ ?_
         ·exact z17
         ·exact z17
         ·exact z17
         ·exact z17
       ·try simp only [dQ, if_true, if_false, reduceIte] at h_t64
        refine z0m ?_; refine z02 ?_; refine z02 ?_; refine z0i ?_; refine z09 ?_; apply hK28; refine z03 g0_ok fun _ hK62 => ?_
        iterate 3 refine z0t ?_
        refine s_nil ?_; apply hK62
        have hze : z.1 = 256 := by omega
        have hpe : g.1 * 256 + z.1 = (g.1 + 1) * 256 := by omega
        rw [hpe]; rw [hpe] at hz4 hzf
        have hlen2 : (oB t (g.1 * 256)).length ≤ (oB t ((g.1 + 1) * 256)).length := z1y (by omega)
        have hah : ∀ j, j < g.1 + 1 → j < (oB t (j * 256)).length := fun j hj => by
         rcases Nat.lt_or_ge j g.1 with h1 | h1
         ·exact hga j h1
         ·obtain rfl : j = g.1 := by omega
          exact hi
        have hna2 : ∀ j, j < g.1 + 1 → t.acc.getD ((oB t ((g.1 + 1) * 256)).getD j 0) false = false := fun j hj => by
         have hjl : j < (oB t (g.1 * 256)).length := Nat.lt_of_le_of_lt (by omega) hi
         have e : (oB t ((g.1 + 1) * 256)).getD j 0 = (oB t (g.1 * 256)).getD j 0 := z6i (by omega) hjl
         rw [e]
         rcases Nat.lt_or_ge j g.1 with h1 | h1
         ·exact hna j h1
         ·obtain rfl : j = g.1 := by omega
          simpa using h_t47
        refine dnS [] id (g.1 + 1, z.2.1, z.2.2.1, z.2.2.2) ⟨⟨by show g.1 + 1 ≤ _; omega, hah, (by show g.1 + 1 ≤ (oB t ((g.1 + 1) * 256)).length; omega), hz4, hzf, hna2⟩, by show _ - (g.1 + 1) < _; omega⟩ [0, 1, 2] ?_ ?_ ?_ ?_
        ·exact z17
        ·exact z17
        ·exact z17
        ·exact z17
    ·try simp only [dQ, if_true, if_false, reduceIte] at h_t36
     refine z0m ?_; refine z02 ?_; refine z02 ?_; refine z0i ?_; apply hK22; refine srR g0_ok fun _ hK64 => ?_
     iterate 2 refine z0t ?_
     refine s_nil ?_; apply hK64; rw [ls_none hga (by omega) hna]; refine z0e (z0f g0_ok (fun _ _ h => h) (z8w _) [] [.tmp 2, .tmp 3] rfl ?_)
     all_goals exact z17


end Go.Proofs.YtppmnaoollkboaaDoor
