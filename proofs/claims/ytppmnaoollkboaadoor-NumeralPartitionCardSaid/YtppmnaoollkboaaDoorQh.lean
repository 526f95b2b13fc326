/- Part 8 of what the claims of this seat share: the walk's engine, the functions' contracts, plain mathematics (Uo, Up). -/
import Derived.Test.YtppmnaoollkboaaDoorQg
namespace Go.Proofs.YtppmnaoollkboaaDoor
set_option linter.all false
open Go.Ab Go.RowKit

theorem qUo0 {a : Prop} (h : a := by first | exact vcA | (simp [-List.reduceReplicate] <;> omega) | exact vTh | exact ⟨by omega, by omega, trivial⟩ | exact ⟨by omega, by omega, trivial, trivial⟩ | (show _ < (z37 _ _).length; rw [zhd]; omega) | (show _ < (fillN _ _ _).length; rw [z85]; omega) | (show _ < (rowZ _ _ _ _ _).length; rw [zly]; omega) | exact vcB) : a := h
theorem uUo_0 {a : Prop} (h : a := by
    repeat' (first | assumption | exact ⟨rfl, rfl⟩ | (show (_ : List Int) = _; assumption) | exact pT  | exact trivial | refine aI ?_ ?_ | exact cC0 | refine low_cons' ?_ ?_ | exact cC1 | fail)
    all_goals first | omega | exact hL0 | exact hL1 | exact hL2 | (show (_ : List Int) = _; first | assumption | exact hZ0 | rfl) | (show (_ : List Bool) = _; first | assumption | rfl) | (show allTo _ _ _; first | (rw [hXR]; exact z2g _) | (rw [hXR]; trivial) | exact z2g _) | (show (0 : Nat) < (z01 _ _ _ _).length; rw [z00 hcl]; decide) | (simp [-List.reduceReplicate]; done) | (simp [-List.reduceReplicate] <;> omega) | skip) : a := h
theorem DUo_0 {a b : Prop} (kZ : b) (h : HidB b → a := by intro kZ; (repeat first | refine aI qUo0 ?_ | refine z06 qUo0 ?_ | refine z04 qUo0 ?_ | refine z0k qUo0 ?_ | refine z0b ?_); exact kZ.out) : a := h ⟨kZ⟩
theorem z1n {a b : Prop} (kZ : b) (h : HidB b → a := by intro kZ; refine sX ?_; refine DUo_0 ?_; refine exI ?_; exact kZ.out) : a := h ⟨kZ⟩
theorem zo8 {a b : Prop} (kZ : b) (h : HidB b → a := by intro kZ; refine dX ?_; refine DUo_0 ?_; refine exI ?_; exact kZ.out) : a := h ⟨kZ⟩
theorem z9e {a b : Prop} (kZ : b) (h : HidB b → a := by intro kZ; refine sX0 ?_; refine DUo_0 ?_; refine exI ?_; exact kZ.out) : a := h ⟨kZ⟩
theorem gXUo_4 {a b : Prop} (kZ : b) (h : HidB b → a := by intro kZ; refine gX ?_; refine DUo_0 ?_; refine exI ?_; exact kZ.out) : a := h ⟨kZ⟩
theorem gX0Uo_5 {a b : Prop} (kZ : b) (h : HidB b → a := by intro kZ; refine gX0 ?_; refine DUo_0 ?_; refine exI ?_; exact kZ.out) : a := h ⟨kZ⟩
theorem zhu {a b : Prop} (kZ : b) (h : HidB b → a := by intro kZ; refine dX ?_; refine DUo_0 ?_; exact kZ.out) : a := h ⟨kZ⟩
theorem zmc {a b : Prop} (kZ : b) (h : HidB b → a := by intro kZ; refine gX ?_; refine DUo_0 ?_; exact kZ.out) : a := h ⟨kZ⟩
theorem z3o {a b : Prop} (kZ : b) (h : HidB b → a := by intro kZ; refine sX ?_; refine DUo_0 ?_; exact kZ.out) : a := h ⟨kZ⟩

open Go.Aut
theorem z6q {t : Tbl} : 0 ∈ z4u t := zcg
theorem zbg {ty : Nat → Ty} {H : Heap} : ∀ {l : List Cell} (_ : ∀ x ∈ l, x.pureB = true) {K : List Cell → Prop} (_ : K l), viewL ty H l K
  | [], _, _, h => h
  | x :: l, hl, K, h => by
    have h2 : viewL ty H l fun l' => K (x :: l') := zbg (fun y hy => hl y (List.mem_cons_of_mem _ hy)) h
    have hx := hl x List.mem_cons_self
    show viewC ty H x _
    cases x <;> first | exact h2 | (simp [Cell.pureB] at hx; done)
theorem zer {cell : List Int} {nc : Nat} {x y z : Cell} (h : z ∈ z01 cell nc x y) : (∃ v, z = .int .i64 v) ∨ z = x ∨ z = y := by
  rcases List.mem_append.1 h with h | h
  · obtain ⟨v, _, rfl⟩ := List.mem_map.1 h; exact .inl ⟨v, rfl⟩
  · rcases List.mem_cons.1 h with rfl | h
    · exact .inl ⟨_, rfl⟩
    · rcases List.mem_cons.1 h with rfl | h
      · exact .inr (.inl rfl)
      · exact .inr (.inr (List.mem_singleton.1 h))
theorem z3y (t : Tab) : ∀ x ∈ z01 t.cell t.nc (.ds t.next.length (.cells (rowsC t.next))) (.ds t.acc.length (.bools t.acc)), ∀ g cs, x ≠ Cell.clo g cs := fun x hx g cs => by
  rcases zer hx with ⟨v, rfl⟩ | rfl | rfl <;> intro e <;> cases e
theorem z51 {ty : Nat → Ty} {H : Heap} (t : Tab) {K : List Cell → Prop} (h : K (z01 t.cell t.nc (.ds t.next.length (.cells (rowsC t.next))) (.ds t.acc.length (.bools t.acc)))) : viewL ty H (z01 t.cell t.nc (.ds t.next.length (.cells (rowsC t.next))) (.ds t.acc.length (.bools t.acc))) K :=
  zbg (fun x hx => by rcases zer hx with ⟨v, rfl⟩ | rfl | rfl <;> rfl) h
theorem zo9 : ∀ {l : List Cell}, (∀ x ∈ l, (∃ v, x = .int .i64 v) ∨ ∃ n c, x = .ds n c) → SV.ids (.agg (.cells l)) = []
  | [], _ => rfl
  | x :: l, h => by
    have h2 := zo9 fun y hy => h y (List.mem_cons_of_mem _ hy)
    rcases h x List.mem_cons_self with ⟨v, rfl⟩ | ⟨n, c, rfl⟩ <;> exact h2
theorem z8p (t : Tab) (l : List SV) : List.flatMap SV.ids (tabV t :: l) = List.flatMap SV.ids l := by
  rw [List.flatMap_cons, zo9 fun x hx => by rcases zer hx with ⟨v, rfl⟩ | rfl | rfl; exact .inl ⟨v, rfl⟩; exact .inr ⟨_, _, rfl⟩; exact .inr ⟨_, _, rfl⟩]; rfl
abbrev bF (t : Tab) (bl reps : List Nat) : Nat → Nat → Nat := bf (tblT t) (blkF bl) (rpF reps) (rpF (mC t bl reps 256))
def accP (t : Tab) (bl reps : List Nat) (n : Nat) : List Bool := (List.range n).map fun s => t.acc.getD (rpF reps ((ordO (bF t bl reps) (mC t bl reps 256).length (blkF bl 0) (s * (mC t bl reps 256).length)).getD s 0)) false
@[simp] theorem accP_length (t : Tab) (bl reps : List Nat) (n : Nat) : (accP t bl reps n).length = n := by simp [accP]
theorem zud (t : Tab) (bl reps : List Nat) (n : Nat) : accP t bl reps n ++ [t.acc.getD (rpF reps ((ordO (bF t bl reps) (mC t bl reps 256).length (blkF bl 0) (n * (mC t bl reps 256).length)).getD n 0)) false] = accP t bl reps (n + 1) := by simp [accP, List.range_succ]
theorem mC_pos (t : Tab) (bl reps : List Nat) : 0 < (mC t bl reps 256).length := by
  rw [z49]; exact List.length_pos_of_mem (zhc.2 ⟨0, by decide, rfl⟩)
theorem mC_get {t : Tab} (h : t.ok) (bl reps : List Nat) {j : Nat} (hj : j < (mC t bl reps 256).length) : rpF (mC t bl reps 256) j < t.nc := by
  rw [z49, ← zsd] at hj; exact (zse (fun b hb => (cellN h hb).1) hj).1
theorem can_end {t : Tab} (h : t.fit) {bl reps : List Nat} {cw : List UInt64} {n : Nat} (hb : BlkOut (tblT t) (z4u (tblT t)) bl reps t.next.length) (hc : Cw (tblT t) (blkF bl) (rpF reps) reps.length cw (ncC (tblT t) (blkF bl) (rpF reps) reps.length) 256)
    (hn : z1u (bF t bl reps) (mC t bl reps 256).length (blkF bl 0) n) :
    canD ((tblT t).lang 0) = { cls := cw, nc := (mC t bl reps 256).length, next := rowsP (bF t bl reps) (mC t bl reps 256).length (blkF bl 0) n, acc := accP t bl reps n } := by
  have hl : (mC t bl reps 256).length = ncC (tblT t) (blkF bl) (rpF reps) reps.length := by rw [z49, ← zsd]
  have hcl := (z5s h.1).1
  have hcell : ∀ b, b < 256 → (tblT t).cell b < (tblT t).nc := fun b hb => (cellN h.1 hb).1
  have hred := red_of (t := tblT t) (rep := rpF (mC t bl reps 256)) hcl hcell h.1.byte hb.blk hb.rep hb.stable hb.snd fun j hj => zse hcell hj
  rw [hl] at hn ⊢
  have hlaid := laid_of (d := { cls := cw, nc := ncC (tblT t) (blkF bl) (rpF reps) reps.length, next := rowsP (bF t bl reps) (ncC (tblT t) (blkF bl) (rpF reps) reps.length) (blkF bl 0) n, acc := accP t bl reps n }) hcell hc hn (by rw [accP, hl]; rfl)
  obtain ⟨h1, h2⟩ := zg1 hred hn hlaid; exact zjf h1 h2
theorem bF_lt {t : Tab} (h : t.ok) {bl reps l : List Nat} (hb : BlkOut (tblT t) l bl reps t.next.length) (hcl : ∀ s c, s ∈ l → c < t.nc → (tblT t).δ s c ∈ l) {x j : Nat} (hx : x < reps.length) (hj : j < (mC t bl reps 256).length) : bF t bl reps x j < reps.length :=
  hb.blk _ (hcl _ _ (hb.rep x hx).1 (mC_get h bl reps hj))
theorem zue {t : Tab} (h : t.ok) {bl reps l : List Nat} (hb : BlkOut (tblT t) l bl reps t.next.length) (hcl : ∀ s c, s ∈ l → c < t.nc → (tblT t).δ s c ∈ l) (h0 : 0 ∈ l) (p : Nat) : ∀ x ∈ ordO (bF t bl reps) (mC t bl reps 256).length (blkF bl 0) p, x < reps.length :=
  zdz (mC_pos t bl reps) (hb.blk 0 h0) (fun x j hx hj => bF_lt h hb hcl hx hj) p
theorem zmd {t : Tab} (h : t.ok) {bl reps l : List Nat} (hb : BlkOut (tblT t) l bl reps t.next.length) (hcl : ∀ s c, s ∈ l → c < t.nc → (tblT t).δ s c ∈ l) (h0 : 0 ∈ l) (p : Nat) : (ordO (bF t bl reps) (mC t bl reps 256).length (blkF bl 0) p).length ≤ reps.length := z5n (z48 p) (zue h hb hcl h0 p)
theorem numP_to {f : Nat → Nat → Nat} {nc b0 s c : Nat} (hi : s < (ordO f nc b0 (s * nc)).length) (hc : c < nc) : numP f nc b0 s c = idxK (ordO f nc b0 (s * nc + (c + 1))) (f ((ordO f nc b0 (s * nc)).getD s 0) c) := by
  have hat := zsh (f := f) (b0 := b0) hi (Nat.le_add_right (s * nc) c)
  obtain ⟨h1, h2⟩ := zdt (s := s) (nc := nc) (by omega) hc; rw [numP, tgt, h1, h2, hat]; rfl
theorem zuf (d : Dfa) : SV.low 0 (dfaV d) := low_cons' trivial (low_cons' trivial (low_cons' trivial low_nil'))
attribute [local irreducible] z0l z26 zl z01 z16 putB fillN mcs ofC z37 rowZ rowsP rowP accP z4u
noncomputable def gc1 : Ctx := { P := Tryd.prog, ty := ty, glob := gl, fs := [(140, .data zo3), (139, .data zu6), (141, .gen (newS ty mergeS))] }
theorem z2b : gc1.OK := ⟨tyOK, ⟨⟨z08 Tryd.func140 (by kernel_rfl) rfl, zqg⟩, ⟨z08 Tryd.func139 (by kernel_rfl) rfl, zu7⟩, ⟨z08 Tryd.func141 (by kernel_rfl) rfl, (gen_new merge_ok)⟩, trivial⟩, mixed⟩
@[simp] theorem gc1_ty : gc1.ty = ty := rfl

def zga : QSpec := fun vs K => ∃ t : Tab, vs = [tabV t] ∧ t.fit ∧ K (dfaV (canD ((tblT t).lang 0)))
set_option maxHeartbeats 2000000 in
set_option maxRecDepth 4000 in
theorem zk3 : z24 Tryd.prog gl 75 zga := by
 refine z1x (Γ := gc1) (N := 127) Tryd.func75 rfl rfl fun vs K h => ?_; obtain ⟨t, rfl, ht, h⟩ := h; refine ⟨_, h, zuf _, by simp, fun w I => ?_⟩
 have ht0 := ht
 obtain ⟨hok, hlen, hnc⟩ := ht0
 have hcl := hok.clen
 refine srR z2b fun _ hK2 => ?_
 iterate 2 refine z1n ?_
 refine s_nil ?_; apply hK2
 have hlr := zm7 ht
 refine leW [0] (fun _ => 1) [(1, .c (.dp (tabC t) 0)), (2, .c (.ptr 0 0))] [(0, .own 30 (.cells [.nils, .nils, .nils]) 3)] 1 [1] uUo_0 uUo_0 uUo_0 uUo_0 ?_; refine srD z2b [(0, true), (1, true), (2, false), (3, false), (4, true), (5, true), (6, true), (7, true), (8, true)] rfl (by kernel_rfl) (by kernel_rfl) fun _ hK4 => ?_; refine zhu ?_; refine exA (tabV t) (SV.as_refl _) ?_; refine zhu ?_; refine exA (tabV t) (SV.as_refl _) ?_; refine zmc ?_; refine aI (z3y _) ?_; refine z51 _ ?_; refine ⟨t, rfl, ht, ?_⟩; refine DUo_0 ?_
 first | refine exI ?_ | (intro cap2 hcap2; refine exI ?_)
 refine zmc ?_; refine aI (z3y _) ?_; refine z51 _ ?_; refine ⟨t, z4u (tblT t), rfl, ht, hlr, ?_⟩; refine DUo_0 ?_
 first | refine exI ?_ | (intro cap3 hcap3; refine exI ?_)
 iterate 5 refine zo8 ?_
 refine d_nil ?_; apply hK4
 simp only [z8p]
 have hout := fin_blk ht hlr
 obtain ⟨bl, hbl⟩ : ∃ bl, bl = finL t (z4u (tblT t)) := ⟨_, rfl⟩; obtain ⟨reps, hreps⟩ : ∃ reps, reps = finR t (z4u (tblT t)) := ⟨_, rfl⟩; rw [← hbl, ← hreps] at hout; rw [← hbl, ← hreps]; refine srR z2b fun _ hK6 => ?_; refine z3o ?_; refine exA (tabV t) (SV.as_refl _) ?_
 iterate 2 refine z1n ?_
 refine z3o ?_; refine aI (z3y _) ?_; refine z51 _ ?_; refine ⟨t, bl, reps, z4u (tblT t), rfl, ht, hout, hlr.lt, fun cw hcw => ?_⟩; refine DUo_0 ?_
 first | refine exI ?_ | (intro cap3 hcap3; refine exI ?_)
 iterate 5 refine z1n ?_
 refine s_nil ?_; apply hK6
 simp only [z8p]
 have hrn := hout.rep
 have hbll := hout.len
 have hnp := hok.npos
 have hb0 := hout.blk 0 z6q
 have hrl : reps.length ≤ 65535 := Nat.le_trans (zg9 hout hlr.lt) hlen
 have hmp := mC_pos t bl reps
 have hml := mC_le t bl reps 256
 refine leW [] id [(1, .c (.dp (tabC t) 0)), (2, .c (.ptr 0 0)), (3, .c (.ds bl.length (.ints .i64 (natsI bl)))), (4, .c (.ds reps.length (.ints .i64 (natsI reps)))), (5, .c (.ds (mC t bl reps 256).length (.ints .i64 (natsI (mC t bl reps 256))))), (6, .c (.ds (mC t bl reps 256).length (.u64s cw)))] [(0, .own 30 (.cells [.nils, .nils, .nils]) 3)] 1 [0] uUo_0 uUo_0 uUo_0 uUo_0 ?_; refine srR z2b fun _ hK8 => ?_
 iterate 3 refine z1n ?_
 refine z9e ?_; refine s_nil ?_; apply hK8; refine srR z2b fun _ hK10 => ?_
 iterate 4 refine z1n ?_
 refine s_nil ?_; apply hK10
 have hZ0 : List.replicate reps.length (0 : Int) = fillN reps.length (-1) 0 := (zbe _ _).symm
 refine leW [] id [(1, .c (.dp (tabC t) 0)), (2, .c (.ptr 0 0)), (3, .c (.ds bl.length (.ints .i64 (natsI bl)))), (4, .c (.ds reps.length (.ints .i64 (natsI reps)))), (5, .c (.ds (mC t bl reps 256).length (.ints .i64 (natsI (mC t bl reps 256))))), (7, .c (.ptr 1 0)), (8, .c (.slice 2 0 reps.length reps.length))] [(0, .own 30 (.cells [.nils, .nils, .nils]) 3), (1, .own 30 (.cells [.ds (mC t bl reps 256).length (.u64s cw), .nils, .nils]) 3), (2, .own 3 (.ints .i64 (fillN reps.length (-1) 0)) reps.length)] 3 [0, 1, 2] uUo_0 uUo_0 uUo_0 uUo_0 ?_; refine srR z2b fun _ hK12 => ?_
 iterate 2 refine z1n ?_
 refine z3o ?_; refine exA (.c (.int .i64 ((((blkF bl 0) : Nat) : Int)))) (as_eq (congrArg (fun v => SV.c (Cell.int IntKind.i64 v)) ((congrArg (fun i => (natsI bl).getD i 0) (by omega)).trans z1l))) ?_
 iterate 2 refine z1n ?_
 refine s_nil ?_; apply hK12; refine seq_k fun _ hK13 => ?_; refine srR z2b fun _ hK15 => ?_
 iterate 3 refine z1n ?_
 refine s_nil ?_; apply hK15; refine z07 ?_; refine z0p (α := Nat) (fun k => [(1, .c (.dp (tabC t) 0)), (2, .c (.ptr 0 0)), (3, .c (.ds bl.length (.ints .i64 (natsI bl)))), (4, .c (.ds reps.length (.ints .i64 (natsI reps)))), (5, .c (.ds (mC t bl reps 256).length (.ints .i64 (natsI (mC t bl reps 256))))), (7, .c (.ptr 1 0)), (8, .c (.slice 2 0 reps.length reps.length)), (9, .c (.slice 3 0 1 1)), (41, .c (.int .i64 (reps.length : Nat))), (42, .c (.int .i64 (k : Nat)))]) (fun k => [(0, .own 30 (.cells [.nils, .nils, .nils]) 3), (1, .own 30 (.cells [.ds (mC t bl reps 256).length (.u64s cw), .nils, .nils]) 3), (2, .own 3 (.ints .i64 (fillN reps.length (-1) k)) reps.length), (3, .own 3 (.ints .i64 (natsI [(blkF bl 0)])) 1)]) 4 (fun k => k ≤ reps.length) (fun k => reps.length - k) ?_ ?_
 ·refine dnS [] id 0 (Nat.zero_le _) [0, 1, 2, 3] uUo_0 uUo_0 uUo_0 uUo_0
 ·intro k hk
  refine srR z2b fun _ hK17 => ?_; refine z1n ?_; refine s_nil ?_; apply hK17; refine seq_k fun _ hK18 => ?_; refine z05 (b := _) rfl (fun h_t43 => ?_) (fun h_t43 => ?_)
  ·try simp only [dQ, if_true, if_false, reduceIte] at h_t43
   refine z0a ?_; apply hK18; refine seq_k fun _ hK19 => ?_; refine z07 ?_; refine srR z2b fun _ hK21 => ?_
   iterate 2 refine z1n ?_
   refine s_nil ?_; apply hK21
   have hkl : k < reps.length := by omega
   refine z03 z2b fun _ hK22 => ?_
   iterate 3 refine z1n ?_
   refine z9e ?_; refine s_nil ?_; apply hK22; refine z09 ?_; apply hK19; refine z03 z2b fun _ hK23 => ?_
   iterate 2 refine z1n ?_
   refine s_nil ?_; apply hK23
   have hX1 : (fillN reps.length (-1) k).set (0 + ((k : Nat) : Int).toNat * 1) (-1) = fillN reps.length (-1) (k + 1) := by rw [show 0 + ((k : Nat) : Int).toNat * 1 = k by omega]; exact zen _ hkl
   refine dnS [] id (k + 1) ⟨by omega, by omega⟩ [0, 1, 2, 3] uUo_0 uUo_0 uUo_0 uUo_0
  ·try simp only [dQ, if_true, if_false, reduceIte] at h_t43
   refine z0m ?_; refine z02 ?_; refine z02 ?_; refine z0i ?_; apply hK13
   obtain rfl : k = reps.length := by omega
   refine srR z2b fun _ hK25 => ?_
   iterate 3 refine z1n ?_
   refine z3o ?_; refine exA (.c (.int .i64 ((((blkF bl 0) : Nat) : Int)))) (as_eq (congrArg (fun v => SV.c (Cell.int IntKind.i64 v)) ((congrArg (fun i => (natsI bl).getD i 0) (by omega)).trans z1l))) ?_; refine z1n ?_; refine z9e ?_; refine s_nil ?_; apply hK25; refine seq_k fun _ hK26 => ?_; refine srR z2b fun _ hK28 => ?_; refine z1n ?_; refine s_nil ?_; apply hK28; refine z07 ?_; refine z5k 1 1 51 (.cells []) rfl rfl rfl low_nil' ?_; refine z5k 1 2 4 (.bools []) rfl rfl rfl trivial ?_; refine z0p (α := Nat × Nat × Nat × Nat) (fun g => [(1, .c (.dp (tabC t) 0)), (2, .c (.ptr 0 0)), (3, .c (.ds bl.length (.ints .i64 (natsI bl)))), (4, .c (.ds reps.length (.ints .i64 (natsI reps)))), (5, .c (.ds (mC t bl reps 256).length (.ints .i64 (natsI (mC t bl reps 256))))), (7, .c (.ptr 1 0)), (8, .c (.slice 2 0 reps.length reps.length)), (9, .c (.slice 3 0 (ordO (bF t bl reps) (mC t bl reps 256).length (blkF bl 0) (g.1 * (mC t bl reps 256).length)).length g.2.1)), (11, .c (.int .i64 (g.1 : Nat)))]) (fun g => [(0, .own 30 (.cells [.nils, .nils, .nils]) 3), (1, .own 30 (.cells [.ds (mC t bl reps 256).length (.u64s cw), .slice 4 0 g.1 g.2.2.1, .slice 5 0 g.1 g.2.2.2]) 3), (2, .own 3 (.ints .i64 (z37 (ordO (bF t bl reps) (mC t bl reps 256).length (blkF bl 0) (g.1 * (mC t bl reps 256).length)) reps.length)) reps.length), (3, .own 3 (.ints .i64 (natsI (ordO (bF t bl reps) (mC t bl reps 256).length (blkF bl 0) (g.1 * (mC t bl reps 256).length)))) g.2.1), (4, .own 51 (.cells (rowsC (rowsP (bF t bl reps) (mC t bl reps 256).length (blkF bl 0) g.1))) g.2.2.1), (5, .own 4 (.bools (accP t bl reps g.1)) g.2.2.2)]) 6 (fun g => g.1 ≤ reps.length ∧ (∀ j, j < g.1 → j < (ordO (bF t bl reps) (mC t bl reps 256).length (blkF bl 0) (j * (mC t bl reps 256).length)).length) ∧ g.1 ≤ (ordO (bF t bl reps) (mC t bl reps 256).length (blkF bl 0) (g.1 * (mC t bl reps 256).length)).length ∧ (ordO (bF t bl reps) (mC t bl reps 256).length (blkF bl 0) (g.1 * (mC t bl reps 256).length)).length ≤ g.2.1 ∧ g.1 ≤ g.2.2.1 ∧ g.1 ≤ g.2.2.2) (fun g => reps.length - g.1) ?_ ?_
   ·have hz : (ordO (bF t bl reps) (mC t bl reps 256).length (blkF bl 0) (0 * (mC t bl reps 256).length)) = [(blkF bl 0)] := by rw [Nat.zero_mul]; rfl
    have hX1 : (fillN reps.length (-1) reps.length).set (0 + (((blkF bl 0) : Nat) : Int).toNat * 1) 0 = z37 (ordO (bF t bl reps) (mC t bl reps 256).length (blkF bl 0) (0 * (mC t bl reps 256).length)) reps.length := by
     rw [hz, zem, ← zq6, show 0 + (((blkF bl 0) : Nat) : Int).toNat * 1 = (blkF bl 0) by omega]; exact zg4 (o := []) (by simp)
    have hX2 : natsI [(blkF bl 0)] = natsI (ordO (bF t bl reps) (mC t bl reps 256).length (blkF bl 0) (0 * (mC t bl reps 256).length)) := by rw [hz]
    have hL0 : 1 = (ordO (bF t bl reps) (mC t bl reps 256).length (blkF bl 0) (0 * (mC t bl reps 256).length)).length := by rw [hz]; rfl
    have hX3 : ([] : List Bool) = accP t bl reps 0 := by unfold accP; rfl
    have hXR : rowsC (rowsP (bF t bl reps) (mC t bl reps 256).length (blkF bl 0) 0) = [] := by unfold rowsP; rfl
    refine dnS [] id (0, 1, 0, 0) ⟨Nat.zero_le _, fun j hj => absurd hj (Nat.not_lt_zero j), Nat.zero_le _, by rw [hz]; exact Nat.le_refl _, Nat.le_refl _, Nat.le_refl _⟩ [0, 1, 2, 3, 4, 5] ?_ ?_ ?_ ?_
    ·exact uUo_0
    ·exact uUo_0
    ·exact uUo_0
    ·exact uUo_0
   ·intro g hg
    obtain ⟨hg1, hga, hg3, hg4, hg5, hg6⟩ := hg
    have hg := And.intro hg1 (And.intro hga hg3)
    refine seq_k fun _ hK29 => ?_; refine srR z2b fun _ hK31 => ?_
    iterate 4 refine z1n ?_
    refine s_nil ?_; apply hK31; refine z05 (b := _) rfl (fun h_t57 => ?_) (fun h_t57 => ?_)
    ·try simp only [dQ, if_true, if_false, reduceIte] at h_t57
     refine z0a ?_; apply hK29; refine seq_k fun _ hK32 => ?_; refine z07 ?_
     have hi : g.1 < (ordO (bF t bl reps) (mC t bl reps 256).length (blkF bl 0) (g.1 * (mC t bl reps 256).length)).length := by omega
     have hxl := zue hok hout hlr.cl z6q _ _ (getD_mem' hi)
     have hole := zmd hok hout hlr.cl z6q (g.1 * (mC t bl reps 256).length)
     have hsl := hlr.lt _ (hout.rep _ hxl).1
     have hsl : (rpF reps ((ordO (bF t bl reps) (mC t bl reps 256).length (blkF bl 0) (g.1 * (mC t bl reps 256).length)).getD g.1 0)) < t.next.length := hsl
     have hrw := zeh hok hsl
     refine srR z2b fun _ hK34 => ?_
     iterate 4 refine z1n ?_
     refine z3o ?_; refine exA (.c (.int .i64 (((((ordO (bF t bl reps) (mC t bl reps 256).length (blkF bl 0) (g.1 * (mC t bl reps 256).length)).getD g.1 0) : Nat) : Int)))) (as_eq (congrArg (fun v => SV.c (Cell.int IntKind.i64 v)) ((congrArg (fun i => (natsI (ordO (bF t bl reps) (mC t bl reps 256).length (blkF bl 0) (g.1 * (mC t bl reps 256).length))).getD i 0) (by omega)).trans z1l))) ?_; refine z1n ?_; refine z3o ?_; refine exA (.c (.int .i64 (((rpF reps ((ordO (bF t bl reps) (mC t bl reps 256).length (blkF bl 0) (g.1 * (mC t bl reps 256).length)).getD g.1 0) : Nat) : Int)))) (as_eq (congrArg (fun v => SV.c (Cell.int IntKind.i64 v)) ((congrArg (fun i => (natsI reps).getD i 0) (by omega)).trans z1l))) ?_; refine z1n ?_; refine s_nil ?_; apply hK34; refine srR z2b fun _ hK36 => ?_
     iterate 4 refine z1n ?_
     refine s_nil ?_; apply hK36; refine seq_k fun _ hK37 => ?_; refine srR z2b fun _ hK39 => ?_
     iterate 3 refine z1n ?_
     refine s_nil ?_; apply hK39; refine z07 ?_; refine z0p (α := Nat × Nat) (fun c => [(1, .c (.dp (tabC t) 0)), (2, .c (.ptr 0 0)), (3, .c (.ds bl.length (.ints .i64 (natsI bl)))), (4, .c (.ds reps.length (.ints .i64 (natsI reps)))), (5, .c (.ds (mC t bl reps 256).length (.ints .i64 (natsI (mC t bl reps 256))))), (7, .c (.ptr 1 0)), (8, .c (.slice 2 0 reps.length reps.length)), (9, .c (.slice 3 0 (ordO (bF t bl reps) (mC t bl reps 256).length (blkF bl 0) (g.1 * (mC t bl reps 256).length + c.1)).length c.2)), (11, .c (.int .i64 (g.1 : Nat))), (12, .c (.int .i64 ((rpF reps ((ordO (bF t bl reps) (mC t bl reps 256).length (blkF bl 0) (g.1 * (mC t bl reps 256).length)).getD g.1 0)) : Nat))), (13, .c (.slice 6 0 (mC t bl reps 256).length (mC t bl reps 256).length)), (70, .c (.ds (mC t bl reps 256).length (.ints .i64 (natsI (mC t bl reps 256))))), (71, .c (.int .i64 ((mC t bl reps 256).length : Nat))), (72, .c (.int .i64 (c.1 : Nat)))]) (fun c => [(0, .own 30 (.cells [.nils, .nils, .nils]) 3), (1, .own 30 (.cells [.ds (mC t bl reps 256).length (.u64s cw), .slice 4 0 g.1 g.2.2.1, .slice 5 0 g.1 g.2.2.2]) 3), (2, .own 3 (.ints .i64 (z37 (ordO (bF t bl reps) (mC t bl reps 256).length (blkF bl 0) (g.1 * (mC t bl reps 256).length + c.1)) reps.length)) reps.length), (3, .own 3 (.ints .i64 (natsI (ordO (bF t bl reps) (mC t bl reps 256).length (blkF bl 0) (g.1 * (mC t bl reps 256).length + c.1)))) c.2), (4, .own 51 (.cells (rowsC (rowsP (bF t bl reps) (mC t bl reps 256).length (blkF bl 0) g.1))) g.2.2.1), (5, .own 4 (.bools (accP t bl reps g.1)) g.2.2.2), (6, .own 3 (.ints .i64 (rowZ (bF t bl reps) (mC t bl reps 256).length (blkF bl 0) g.1 c.1)) (mC t bl reps 256).length)]) 7 (fun c => c.1 ≤ (mC t bl reps 256).length ∧ (ordO (bF t bl reps) (mC t bl reps 256).length (blkF bl 0) (g.1 * (mC t bl reps 256).length + c.1)).length ≤ c.2) (fun c => (mC t bl reps 256).length - c.1) ?_ ?_
     ·have hX1 : List.replicate (mC t bl reps 256).length (0 : Int) = rowZ (bF t bl reps) (mC t bl reps 256).length (blkF bl 0) g.1 0 := (zsf _).symm
      refine dnS [] id (0, g.2.1) ⟨Nat.zero_le _, hg4⟩ [0, 1, 2, 3, 4, 5, 6] uUo_0 uUo_0 uUo_0 uUo_0
     ·intro c hc0
      have hc1 := hc0.1
      have hc2 := hc0.2
      refine srR z2b fun _ hK41 => ?_; refine z1n ?_; refine s_nil ?_; apply hK41; refine seq_k fun _ hK42 => ?_; refine z05 (b := _) rfl (fun h_t73 => ?_) (fun h_t73 => ?_)
      ·try simp only [dQ, if_true, if_false, reduceIte] at h_t73
       refine z0a ?_; apply hK42; refine seq_k fun _ hK43 => ?_; refine z07 ?_
       have hc : c.1 < (mC t bl reps 256).length := by omega
       have hrc := mC_get hok bl reps hc
       have hx := nextN hok hsl hrc
       have htl : ((bF t bl reps) ((ordO (bF t bl reps) (mC t bl reps 256).length (blkF bl 0) (g.1 * (mC t bl reps 256).length)).getD g.1 0) c.1) < reps.length := bF_lt hok hout hlr.cl hxl hc
       have hat := zsh (f := (bF t bl reps)) (b0 := (blkF bl 0)) hi (Nat.le_add_right (g.1 * (mC t bl reps 256).length) c.1)
       have hst : (ordO (bF t bl reps) (mC t bl reps 256).length (blkF bl 0) (g.1 * (mC t bl reps 256).length + (c.1 + 1))) = addC (ordO (bF t bl reps) (mC t bl reps 256).length (blkF bl 0) (g.1 * (mC t bl reps 256).length + c.1)) ((bF t bl reps) ((ordO (bF t bl reps) (mC t bl reps 256).length (blkF bl 0) (g.1 * (mC t bl reps 256).length + c.1)).getD g.1 0) c.1) := zjl (f := (bF t bl reps)) (b0 := (blkF bl 0)) (i := g.1) hc
       rw [hat] at hst
       have hst2 := hst
       have hol := zmd hok hout hlr.cl z6q (g.1 * (mC t bl reps 256).length + c.1)
       refine srR z2b fun _ hK45 => ?_
       iterate 2 refine z1n ?_
       refine z3o ?_; refine exA (.c (.int .i64 (((rpF (mC t bl reps 256) c.1 : Nat) : Int)))) (as_eq (congrArg (fun v => SV.c (Cell.int IntKind.i64 v)) ((congrArg (fun i => (natsI (mC t bl reps 256)).getD i 0) (by omega)).trans z1l))) ?_
       iterate 2 refine z1n ?_
       refine s_nil ?_; apply hK45; refine srR z2b fun _ hK47 => ?_
       iterate 2 refine z1n ?_
       refine z3o ?_; refine exA (.c (.ds t.next.length (.cells (rowsC t.next)))) (as_eq (congrArg SV.c (z7k hcl))) ?_
       iterate 2 refine z1n ?_
       refine z3o ?_; refine exA (.c (.ds (t.next.getD (rpF reps ((ordO (bF t bl reps) (mC t bl reps 256).length (blkF bl 0) (g.1 * (mC t bl reps 256).length)).getD g.1 0)) []).length (.ints .i64 (t.next.getD (rpF reps ((ordO (bF t bl reps) (mC t bl reps 256).length (blkF bl 0) (g.1 * (mC t bl reps 256).length)).getD g.1 0)) [])))) (as_eq (congrArg SV.c (z8v ⟨hsl, by omega⟩))) ?_
       iterate 2 refine z1n ?_
       refine z3o ?_; refine exA (.c (.int .i64 ((((tblT t).δ (rpF reps ((ordO (bF t bl reps) (mC t bl reps 256).length (blkF bl 0) (g.1 * (mC t bl reps 256).length)).getD g.1 0)) (rpF (mC t bl reps 256) c.1) : Nat) : Int)))) (as_eq (congrArg (fun v => SV.c (Cell.int IntKind.i64 v)) ((congrArg (fun i => (t.next.getD (rpF reps ((ordO (bF t bl reps) (mC t bl reps 256).length (blkF bl 0) (g.1 * (mC t bl reps 256).length)).getD g.1 0)) []).getD i 0) (by omega)).trans hx.2))) ?_; refine z1n ?_; refine z3o ?_; refine exA (.c (.int .i64 (((((bF t bl reps) ((ordO (bF t bl reps) (mC t bl reps 256).length (blkF bl 0) (g.1 * (mC t bl reps 256).length)).getD g.1 0) c.1) : Nat) : Int)))) (as_eq (congrArg (fun v => SV.c (Cell.int IntKind.i64 v)) ((congrArg (fun i => (natsI bl).getD i 0) (by omega)).trans z1l))) ?_; refine z1n ?_; refine s_nil ?_; apply hK47; refine z2n (α := Nat) (fun y => [(1, .c (.dp (tabC t) 0)), (2, .c (.ptr 0 0)), (3, .c (.ds bl.length (.ints .i64 (natsI bl)))), (4, .c (.ds reps.length (.ints .i64 (natsI reps)))), (5, .c (.ds (mC t bl reps 256).length (.ints .i64 (natsI (mC t bl reps 256))))), (7, .c (.ptr 1 0)), (8, .c (.slice 2 0 reps.length reps.length)), (9, .c (.slice 3 0 (ordO (bF t bl reps) (mC t bl reps 256).length (blkF bl 0) (g.1 * (mC t bl reps 256).length + (c.1 + 1))).length y)), (11, .c (.int .i64 (g.1 : Nat))), (12, .c (.int .i64 ((rpF reps ((ordO (bF t bl reps) (mC t bl reps 256).length (blkF bl 0) (g.1 * (mC t bl reps 256).length)).getD g.1 0)) : Nat))), (13, .c (.slice 6 0 (mC t bl reps 256).length (mC t bl reps 256).length)), (70, .c (.ds (mC t bl reps 256).length (.ints .i64 (natsI (mC t bl reps 256))))), (71, .c (.int .i64 ((mC t bl reps 256).length : Nat))), (72, .c (.int .i64 (c.1 : Nat))), (14, .c (.int .i64 (c.1 : Nat))), (16, .c (.int .i64 (((bF t bl reps) ((ordO (bF t bl reps) (mC t bl reps 256).length (blkF bl 0) (g.1 * (mC t bl reps 256).length)).getD g.1 0) c.1) : Nat)))]) (fun y => [(0, .own 30 (.cells [.nils, .nils, .nils]) 3), (1, .own 30 (.cells [.ds (mC t bl reps 256).length (.u64s cw), .slice 4 0 g.1 g.2.2.1, .slice 5 0 g.1 g.2.2.2]) 3), (2, .own 3 (.ints .i64 (z37 (ordO (bF t bl reps) (mC t bl reps 256).length (blkF bl 0) (g.1 * (mC t bl reps 256).length + (c.1 + 1))) reps.length)) reps.length), (3, .own 3 (.ints .i64 (natsI (ordO (bF t bl reps) (mC t bl reps 256).length (blkF bl 0) (g.1 * (mC t bl reps 256).length + (c.1 + 1))))) y), (4, .own 51 (.cells (rowsC (rowsP (bF t bl reps) (mC t bl reps 256).length (blkF bl 0) g.1))) g.2.2.1), (5, .own 4 (.bools (accP t bl reps g.1)) g.2.2.2), (6, .own 3 (.ints .i64 (rowZ (bF t bl reps) (mC t bl reps 256).length (blkF bl 0) g.1 c.1)) (mC t bl reps 256).length)]) 7 (fun y => (ordO (bF t bl reps) (mC t bl reps 256).length (blkF bl 0) (g.1 * (mC t bl reps 256).length + (c.1 + 1))).length ≤ y) ?_ ?_
       ·refine srR z2b fun _ hK49 => ?_
        iterate 3 refine z1n ?_
        refine z3o ?_; refine exA (.c (.int .i64 ((z37 (ordO (bF t bl reps) (mC t bl reps 256).length (blkF bl 0) (g.1 * (mC t bl reps 256).length + c.1)) reps.length).getD ((bF t bl reps) ((ordO (bF t bl reps) (mC t bl reps 256).length (blkF bl 0) (g.1 * (mC t bl reps 256).length)).getD g.1 0) c.1) 0))) (as_eq (congrArg (fun v => SV.c (Cell.int IntKind.i64 v)) (congrArg (fun i => (z37 (ordO (bF t bl reps) (mC t bl reps 256).length (blkF bl 0) (g.1 * (mC t bl reps 256).length + c.1)) reps.length).getD i 0) (by omega)))) ?_; refine z1n ?_; refine s_nil ?_; apply hK49; refine z05 (b := _) rfl (fun h_t92 => ?_) (fun h_t92 => ?_)
        ·have hno : ((bF t bl reps) ((ordO (bF t bl reps) (mC t bl reps 256).length (blkF bl 0) (g.1 * (mC t bl reps 256).length)).getD g.1 0) c.1) ∉ (ordO (bF t bl reps) (mC t bl reps 256).length (blkF bl 0) (g.1 * (mC t bl reps 256).length + c.1)) := fun hx => by
          rw [z7x htl hx] at h_t92
          simp at h_t92; omega
         refine srR z2b fun _ hK51 => ?_
         iterate 5 refine z1n ?_
         refine z9e ?_; refine s_nil ?_; apply hK51; refine z03 z2b fun _ hK52 => ?_
         iterate 3 refine z1n ?_
         refine z3o ?_; intro cap3 hcap3; refine exI ?_; refine z1n ?_; refine s_nil ?_; apply hK52; rw [addC, if_neg hno] at hst
         have hX1 : (z37 (ordO (bF t bl reps) (mC t bl reps 256).length (blkF bl 0) (g.1 * (mC t bl reps 256).length + c.1)) reps.length).set (0 + ((((bF t bl reps) ((ordO (bF t bl reps) (mC t bl reps 256).length (blkF bl 0) (g.1 * (mC t bl reps 256).length)).getD g.1 0) c.1) : Nat) : Int).toNat * 1) (((ordO (bF t bl reps) (mC t bl reps 256).length (blkF bl 0) (g.1 * (mC t bl reps 256).length + c.1)).length : Nat) : Int) = z37 (ordO (bF t bl reps) (mC t bl reps 256).length (blkF bl 0) (g.1 * (mC t bl reps 256).length + (c.1 + 1))) reps.length := by rw [show 0 + ((((bF t bl reps) ((ordO (bF t bl reps) (mC t bl reps 256).length (blkF bl 0) (g.1 * (mC t bl reps 256).length)).getD g.1 0) c.1) : Nat) : Int).toNat * 1 = ((bF t bl reps) ((ordO (bF t bl reps) (mC t bl reps 256).length (blkF bl 0) (g.1 * (mC t bl reps 256).length)).getD g.1 0) c.1) by omega, zg4 hno, hst]
         have hX2 : natsI (ordO (bF t bl reps) (mC t bl reps 256).length (blkF bl 0) (g.1 * (mC t bl reps 256).length + c.1)) ++ ([] ++ [((((bF t bl reps) ((ordO (bF t bl reps) (mC t bl reps 256).length (blkF bl 0) (g.1 * (mC t bl reps 256).length)).getD g.1 0) c.1) : Nat) : Int)]) = natsI (ordO (bF t bl reps) (mC t bl reps 256).length (blkF bl 0) (g.1 * (mC t bl reps 256).length + (c.1 + 1))) := by rw [hst, List.nil_append, z56]
         have hL0 : (ordO (bF t bl reps) (mC t bl reps 256).length (blkF bl 0) (g.1 * (mC t bl reps 256).length + c.1)).length + 1 = (ordO (bF t bl reps) (mC t bl reps 256).length (blkF bl 0) (g.1 * (mC t bl reps 256).length + (c.1 + 1))).length := by rw [hst, List.length_append]; rfl
         refine dnS [] (fun i => if i = 3 then 8 else i) cap3 (by omega) [0, 1, 2, 8, 4, 5, 6] uUo_0 uUo_0 uUo_0 uUo_0
        ·have hin : ((bF t bl reps) ((ordO (bF t bl reps) (mC t bl reps 256).length (blkF bl 0) (g.1 * (mC t bl reps 256).length)).getD g.1 0) c.1) ∈ (ordO (bF t bl reps) (mC t bl reps 256).length (blkF bl 0) (g.1 * (mC t bl reps 256).length + c.1)) := Classical.byContradiction fun hx => by
          rw [zb7 htl hx] at h_t92; exact absurd h_t92 (by decide)
         refine z0a ?_; rw [addC, if_pos hin] at hst; rw [hst]; refine dnS [] id c.2 hc2 [0, 1, 2, 3, 4, 5, 6] uUo_0 uUo_0 uUo_0 uUo_0
       ·intro y hy
        have hmem : ((bF t bl reps) ((ordO (bF t bl reps) (mC t bl reps 256).length (blkF bl 0) (g.1 * (mC t bl reps 256).length)).getD g.1 0) c.1) ∈ (ordO (bF t bl reps) (mC t bl reps 256).length (blkF bl 0) (g.1 * (mC t bl reps 256).length + (c.1 + 1))) := by rw [hst2]; exact znc _ _
        have hpl := z7x (k := reps.length) htl hmem
        have hol3 := zmd hok hout hlr.cl z6q (g.1 * (mC t bl reps 256).length + (c.1 + 1))
        refine z03 z2b fun _ hK53 => ?_
        iterate 5 refine z1n ?_
        refine z3o ?_; refine exA (.c (.int .i64 (((numP (bF t bl reps) (mC t bl reps 256).length (blkF bl 0) g.1 c.1 : Nat) : Int)))) (as_eq (congrArg (fun v => SV.c (Cell.int IntKind.i64 v)) ((congrArg (fun i => (z37 (ordO (bF t bl reps) (mC t bl reps 256).length (blkF bl 0) (g.1 * (mC t bl reps 256).length + (c.1 + 1))) reps.length).getD i 0) (by omega)).trans (hpl.trans (congrArg Nat.cast (numP_to hi hc).symm))))) ?_; refine z1n ?_; refine z9e ?_; refine s_nil ?_; apply hK53; refine z09 ?_; apply hK43; refine z03 z2b fun _ hK54 => ?_
        iterate 2 refine z1n ?_
        refine s_nil ?_; apply hK54
        have hX1 : (rowZ (bF t bl reps) (mC t bl reps 256).length (blkF bl 0) g.1 c.1).set (0 + ((c.1 : Nat) : Int).toNat * 1) ((numP (bF t bl reps) (mC t bl reps 256).length (blkF bl 0) g.1 c.1 : Nat) : Int) = rowZ (bF t bl reps) (mC t bl reps 256).length (blkF bl 0) g.1 (c.1 + 1) := by rw [show 0 + ((c.1 : Nat) : Int).toNat * 1 = c.1 by omega]; exact rowZ_set hc
        refine dnS [] id (c.1 + 1, y) ⟨⟨by show c.1 + 1 ≤ _; omega, hy⟩, by show _ - (c.1 + 1) < _; omega⟩ [0, 1, 2, 3, 4, 5, 6] ?_ ?_ ?_ ?_
        ·exact uUo_0
        ·exact uUo_0
        ·exact uUo_0
        ·exact uUo_0
      ·try simp only [dQ, if_true, if_false, reduceIte] at h_t73
       refine z0m ?_; refine z02 ?_; refine z02 ?_; refine z0i ?_; apply hK37
       have hce : c.1 = (mC t bl reps 256).length := by omega
       have hpe : g.1 * (mC t bl reps 256).length + c.1 = (g.1 + 1) * (mC t bl reps 256).length := by rw [hce, Nat.succ_mul]
       rw [hpe]; rw [hpe] at hc2
       have hRZ : rowZ (bF t bl reps) (mC t bl reps 256).length (blkF bl 0) g.1 c.1 = rowP (bF t bl reps) (mC t bl reps 256).length (blkF bl 0) g.1 (mC t bl reps 256).length := by rw [hce, zsg]
       rw [hRZ]; refine leW [6] id [(1, .c (.dp (tabC t) 0)), (2, .c (.ptr 0 0)), (3, .c (.ds bl.length (.ints .i64 (natsI bl)))), (4, .c (.ds reps.length (.ints .i64 (natsI reps)))), (5, .c (.ds (mC t bl reps 256).length (.ints .i64 (natsI (mC t bl reps 256))))), (7, .c (.ptr 1 0)), (8, .c (.slice 2 0 reps.length reps.length)), (9, .c (.slice 3 0 (ordO (bF t bl reps) (mC t bl reps 256).length (blkF bl 0) ((g.1 + 1) * (mC t bl reps 256).length)).length c.2)), (11, .c (.int .i64 (g.1 : Nat))), (12, .c (.int .i64 ((rpF reps ((ordO (bF t bl reps) (mC t bl reps 256).length (blkF bl 0) (g.1 * (mC t bl reps 256).length)).getD g.1 0)) : Nat))), (13, .c (.ds (mC t bl reps 256).length (.ints .i64 (rowP (bF t bl reps) (mC t bl reps 256).length (blkF bl 0) g.1 (mC t bl reps 256).length))))] [(0, .own 30 (.cells [.nils, .nils, .nils]) 3), (1, .own 30 (.cells [.ds (mC t bl reps 256).length (.u64s cw), .slice 4 0 g.1 g.2.2.1, .slice 5 0 g.1 g.2.2.2]) 3), (2, .own 3 (.ints .i64 (z37 (ordO (bF t bl reps) (mC t bl reps 256).length (blkF bl 0) ((g.1 + 1) * (mC t bl reps 256).length)) reps.length)) reps.length), (3, .own 3 (.ints .i64 (natsI (ordO (bF t bl reps) (mC t bl reps 256).length (blkF bl 0) ((g.1 + 1) * (mC t bl reps 256).length)))) c.2), (4, .own 51 (.cells (rowsC (rowsP (bF t bl reps) (mC t bl reps 256).length (blkF bl 0) g.1))) g.2.2.1), (5, .own 4 (.bools (accP t bl reps g.1)) g.2.2.2)] 6 [0, 1, 2, 3, 4, 5] uUo_0 uUo_0 uUo_0 uUo_0 ?_; refine srR z2b fun _ hK56 => ?_
       iterate 4 refine z1n ?_
       refine z3o ?_; intro cap4 hcap4; refine exI ?_; refine z1n ?_; refine z9e ?_; refine s_nil ?_; apply hK56
       revert cap4 hcap4
       intro capA hcapA
       have hal := hok.alen
       refine z72 z2b [(0, true), (1, true), (2, true), (3, true), (4, true), (5, true), (6, true), (7, false), (8, false), (9, true), (10, false)] rfl (by kernel_rfl) (by kernel_rfl) fun _ hK57 => ?_
       iterate 3 refine zo8 ?_
       refine zhu ?_; refine exA (.c (.ds t.acc.length (.bools t.acc))) (as_eq (congrArg SV.c (zjy hcl))) ?_
       iterate 2 refine zo8 ?_
       refine zhu ?_; refine exA (.c (.bool (t.acc.getD (rpF reps ((ordO (bF t bl reps) (mC t bl reps 256).length (blkF bl 0) (g.1 * (mC t bl reps 256).length)).getD g.1 0)) false))) (as_eq (congrArg (fun v => SV.c (Cell.bool v)) (congrArg (fun i => t.acc.getD i false) (by omega)))) ?_; refine gXUo_4 ?_; refine zmc ?_; intro cap8 hcap8; refine exI ?_; refine zo8 ?_; refine gX0Uo_5 ?_; refine d_nil ?_; apply hK57; refine z09 ?_; apply hK32; refine z03 z2b fun _ hK58 => ?_
       iterate 3 refine z1n ?_
       refine s_nil ?_; apply hK58
       have hlen2 := z2j (f := (bF t bl reps)) (nc := (mC t bl reps 256).length) (b0 := (blkF bl 0)) (p := g.1 * (mC t bl reps 256).length) (q := (g.1 + 1) * (mC t bl reps 256).length) (Nat.mul_le_mul_right _ (by omega))
       have hah : ∀ j, j < g.1 + 1 → j < (ordO (bF t bl reps) (mC t bl reps 256).length (blkF bl 0) (j * (mC t bl reps 256).length)).length := fun j hj => by
        rcases Nat.lt_or_ge j g.1 with h1 | h1
        ·exact hga j h1
        ·obtain rfl : j = g.1 := by omega
         exact hi
       have hX3 : accP t bl reps g.1 ++ ([] ++ [t.acc.getD (rpF reps ((ordO (bF t bl reps) (mC t bl reps 256).length (blkF bl 0) (g.1 * (mC t bl reps 256).length)).getD g.1 0)) false]) = accP t bl reps (g.1 + 1) := zud t bl reps g.1
       have hXR : rowsC (rowsP (bF t bl reps) (mC t bl reps 256).length (blkF bl 0) g.1) ++ ([] ++ [.ds (mC t bl reps 256).length (.ints .i64 (rowP (bF t bl reps) (mC t bl reps 256).length (blkF bl 0) g.1 (mC t bl reps 256).length))]) = rowsC (rowsP (bF t bl reps) (mC t bl reps 256).length (blkF bl 0) (g.1 + 1)) := by
        have := z5r (rowsP (bF t bl reps) (mC t bl reps 256).length (blkF bl 0) g.1) (rowP (bF t bl reps) (mC t bl reps 256).length (blkF bl 0) g.1 (mC t bl reps 256).length)
        rw [zlx, zq7] at this; exact this
       refine dnS [] (fun i => if i = 4 then 7 else if i = 5 then 9 else i) (g.1 + 1, c.2, capA, cap8) ⟨⟨by show g.1 + 1 ≤ _; omega, hah, (by show g.1 + 1 ≤ (ordO (bF t bl reps) (mC t bl reps 256).length (blkF bl 0) ((g.1 + 1) * (mC t bl reps 256).length)).length; omega), hc2, (by show g.1 + 1 ≤ capA; omega), (by show g.1 + 1 ≤ cap8; omega)⟩, by show _ - (g.1 + 1) < _; omega⟩ [0, 1, 2, 3, 7, 9] ?_ ?_ ?_ ?_
       ·exact uUo_0
       ·exact uUo_0
       ·exact uUo_0
       ·exact uUo_0
    ·try simp only [dQ, if_true, if_false, reduceIte] at h_t57
     refine z0m ?_; refine z02 ?_; refine z02 ?_; refine z0i ?_; apply hK26
     have hclo := zjm hmp hg.2.1 (by omega)
     have hcan := can_end ht hout hcw hclo
     refine leW [4, 5] id [(2, .c (.ptr 0 0)), (7, .c (.ptr 1 0))] [(0, .own 30 (.cells [.nils, .nils, .nils]) 3), (1, .own 30 (.cells [.ds (mC t bl reps 256).length (.u64s cw), .ds g.1 (.cells (rowsC (rowsP (bF t bl reps) (mC t bl reps 256).length (blkF bl 0) g.1))), .ds g.1 (.bools (accP t bl reps g.1))]) 3)] 2 [0, 1] uUo_0 uUo_0 uUo_0 uUo_0 ?_; refine srR z2b fun _ hK60 => ?_; refine z1n ?_; refine z9e ?_; refine s_nil ?_; apply hK60; rw [hcan]; refine z0e (z0f z2b (fun _ _ h => h) (zuf _) [] [.cell 2 30] rfl ?_)
     repeat first | refine aI (by first | exact trivial | rfl | exact ⟨rfl, rfl⟩ | decide) ?_ | refine z06 (by first | exact ⟨rfl, rfl⟩ | rfl | decide) ?_ | refine z04 (by first | rfl | decide) ?_
     all_goals exact uUo_0


end Go.Proofs.YtppmnaoollkboaaDoor

namespace Go.Proofs.YtppmnaoollkboaaDoor
set_option linter.all false
open Go.Ab Go.RowKit

theorem qUp0 {a : Prop} (h : a := by first | exact vcA | (simp [-List.reduceReplicate] <;> omega) | exact vTh | exact vcB) : a := h
theorem uUp_0 {a : Prop} (h : a := by
    repeat' (first | exact z35 _ | exact pT  | exact trivial | refine aI ?_ ?_ | exact cC0 | refine low_cons' ?_ ?_ | exact cC1 | fail)
    all_goals first | omega | exact z35 _ | (show (_ : List Bool) = _; first | assumption | rfl) | (show allTo _ _ _; rw [zug hcl rfl]; refine z3g ⟨rfl, rfl⟩ ?_; (repeat' (first | exact trivial | refine aI ?_ ?_ | rfl | omega | decide | (simp; done) | rw [if_pos ⟨rfl, by simp⟩]))) | (show (_ : Nat) = 0 ∧ _; exact ⟨rfl, rfl⟩)| (show (0 : Nat) < (z01 _ _ _ _).length; rw [z00 hcl]; decide) | (simp [-List.reduceReplicate]; done) | (simp [-List.reduceReplicate] <;> omega) | skip) : a := h
theorem DUp_0 {a b : Prop} (kZ : b) (h : HidB b → a := by intro kZ; (repeat first | refine aI qUp0 ?_ | refine z06 qUp0 ?_ | refine z04 qUp0 ?_ | refine z0k qUp0 ?_ | refine z0b ?_); exact kZ.out) : a := h ⟨kZ⟩
theorem z5u {a b : Prop} (kZ : b) (h : HidB b → a := by intro kZ; refine sX ?_; refine DUp_0 ?_; refine exI ?_; exact kZ.out) : a := h ⟨kZ⟩
theorem zes {a b : Prop} (kZ : b) (h : HidB b → a := by intro kZ; refine sX0 ?_; refine DUp_0 ?_; refine exI ?_; exact kZ.out) : a := h ⟨kZ⟩
theorem zet {a b : Prop} (kZ : b) (h : HidB b → a := by intro kZ; refine sX ?_; refine DUp_0 ?_; exact kZ.out) : a := h ⟨kZ⟩
open Go.Aut
theorem zug {cell : List Int} {nc i : Nat} {x y z : Cell} (h : cell.length = 256) (hi : i = 258) : (z01 cell nc x y).set i z = z01 cell nc x z := by
  subst hi; rw [z01, z01, List.set_append_right _ _ (by simp [h])]
  simp [h]
def noD : Dfa := ⟨[], 0, [], []⟩
abbrev resV (r : Dfa × Nat) : SV := .tup [.agg (dfaC r.1), .c (.int .i64 ((r.2 : Nat) : Int))]
def limL (d : Dfa) : Dfa × Nat := if 64 < d.next.length then (noD, 2) else (d, 0)
theorem z35 (d : Dfa) {n : Nat} : (dfaC d).low n := low_cons' trivial (low_cons' trivial (low_cons' trivial low_nil'))
theorem z1j (r : Dfa × Nat) : SV.low 0 (resV r) := List.forall_mem_cons.2 ⟨z35 _, List.forall_mem_cons.2 ⟨trivial, fun _ h => by cases h⟩⟩
theorem z5v {d : Dfa} (h : d.good) : (tabD d).fit := ⟨tabD_ok h.1, Nat.le_trans h.2 (by decide), h.1.cmax⟩
theorem can_tabD (d : Dfa) : canD ((tblT (tabD d)).lang 0) = canD (langD d) := z3r fun w hw => za1 d 0 hw
noncomputable def zk4 (d : Dfa) : Dfa × Nat := if z2e d = true then (canD (langD d), 0) else (noD, 1)
theorem z9w {t : Tab} (h : t.ok) : ∀ (w : List Nat) (s : Nat), Bytes w → s < t.next.length → (tblT t).run s w < t.next.length
  | [], _, _, hs => hs
  | b :: w, s, hw, hs => z9w h w _ (fun x hx => hw x (List.mem_cons_of_mem _ hx)) (nextN h hs (cellN h (hw b List.mem_cons_self)).1).1
def notL (l : List Bool) (k : Nat) : List Bool := (List.range l.length).map fun i => if i < k then !l.getD i false else false
@[simp] theorem notL_length (l : List Bool) (k : Nat) : (notL l k).length = l.length := by simp [notL]
theorem notL_zero (l : List Bool) : List.replicate l.length false = notL l 0 := by simp [notL, List.map_const']
attribute [local irreducible] z0l z26 zl z01 z16 putB notL canD
noncomputable def gp1 : Ctx := { P := Tryd.prog, ty := ty, glob := gl, fs := [(75, .data zga), (50, .flat zhj), (74, .data zct)] }
theorem z6r : gp1.OK := ⟨tyOK, ⟨⟨z08 Tryd.func75 (by kernel_rfl) rfl, zk3⟩, ⟨z08 Tryd.func50 (by kernel_rfl) rfl, zed⟩, ⟨z08 Tryd.func74 (by kernel_rfl) rfl, zbc⟩, trivial⟩, mixed⟩
@[simp] theorem gp1_ty : gp1.ty = ty := rfl

def zoa : QSpec := fun vs K => ∃ t : Tab, vs = [tabV t] ∧ t.fit ∧ K (resV (limL (canD ((tblT t).lang 0))))
set_option maxHeartbeats 1000000 in
set_option maxRecDepth 4000 in
theorem zqj : z24 Tryd.prog gl 83 zoa := by
 refine z1x (Γ := gp1) (N := 13) Tryd.func83 rfl rfl fun vs K h => ?_; obtain ⟨t, rfl, ht, h⟩ := h; refine ⟨_, h, z1j _, by simp, fun w I => ?_⟩
 have ht0 := ht
 obtain ⟨hok, hlen, hnc⟩ := ht0
 have hcl := hok.clen
 refine srR z6r fun _ hK2 => ?_
 iterate 3 refine z5u ?_
 refine s_nil ?_; apply hK2; refine leW [0] (fun _ => 1) [(1, .c (.dp (tabC t) 0)), (2, .c (.ptr 0 0))] [(0, .own 30 (.cells [.nils, .nils, .nils]) 3)] 1 [1] uUp_0 uUp_0 uUp_0 uUp_0 ?_; refine srR z6r fun _ hK4 => ?_; refine zet ?_; refine exA (tabV t) (SV.as_refl _) ?_; refine zet ?_; refine aI (z3y _) ?_; refine z51 _ ?_; refine ⟨t, rfl, ht, ?_⟩; obtain ⟨d, hd⟩ : ∃ d, d = canD ((tblT t).lang 0) := ⟨_, rfl⟩; rw [← hd]
 simp only [z8p]
 refine DUp_0 ?_
 first | refine exI ?_ | (intro cap1 hcap1; refine exI ?_)
 refine z5u ?_; refine zes ?_; refine s_nil ?_; apply hK4; refine seq_k fun _ hK5 => ?_; refine srR z6r fun _ hK7 => ?_
 iterate 4 refine z5u ?_
 refine s_nil ?_; apply hK7; refine z05 (b := _) rfl (fun h_t10 => ?_) (fun h_t10 => ?_)
 ·try simp only [dQ, if_true, if_false, reduceIte] at h_t10
  refine srR z6r fun _ hK9 => ?_; refine z5u ?_; refine zes ?_; refine z5u ?_; refine s_nil ?_; apply hK9; rw [← hd, limL, if_pos (by omega)]; refine z0e (z0f z6r (fun _ _ h => h) (z1j _) [] [.cell 2 30, .tmp 3] rfl ?_)
  repeat first | refine aI (by first | exact trivial | rfl | exact ⟨rfl, rfl⟩ | decide) ?_ | refine z06 (by first | rfl | decide) ?_ | refine z04 (by first | rfl | decide) ?_
  all_goals exact uUp_0
 ·try simp only [dQ, if_true, if_false, reduceIte] at h_t10
  refine z0a ?_; apply hK5; refine srR z6r fun _ hK11 => ?_; refine z5u ?_; refine zes ?_; refine z5u ?_; refine s_nil ?_; apply hK11; rw [← hd, limL, if_neg (by omega)]; refine z0e (z0f z6r (fun _ _ h => h) (z1j _) [] [.cell 2 30, .tmp 3] rfl ?_)
  repeat first | refine aI (by first | exact trivial | rfl | exact ⟨rfl, rfl⟩ | decide) ?_ | refine z06 (by first | rfl | decide) ?_ | refine z04 (by first | rfl | decide) ?_
  all_goals exact uUp_0

def canonS : QSpec := fun vs K => ∃ d : Dfa, vs = [dfaV d] ∧ d.wf ∧ K (resV (zk4 d))
set_option maxHeartbeats 1000000 in
set_option maxRecDepth 4000 in
theorem canon_ok : z24 Tryd.prog gl 30 canonS := by
 refine z1x (Γ := gp1) (N := 11) Tryd.func30 rfl rfl fun vs K h => ?_; obtain ⟨d, rfl, hw, h⟩ := h; refine ⟨_, h, z1j _, by simp, fun w I => ?_⟩; refine srR z6r fun _ hK2 => ?_
 iterate 3 refine z5u ?_
 refine s_nil ?_; apply hK2; refine seq_k fun _ hK3 => ?_; refine srR z6r fun _ hK5 => ?_; refine z5u ?_; refine zet ?_; refine ⟨d, rfl, hw, ?_⟩; refine DUp_0 ?_
 first | refine exI ?_ | (intro cap1 hcap1; refine exI ?_)
 refine z5u ?_; refine s_nil ?_; apply hK5; refine z05 (b := _) rfl (fun h_t6 => ?_) (fun h_t6 => ?_)
 ·try simp only [dQ, if_true, if_false, reduceIte] at h_t6
  refine srR z6r fun _ hK7 => ?_; refine z5u ?_; refine zes ?_; refine z5u ?_; refine s_nil ?_; apply hK7; rw [zk4, if_neg (by simpa using h_t6)]; refine z0e (z0f z6r (fun _ _ h => h) (z1j _) [] [.cell 2 30, .tmp 3] rfl ?_)
  repeat first | refine aI (by first | exact trivial | rfl | exact ⟨rfl, rfl⟩ | decide) ?_ | refine z06 (by first | rfl | decide) ?_ | refine z04 (by first | rfl | decide) ?_
  all_goals exact uUp_0
 ·try simp only [dQ, if_true, if_false, reduceIte] at h_t6
  refine z0a ?_; apply hK3
  have hg := (z6n hw).1 (by simpa using h_t6)
  refine srR z6r fun _ hK9 => ?_; refine z5u ?_; refine zet ?_; refine ⟨d, rfl, hg, ?_⟩; refine DUp_0 ?_
  first | refine exI ?_ | (intro cap1 hcap1; refine exI ?_)
  refine zet ?_; refine aI (z3y _) ?_; refine z51 _ ?_; refine ⟨tabD d, rfl, z5v hg, ?_⟩; rw [can_tabD]
  simp only [z8p]
  refine DUp_0 ?_
  first | refine exI ?_ | (intro cap2 hcap2; refine exI ?_)
  refine zes ?_; refine z5u ?_; refine s_nil ?_; apply hK9; rw [zk4, if_pos (by simpa using h_t6)]; refine z0e (z0f z6r (fun _ _ h => h) (z1j _) [] [.cell 2 30, .tmp 3] rfl ?_)
  repeat first | refine aI (by first | exact trivial | rfl | exact ⟨rfl, rfl⟩ | decide) ?_ | refine z06 (by first | rfl | decide) ?_ | refine z04 (by first | rfl | decide) ?_
  all_goals exact uUp_0

end Go.Proofs.YtppmnaoollkboaaDoor
