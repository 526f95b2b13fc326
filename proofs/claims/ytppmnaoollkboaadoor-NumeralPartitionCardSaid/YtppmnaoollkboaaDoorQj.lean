/- Part 10 of what the claims of this seat share: the walk's engine, the functions' contracts, plain mathematics (Utb, Utc). -/
import Derived.Test.YtppmnaoollkboaaDoorQi
import Derived.Test.YtppmnaoollkboaaDoorQf
import Derived.Test.YtppmnaoollkboaaDoorQh
namespace Go.Proofs.YtppmnaoollkboaaDoor
set_option linter.all false
open Go.Ab Go.RowKit

theorem qUtb0 {a : Prop} (h : a := by first | exact vcA | (simp [-List.reduceReplicate] <;> omega) | (show (_ : Nat) < 3; decide) | exact vTa | exact vTb | exact vcB) : a := h
theorem qUtb1 {a : Prop} (h : a := by first | exact vcA | (simp [-List.reduceReplicate] <;> omega) | (show (_ : Nat) < 3; decide) | exact vTa | exact vTb | exact vTp | exact zhs hpf.1.clen | exact zeq hpf.1.clen | (show (List.replicate 256 (0 : Int)).length = (jL _ _ _).length; rw [z0z, List.length_replicate]) | (show 256 = (jL _ _ _).length; rw [z0z]) | (show 0 < (jL _ _ _).length; rw [z0z]; decide) | (show 0 + (jL _ _ _).length ≤ (List.replicate 256 (0 : Int)).length; rw [z0z, List.length_replicate]; decide) | (show 0 + 256 * 1 ≤ (jL _ _ _).length; rw [z0z]; decide) | (show (jL _ _ _).length = 256 * 1; rw [z0z]) | exact vcB) : a := h
theorem z0u {a : Prop} (h : a := by
    repeat' (first | exact z35 _ | exact z9b _ | exact pT  | exact trivial | refine aI ?_ ?_ | exact cC0 | refine low_cons' ?_ ?_ | exact cC1 | fail)
    all_goals first | omega | exact z35 _ | exact List.mem_cons_self | (show 0 < (z01 _ _ _ _).length; rw [z00 hpf.1.clen]; decide) | (show 0 < (z01 _ _ _ _).length; rw [z00 ha.1.clen]; decide) | (show 0 < (z01 _ _ _ _).length; rw [z00 hb.1.clen]; decide) | (show 0 < (jL _ _ _).length; rw [z0z]; decide) | (intro x hx; cases hx)| (show (0 : Nat) < (z01 _ _ _ _).length; rw [z00 hcl]; decide) | (simp [-List.reduceReplicate]; done) | (simp [-List.reduceReplicate] <;> omega) | skip) : a := h
theorem zgb {a b : Prop} (kZ : b) (h : HidB b → a := by intro kZ; (repeat first | refine aI qUtb0 ?_ | refine z06 qUtb0 ?_ | refine z04 qUtb0 ?_ | refine z0k qUtb0 ?_ | refine z0b ?_); exact kZ.out) : a := h ⟨kZ⟩
theorem zup {a b : Prop} (kZ : b) (h : HidB b → a := by intro kZ; refine sX ?_; refine zgb ?_; refine exI ?_; exact kZ.out) : a := h ⟨kZ⟩
theorem z64 {a b : Prop} (kZ : b) (h : HidB b → a := by intro kZ; refine dX ?_; refine zgb ?_; refine exI ?_; exact kZ.out) : a := h ⟨kZ⟩
theorem gX0Utb_3 {a b : Prop} (kZ : b) (h : HidB b → a := by intro kZ; refine gX0 ?_; refine zgb ?_; refine exI ?_; exact kZ.out) : a := h ⟨kZ⟩
theorem z9f {a b : Prop} (kZ : b) (h : HidB b → a := by intro kZ; refine qX ?_; refine zgb ?_; refine exI ?_; exact kZ.out) : a := h ⟨kZ⟩
theorem z18 {a b : Prop} (kZ : b) (h : HidB b → a := by intro kZ; (repeat first | refine aI qUtb1 ?_ | refine z06 qUtb1 ?_ | refine z04 qUtb1 ?_ | refine z0k qUtb1 ?_ | refine z0b ?_); exact kZ.out) : a := h ⟨kZ⟩
theorem z86 {a b : Prop} (kZ : b) (h : HidB b → a := by intro kZ; refine sX ?_; refine z18 ?_; refine exI ?_; exact kZ.out) : a := h ⟨kZ⟩
theorem dXUtb_7 {a b : Prop} (kZ : b) (h : HidB b → a := by intro kZ; refine dX ?_; refine z18 ?_; refine exI ?_; exact kZ.out) : a := h ⟨kZ⟩
theorem zbh {a b : Prop} (kZ : b) (h : HidB b → a := by intro kZ; refine gX ?_; refine z18 ?_; refine exI ?_; exact kZ.out) : a := h ⟨kZ⟩
theorem z3j {a b : Prop} (kZ : b) (h : HidB b → a := by intro kZ; refine gX0 ?_; refine z18 ?_; refine exI ?_; exact kZ.out) : a := h ⟨kZ⟩
theorem zew {a b : Prop} (kZ : b) (h : HidB b → a := by intro kZ; refine sX0 ?_; refine z18 ?_; refine exI ?_; exact kZ.out) : a := h ⟨kZ⟩
theorem z2y {a b : Prop} (kZ : b) (h : HidB b → a := by intro kZ; refine dX ?_; refine zgb ?_; exact kZ.out) : a := h ⟨kZ⟩
theorem z6s {a b : Prop} (kZ : b) (h : HidB b → a := by intro kZ; refine qX ?_; refine zgb ?_; exact kZ.out) : a := h ⟨kZ⟩
theorem z4j {a b : Prop} (kZ : b) (h : HidB b → a := by intro kZ; refine gX ?_; refine z18 ?_; exact kZ.out) : a := h ⟨kZ⟩
theorem z5d {a b : Prop} (kZ : b) (h : HidB b → a := by intro kZ; refine sX ?_; refine z18 ?_; exact kZ.out) : a := h ⟨kZ⟩

open Go.Aut
theorem not_big {S : Type} [DecidableEq S] [Inhabited S] {f : S → Nat → S} {nc : Nat} {b0 : S} {m : Nat} (h : ¬ Big f nc b0 m) : ∃ n, Full f nc b0 n ∧ n ≤ m := by
  have he : ∃ i, (expO f nc b0 (i * nc)).length ≤ i ∧ i ≤ m := by
    refine Classical.byContradiction fun hn => h ⟨m, 0, fun j hj => ?_, Nat.zero_le _, ?_⟩
    · rcases Nat.lt_or_ge j (expO f nc b0 (j * nc)).length with h1 | h1
      · exact h1
      · exact absurd ⟨j, h1, hj⟩ hn
    · rcases Nat.lt_or_ge m (expO f nc b0 (m * nc)).length with h1 | h1
      · exact h1
      · exact absurd ⟨m, h1, Nat.le_refl _⟩ hn
  obtain ⟨i, ⟨hi, him⟩, hlt⟩ := least he; refine ⟨i, zsk (fun j hj => ?_) hi, him⟩
  have := hlt j hj
  rcases Nat.lt_or_ge j (expO f nc b0 (j * nc)).length with h1 | h1
  · exact h1
  · exact absurd ⟨h1, by omega⟩ this
theorem jrep_le (a b : Tab) : (jrep (cN a) (cN b)).length ≤ 256 := by rw [← jR_all]; exact jR_len a b 256
attribute [local irreducible] allB
theorem jrep_lt (c d : Nat → Nat) : ∀ x ∈ jrep c d, x < 256 := fun x hx => z5m.1 (zb4 hx)
theorem nc_st (s : Stt) : ∀ x ∈ encS s, ∀ g cs, x ≠ Cell.clo g cs := recS.dat s |>.noclo
structure JIn (a b : Tab) : Prop where
  pos : 0 < (jrep (cN a) (cN b)).length
  max : (jrep (cN a) (cN b)).length ≤ 256
  byte : ∀ x ∈ jrep (cN a) (cN b), x < 256
  cl : ∀ x ∈ jL a b 256, 0 ≤ x ∧ x < ((jrep (cN a) (cN b)).length : Nat)
  on : ∀ c, c < (jrep (cN a) (cN b)).length → ∃ x, x < 256 ∧ ((jL a b 256).getD x 0).toNat = c
  at' : ∀ x, x < 256 → ((jL a b 256).getD x 0).toNat < (jrep (cN a) (cN b)).length ∧ ∃ r, (jrep (cN a) (cN b)).getD ((jL a b 256).getD x 0).toNat 0 = r ∧ cN a r = cN a x ∧ cN b r = cN b x ∧ r < 256
theorem j_in (a b : Tab) : JIn a b := by
  have hL : ∀ x, x < 256 → ((jL a b 256).getD x 0).toNat = jcell (cN a) (cN b) x := fun x hx => by rw [jL, z0h hx, if_pos hx]; rfl
  refine ⟨jrep_pos, jrep_le a b, jrep_lt _ _, fun x hx => ?_, fun c hc => ?_, fun x hx => ?_⟩
  · obtain ⟨y, hy, rfl⟩ := List.mem_map.1 hx
    have hy := List.mem_range.1 hy
    have := zh7 (c := cN a) (d := cN b) hy
    rw [if_pos hy]; exact ⟨by omega, by omega⟩
  · obtain ⟨x, hx, e⟩ := zq2 hc
    exact ⟨x, hx, by rw [hL x hx]; exact e⟩
  · rw [hL x hx]
    obtain ⟨r, h1, h2, h3, h4⟩ := jrep_get (c := cN a) (d := cN b) hx; exact ⟨zh7 hx, r, z4o h1, h2, h3, h4⟩
def prodG (a b : Tab) (s : Stt) (c : Nat) : Stt := ((tblT a).δ s.1 (cN a c), (tblT b).δ s.2.1 (cN b c), 0)
def prodA (op : Bool → Bool → Bool) (a b : Tab) (s : Stt) : Bool := op (a.acc.getD s.1 false) (b.acc.getD s.2.1 false)
def prodI (a b : Tab) (s : Stt) : Prop := s.1 < a.next.length ∧ s.2.1 < b.next.length ∧ s.2.2 = 0
theorem zuq {a b : Tab} (ha : a.fit) (hb : b.fit) {s : Stt} {c : Nat} (hs : prodI a b s) (hc : c < 256) : prodI a b (prodG a b s c) :=
  ⟨(nextN ha.1 hs.1 (cellN ha.1 hc).1).1, (nextN hb.1 hs.2.1 (cellN hb.1 hc).1).1, rfl⟩
theorem prodI_ok {a b : Tab} (ha : a.fit) (hb : b.fit) {s : Stt} (hs : prodI a b s) : okS s := by
 have h1 := ha.2.1
 have h2 := hb.2.1
 exact ⟨by have := hs.1; omega, by have := hs.2.1; omega⟩
theorem zqk {a b : Tab} (s : Stt) {x : Nat} (hx : x < 256) : stepF (prodG a b) (jrep (cN a) (cN b)) s ((jL a b 256).getD x 0).toNat = prodG a b s x := by
  obtain ⟨_, r, h1, h2, h3, _⟩ := (j_in a b).at' x hx; rw [stepF, h1, prodG, prodG, h2, h3]
noncomputable def prodT (op : Bool → Bool → Bool) (a b : Tab) : Tab := (exR (prodG a b) (prodA op a b) (jL a b 256) (jrep (cN a) (cN b)) (0, 0, 0) 1073741824).1
theorem zog {a b : Tab} (ha : a.fit) (hb : b.fit) (h64 : a.next.length ≤ 64 ∧ b.next.length ≤ 64) {m : Nat} (hm : 4096 ≤ m) : ¬ Big (stepF (prodG a b) (jrep (cN a) (cN b))) (jrep (cN a) (cN b)).length (0, 0, 0) m := by
  rintro ⟨i, k, hj, hk, hl⟩
  have hin : ∀ s ∈ expO (stepF (prodG a b) (jrep (cN a) (cN b))) (jrep (cN a) (cN b)).length (0, 0, 0) (i * (jrep (cN a) (cN b)).length + k), prodI a b s :=
    zu2 (Inv := prodI a b) ⟨ha.1.npos, hb.1.npos, rfl⟩ (fun s c hs hc => zuq ha hb hs hc) (j_in a b).byte (j_in a b).pos (exp_hz (j_in a b).pos hj hk)
  have hn := z55 (f := stepF (prodG a b) (jrep (cN a) (cN b))) (nc := (jrep (cN a) (cN b)).length) (b0 := ((0, 0, 0) : Stt)) (i * (jrep (cN a) (cN b)).length + k)
  have h1 : ((expO (stepF (prodG a b) (jrep (cN a) (cN b))) (jrep (cN a) (cN b)).length (0, 0, 0) (i * (jrep (cN a) (cN b)).length + k)).map fun s : Stt => s.1 * 64 + s.2.1).Nodup := by
    refine List.pairwise_map.2 (List.Pairwise.imp_of_mem ?_ hn); intro s q hs hq hne e
    have a1 := hin s hs
    have a2 := hin q hq
    refine hne ?_
    have b1 := a1.1; have b2 := a1.2.1; have b3 := a2.1; have b4 := a2.2.1
    have e1 : s.1 = q.1 := by omega
    have e2 : s.2.1 = q.2.1 := by omega
    exact Prod.ext e1 (Prod.ext e2 (a1.2.2.trans a2.2.2.symm))
  have h2 := z5n (K := 4096) h1 fun x hx => by
    obtain ⟨s, hs, rfl⟩ := List.mem_map.1 hx
    have a1 := hin s hs
    have b1 := a1.1; have b2 := a1.2.1
    omega
  rw [List.length_map] at h2
  omega
theorem zk6 (a b : Tab) : ∀ (w : List Nat) (s : Stt), (runB (prodG a b) s w).1 = runB (fun p c => (tblT a).δ p (cN a c)) s.1 w ∧ (runB (prodG a b) s w).2.1 = runB (fun p c => (tblT b).δ p (cN b c)) s.2.1 w
  | [], s => ⟨rfl, rfl⟩
  | c :: w, s => zk6 a b w (prodG a b s c)
theorem zbi {op : Bool → Bool → Bool} {a b : Tab} (ha : a.fit) (hb : b.fit) (h64 : a.next.length ≤ 64 ∧ b.next.length ≤ 64) : (prodT op a b).fit ∧ ∀ w, Bytes w → (tblT (prodT op a b)).lang 0 w = op ((tblT a).lang 0 w) ((tblT b).lang 0 w) := by
  have hnb := zog ha hb h64 (m := 1073741824) (by decide)
  obtain ⟨n, hn, hle⟩ := not_big (zog ha hb h64 (m := 4096) (Nat.le_refl _))
  have hn0 : 0 < n := by
    rcases Nat.eq_zero_or_pos n with e | e
    · subst e
      have := hn.len
      have h2 := zh6 (f := stepF (prodG a b) (jrep (cN a) (cN b))) (nc := (jrep (cN a) (cN b)).length) (b0 := ((0, 0, 0) : Stt)) (0 * (jrep (cN a) (cN b)).length)
      omega
    · exact e
  have e : prodT op a b = tabQ (stepF (prodG a b) (jrep (cN a) (cN b))) (prodA op a b) (jL a b 256) (jrep (cN a) (cN b)).length (0, 0, 0) n := by
    rw [prodT, exR, if_neg hnb, exN_of hn]
  have hj := j_in a b
  rw [e]; refine ⟨⟨tabQ_ok hn hn0 (z0z a b 256) hj.cl hj.on, ?_, hj.max⟩, fun w hw => ?_⟩
  · show (rowsQ _ _ _ n).length ≤ 65535
    rw [z4g]; omega
  · rw [zsn (g := prodG a b) hn hn0 (fun x hx => (hj.at' x hx).1) (fun s x hx => zqk s hx) hw]
    obtain ⟨h1, h2⟩ := zk6 a b w (0, 0, 0); rw [prodA, h1, h2, ze5, ze5]; rfl
def combB (op : Bool → Bool → Bool) (d e : Dfa) : List Nat → Bool := fun w => op (langD d w) (langD e w)
theorem prod_can {op : Bool → Bool → Bool} {d e : Dfa} (hd : d.good) (he : e.good) : canD ((tblT (prodT op (tabD d) (tabD e))).lang 0) = canD (combB op d e) := z3r fun w hw => by
  rw [(zbi (z5v hd) (z5v he) ⟨hd.2, he.2⟩).2 w hw, za1 d 0 hw, za1 e 0 hw]; rfl
noncomputable def combR (op : Bool → Bool → Bool) (d e : Dfa) : Dfa × Nat := if z2e d = true ∧ z2e e = true then limL (canD (combB op d e)) else (noD, 1)
def dpT (t : Tab) : Cell := .dp (tabC t) 0
theorem nc_2 (a b : Tab) : ∀ x ∈ [dpT a, dpT b], ∀ g l, x ≠ Cell.clo g l := fun x hx g l => by
  rcases List.mem_cons.1 hx with rfl | hx
  · intro e; cases e
  · rw [List.mem_singleton.1 hx]; intro e; cases e
attribute [local irreducible] z0l z26 zl z01 z16 putB jL jcell jrep
def zur : QSpec := fun vs K => ∃ (a b : Tab) (s : Stt) (c : Nat), vs = [stV s, .c (.int .i64 (c : Int)), .c (dpT a), .c (dpT b)] ∧ (a.fit ∧ b.fit ∧ prodI a b s ∧ c < 256) ∧ K (stV (prodG a b s c))
set_option maxHeartbeats 1000000 in
set_option maxRecDepth 4000 in
theorem prod1_ok : z1e Tryd.prog gl 142 zur := by
 refine z23 (Γ := g0) (N := 32) Tryd.func142 rfl rfl fun vs K h => ?_; obtain ⟨a, b, s, c, rfl, ⟨ha, hb, hs, hc⟩, h⟩ := h; refine ⟨_, h, rfl, by simp, fun w I => ?_⟩; refine srR g0_ok fun _ hK2 => ?_
 iterate 2 refine zup ?_
 refine s_nil ?_; apply hK2
 have hxa : (tblT a).δ s.1 (cN a c) < a.next.length ∧ (a.next.getD s.1 []).getD (cN a c) 0 = ((tblT a).δ s.1 (cN a c) : Nat) := nextN ha.1 hs.1 (cellN ha.1 hc).1
 have hxb : (tblT b).δ s.2.1 (cN b c) < b.next.length ∧ (b.next.getD s.2.1 []).getD (cN b c) 0 = ((tblT b).δ s.2.1 (cN b c) : Nat) := nextN hb.1 hs.2.1 (cellN hb.1 hc).1
 have hra := zeh ha.1 hs.1
 have hrb := zeh hb.1 hs.2.1
 have hca := (cellN ha.1 hc).1
 have hcb := (cellN hb.1 hc).1
 have hs1 := hs.1
 have hs2 := hs.2.1
 have hca2 : cN a c < a.nc := hca
 have hcb2 : cN b c < b.nc := hcb
 refine srD g0_ok [(0, true), (1, true), (2, true), (3, true), (4, true), (5, true), (6, true), (7, true), (8, true), (9, true), (10, true), (11, true), (12, true), (13, true), (14, true), (15, true), (16, true), (17, true), (18, true), (19, true), (20, true), (21, true), (22, true), (23, true), (24, true), (25, false)] rfl (by kernel_rfl) (by kernel_rfl) fun _ hK4 => ?_; refine z64 ?_; refine z2y ?_; refine exA (.c (.ds a.next.length (.cells (rowsC a.next)))) (as_eq (congrArg SV.c (z7k ha.1.clen))) ?_; refine z64 ?_; refine z2y ?_; refine exA (.c (.int .i64 (((s.1 : Nat) : Int)))) (as_eq (congrArg (fun v => SV.c (Cell.int IntKind.i64 v)) (rfl))) ?_; refine z64 ?_; refine z2y ?_; refine exA (.c (.ds (a.next.getD s.1 []).length (.ints .i64 (a.next.getD s.1 [])))) (as_eq (congrArg SV.c (z8v ⟨hs1, by omega⟩))) ?_
 iterate 3 refine z64 ?_
 refine z2y ?_; refine exA (.c (.int .i64 ((cN a c : Nat) : Int))) (as_eq (congrArg SV.c ((zg6 ha.1.clen (by first | omega | (simp; done)) hc).trans (congrArg (Cell.int IntKind.i64) (cellN ha.1 hc).2)))) ?_; refine z64 ?_; refine z2y ?_; refine exA (.c (.int .i64 ((((tblT a).δ s.1 (cN a c) : Nat) : Int)))) (as_eq (congrArg (fun v => SV.c (Cell.int IntKind.i64 v)) ((congrArg (fun i => (a.next.getD s.1 []).getD i 0) (by omega)).trans hxa.2))) ?_; refine z64 ?_; refine z2y ?_; refine exA (.c (.ds b.next.length (.cells (rowsC b.next)))) (as_eq (congrArg SV.c (z7k hb.1.clen))) ?_; refine z64 ?_; refine z2y ?_; refine exA (.c (.int .i64 (((s.2.1 : Nat) : Int)))) (as_eq (congrArg (fun v => SV.c (Cell.int IntKind.i64 v)) (rfl))) ?_; refine z64 ?_; refine z2y ?_; refine exA (.c (.ds (b.next.getD s.2.1 []).length (.ints .i64 (b.next.getD s.2.1 [])))) (as_eq (congrArg SV.c (z8v ⟨hs2, by omega⟩))) ?_
 iterate 3 refine z64 ?_
 refine z2y ?_; refine exA (.c (.int .i64 ((cN b c : Nat) : Int))) (as_eq (congrArg SV.c ((zg6 hb.1.clen (by first | omega | (simp; done)) hc).trans (congrArg (Cell.int IntKind.i64) (cellN hb.1 hc).2)))) ?_; refine z64 ?_; refine z2y ?_; refine exA (.c (.int .i64 ((((tblT b).δ s.2.1 (cN b c) : Nat) : Int)))) (as_eq (congrArg (fun v => SV.c (Cell.int IntKind.i64 v)) ((congrArg (fun i => (b.next.getD s.2.1 []).getD i 0) (by omega)).trans hxb.2))) ?_; refine z2y ?_; refine exA (stV (prodG a b s c)) (SV.as_refl _) ?_; refine gX0Utb_3 ?_; refine d_nil ?_; apply hK4; refine z0e (z0d g0_ok (fun _ _ h => h) rfl [.cell 6 95] rfl ?_)
 repeat first | refine aI (by first | exact trivial | rfl | (show (_ : Nat) ≤ 3; decide) | (show (_ : Nat) < 3; decide) | decide) ?_ | refine z06 (by rfl) ?_
 rfl

def boxF (f : FuncId) : Cell := .dp (.cells [.clo f []]) 0
theorem nc_3 (f : FuncId) (a b : Tab) : ∀ x ∈ [boxF f, dpT a, dpT b], ∀ g l, x ≠ Cell.clo g l := fun x hx g l => by
  rcases List.mem_cons.1 hx with rfl | hx
  · intro e; cases e
  · exact nc_2 a b x hx g l
def zus (hf : FuncId) (hq : QSpec) : QSpec := fun vs K => ∃ (op : Bool → Bool → Bool) (a b : Tab) (s : Stt), vs = [stV s, .c (boxF hf), .c (dpT a), .c (dpT b)] ∧ (a.fit ∧ b.fit ∧ prodI a b s) ∧ (∀ x y, hq [.c (.bool x), .c (.bool y)] (fun v => v = .c (.bool (op x y)))) ∧ K (.c (.bool (prodA op a b s)))
set_option maxHeartbeats 1000000 in
set_option maxRecDepth 4000 in
theorem prod2_ok {hf : FuncId} {hq : QSpec} (hen : z2s Tryd.prog hf) (hok : z1e Tryd.prog gl hf hq) : z1e Tryd.prog gl 143 (zus hf hq) := by
 refine z23 (Γ := gK hf hq) (N := 20) Tryd.func143 rfl rfl fun vs K h => ?_; obtain ⟨op, a, b, s, rfl, ⟨ha, hb, hs⟩, hcall, h⟩ := h; refine ⟨_, h, rfl, by simp, fun w I => ?_⟩
 have hlook := zsy (f := hf) (q := hq)
 refine srR (gK_ok hen hok) fun _ hK2 => ?_
 iterate 2 refine zup ?_
 refine s_nil ?_; apply hK2
 have hs1 := hs.1
 have hs2 := hs.2.1
 have hla := ha.1.alen
 have hlb := hb.1.alen
 refine srQ (gK_ok hen hok) (by kernel_rfl) fun _ hK4 => ?_
 iterate 2 refine z9f ?_
 refine z6s ?_; refine exA (.c (.ds a.acc.length (.bools a.acc))) (as_eq (congrArg SV.c (zjy ha.1.clen))) ?_; refine z9f ?_; refine z6s ?_; refine exA (.c (.int .i64 (((s.1 : Nat) : Int)))) (as_eq (congrArg (fun v => SV.c (Cell.int IntKind.i64 v)) (rfl))) ?_; refine z9f ?_; refine z6s ?_; refine exA (.c (.bool (a.acc.getD s.1 false))) (as_eq (congrArg (fun v => SV.c (Cell.bool v)) (congrArg (fun i => a.acc.getD i false) (by omega)))) ?_; refine z9f ?_; refine z6s ?_; refine exA (.c (.ds b.acc.length (.bools b.acc))) (as_eq (congrArg SV.c (zjy hb.1.clen))) ?_; refine z9f ?_; refine z6s ?_; refine exA (.c (.int .i64 (((s.2.1 : Nat) : Int)))) (as_eq (congrArg (fun v => SV.c (Cell.int IntKind.i64 v)) (rfl))) ?_; refine z9f ?_; refine z6s ?_; refine exA (.c (.bool (b.acc.getD s.2.1 false))) (as_eq (congrArg (fun v => SV.c (Cell.bool v)) (congrArg (fun i => b.acc.getD i false) (by omega)))) ?_; refine qX ?_; refine zfe (xs := [.bool (a.acc.getD s.1 false), .bool (b.acc.getD s.2.1 false)]) hlook (z22 zft (z22 zft z3d)) z3d ?_; refine ⟨_, hcall _ _, ?_⟩
 first | refine exI ?_ | (intro cap13 hcap13; refine exI ?_)
 refine z9f ?_; refine q_nil ?_; apply hK4; refine z0e (z0d (gK_ok hen hok) (fun _ _ h => h) (by first | rfl | assumption) [.tmp 5] rfl ?_); refine rtD ?_
 rfl

noncomputable def gPr (hf : FuncId) (hq : QSpec) : Ctx := { P := Tryd.prog, ty := ty, glob := gl, fs := [(74, .data zct), (76, .data jointS), (80, .data (zo7 142 zur 143 (zus hf hq)))] }
theorem z1q {hf : FuncId} {hq : QSpec} (hen : z2s Tryd.prog hf) (hok : z1e Tryd.prog gl hf hq) : (gPr hf hq).OK := ⟨tyOK, ⟨⟨z08 Tryd.func74 (by kernel_rfl) rfl, zbc⟩, ⟨z08 Tryd.func76 (by kernel_rfl) rfl, joint_ok⟩, ⟨z08 Tryd.func80 (by kernel_rfl) rfl, zqi (z08 Tryd.func142 (by kernel_rfl) rfl) prod1_ok (z08 Tryd.func143 (by kernel_rfl) rfl) (prod2_ok hen hok) (by decide)⟩, trivial⟩, mixed⟩
@[simp] theorem gPr_ty {hf : FuncId} {hq : QSpec} : (gPr hf hq).ty = ty := rfl
theorem zut {hf : FuncId} {hq : QSpec} {op : Bool → Bool → Bool} {a b : Tab} (ha : a.fit) (hb : b.fit) (hcall : ∀ x y, hq [.c (.bool x), .c (.bool y)] (fun v => v = .c (.bool (op x y)))) : ExIn zur (zus hf hq) (prodG a b) (prodA op a b) (prodI a b) (jL a b 256) (jrep (cN a) (cN b)) (0, 0, 0) [dpT a, dpT b] [boxF hf, dpT a, dpT b] 1073741824 :=
  ⟨z0z a b 256, (j_in a b).pos, (j_in a b).max, (j_in a b).byte, by decide, Nat.le_refl _, z22 z4d (z22 z4d z3d), z22 z4d (z22 z4d (z22 z4d z3d)), ⟨ha.1.npos, hb.1.npos, rfl⟩, fun s hs => prodI_ok ha hb hs, fun s c hs hc => zuq ha hb hs hc,
   fun s c hs hc => ⟨a, b, s, c, rfl, ⟨ha, hb, hs, hc⟩, rfl⟩, fun s hs => ⟨op, a, b, s, rfl, ⟨ha, hb, hs⟩, hcall, rfl⟩⟩
attribute [local irreducible] prodT exR
def zoh (hf : FuncId) (hq : QSpec) : QSpec := fun vs K => ∃ (op : Bool → Bool → Bool) (d e : Dfa), vs = [dfaV d, dfaV e, .c (.clo hf [])] ∧ (d.good ∧ e.good) ∧ (∀ x y, hq [.c (.bool x), .c (.bool y)] (fun v => v = .c (.bool (op x y)))) ∧ K (tabV (prodT op (tabD d) (tabD e)))
set_option maxHeartbeats 1000000 in
set_option maxRecDepth 4000 in
theorem zql {hf : FuncId} {hq : QSpec} (hen : z2s Tryd.prog hf) (hok : z1e Tryd.prog gl hf hq) : z24 Tryd.prog gl 87 (zoh hf hq) := by
 refine z1x (Γ := gPr hf hq) (N := 35) Tryd.func87 rfl rfl fun vs K h => ?_; obtain ⟨op, d, e, rfl, ⟨hd, he⟩, hcall, h⟩ := h; refine ⟨_, h, z9b _, by simp, fun w I => ?_⟩
 have ha := z5v hd
 have hb := z5v he
 have hpf := (zbi (op := op) ha hb ⟨hd.2, he.2⟩).1
 obtain ⟨a, hae⟩ : ∃ a, a = tabD d := ⟨_, rfl⟩; obtain ⟨b, hbe⟩ : ∃ b, b = tabD e := ⟨_, rfl⟩; rw [← hae] at ha hpf; rw [← hbe] at hb hpf
 have hex := zut (hf := hf) (hq := hq) ha hb hcall
 rw [← hae, ← hbe]; refine srR (z1q hen hok) fun _ hK2 => ?_
 iterate 4 refine z86 ?_
 refine s_nil ?_; apply hK2; refine z2n (α := Unit) (fun _ => [(5, .c (boxF hf)), (6, .c (.ptr 0 0)), (7, .c (dpT a)), (8, .c (dpT b))]) (fun _ => [(0, .own 87 (.cells zl) 259)]) 1 (fun _ => True) ?_ ?_
 ·refine zdm (z1q hen hok) ?_
  refine z0w (z1q hen hok) (g := 6) (by kernel_rfl) [(0, true), (2, true)] (by kernel_rfl) fun _ hK4 => ?_
  iterate 2 refine dXUtb_7 ?_
  refine d_nil ?_; apply hK4; refine z25 [1, 4, 5] (by kernel_rfl) (by decide) (List.forall_mem_cons.2 ⟨?_, List.forall_mem_cons.2 ⟨?_, List.forall_mem_cons.2 ⟨?_, fun _ h => by cases h⟩⟩⟩)
  ·refine z0g (z1q hen hok) ?_
   refine z18 ?_; refine ⟨d, rfl, hd, ?_⟩; rw [← hae]; refine z18 ?_
   first | refine exI ?_ | (intro cap1 hcap1; refine exI ?_)
   refine z25 [3, 4, 5] (by kernel_rfl) (by decide) (List.forall_mem_cons.2 ⟨?_, List.forall_mem_cons.2 ⟨?_, List.forall_mem_cons.2 ⟨?_, fun _ h => by cases h⟩⟩⟩)
   ·refine z0g (z1q hen hok) ?_
    refine z18 ?_; refine ⟨e, rfl, he, ?_⟩; rw [← hbe]; refine z18 ?_
    first | refine exI ?_ | (intro cap3 hcap3; refine exI ?_)
    refine z25 [4, 5] (by kernel_rfl) (by decide) (List.forall_mem_cons.2 ⟨?_, List.forall_mem_cons.2 ⟨?_, fun _ h => by cases h⟩⟩)
    ·refine z0g (z1q hen hok) ?_
     refine z18 ?_; refine exI ?_; refine z0w (z1q hen hok) (g := 0) (by kernel_rfl) [(5, false), (6, false), (7, false)] (by kernel_rfl) fun _ hK5 => ?_; refine zbh ?_
     iterate 2 refine z3j ?_
     refine d_nil ?_; apply hK5; refine z0q (by kernel_rfl) ?_; refine dnS [2, 4, 5] (fun _ => 3) () trivial [3] z0u z0u z0u z0u
    ·refine z0g (z1q hen hok) ?_
     refine z18 ?_; refine exI ?_; refine z0w (z1q hen hok) (g := 0) (by kernel_rfl) [(4, false), (6, false), (7, false)] (by kernel_rfl) fun _ hK6 => ?_; refine zbh ?_
     iterate 2 refine z3j ?_
     refine d_nil ?_; apply hK6; refine z0q (by kernel_rfl) ?_; refine dnS [2, 4, 5] (fun _ => 3) () trivial [3] z0u z0u z0u z0u
   ·refine z0g (z1q hen hok) ?_
    refine z18 ?_; refine exI ?_; refine z25 [3, 5] (by kernel_rfl) (by decide) (List.forall_mem_cons.2 ⟨?_, List.forall_mem_cons.2 ⟨?_, fun _ h => by cases h⟩⟩)
    ·refine z0g (z1q hen hok) ?_
     refine z18 ?_; refine ⟨e, rfl, he, ?_⟩; rw [← hbe]; refine z18 ?_
     first | refine exI ?_ | (intro cap3 hcap3; refine exI ?_)
     refine z0w (z1q hen hok) (g := 0) (by kernel_rfl) [(5, false), (6, false), (7, false)] (by kernel_rfl) fun _ hK7 => ?_; refine zbh ?_
     iterate 2 refine z3j ?_
     refine d_nil ?_; apply hK7; refine z0q (by kernel_rfl) ?_; refine dnS [2, 4, 5] (fun _ => 3) () trivial [3] z0u z0u z0u z0u
    ·refine z0g (z1q hen hok) ?_
     refine z18 ?_; refine exI ?_; refine z0w (z1q hen hok) (g := 0) (by kernel_rfl) [(3, false), (6, false), (7, false)] (by kernel_rfl) fun _ hK8 => ?_; refine z4j ?_; refine ⟨e, rfl, he, ?_⟩; rw [← hbe]; refine z18 ?_
     first | refine exI ?_ | (intro cap3 hcap3; refine exI ?_)
     iterate 2 refine z3j ?_
     refine d_nil ?_; apply hK8; refine z0q (by kernel_rfl) ?_; refine dnS [2, 4, 5] (fun _ => 3) () trivial [3] z0u z0u z0u z0u
   ·refine z0g (z1q hen hok) ?_
    refine z18 ?_; refine exI ?_; refine z25 [3, 4] (by kernel_rfl) (by decide) (List.forall_mem_cons.2 ⟨?_, List.forall_mem_cons.2 ⟨?_, fun _ h => by cases h⟩⟩)
    ·refine z0g (z1q hen hok) ?_
     refine z18 ?_; refine ⟨e, rfl, he, ?_⟩; rw [← hbe]; refine z18 ?_
     first | refine exI ?_ | (intro cap3 hcap3; refine exI ?_)
     refine z0w (z1q hen hok) (g := 0) (by kernel_rfl) [(4, false), (6, false), (7, false)] (by kernel_rfl) fun _ hK9 => ?_; refine zbh ?_
     iterate 2 refine z3j ?_
     refine d_nil ?_; apply hK9; refine z0q (by kernel_rfl) ?_; refine dnS [2, 4, 5] (fun _ => 3) () trivial [3] z0u z0u z0u z0u
    ·refine z0g (z1q hen hok) ?_
     refine z18 ?_; refine exI ?_; refine z0w (z1q hen hok) (g := 0) (by kernel_rfl) [(3, false), (6, false), (7, false)] (by kernel_rfl) fun _ hK10 => ?_; refine z4j ?_; refine ⟨e, rfl, he, ?_⟩; rw [← hbe]; refine z18 ?_
     first | refine exI ?_ | (intro cap3 hcap3; refine exI ?_)
     iterate 2 refine z3j ?_
     refine d_nil ?_; apply hK10; refine z0q (by kernel_rfl) ?_; refine dnS [2, 4, 5] (fun _ => 3) () trivial [3] z0u z0u z0u z0u
  ·refine z0g (z1q hen hok) ?_
   refine z18 ?_; refine exI ?_; refine z25 [1, 5] (by kernel_rfl) (by decide) (List.forall_mem_cons.2 ⟨?_, List.forall_mem_cons.2 ⟨?_, fun _ h => by cases h⟩⟩)
   ·refine z0g (z1q hen hok) ?_
    refine z18 ?_; refine ⟨d, rfl, hd, ?_⟩; rw [← hae]; refine z18 ?_
    first | refine exI ?_ | (intro cap1 hcap1; refine exI ?_)
    refine z25 [3, 5] (by kernel_rfl) (by decide) (List.forall_mem_cons.2 ⟨?_, List.forall_mem_cons.2 ⟨?_, fun _ h => by cases h⟩⟩)
    ·refine z0g (z1q hen hok) ?_
     refine z18 ?_; refine ⟨e, rfl, he, ?_⟩; rw [← hbe]; refine z18 ?_
     first | refine exI ?_ | (intro cap3 hcap3; refine exI ?_)
     refine z0w (z1q hen hok) (g := 0) (by kernel_rfl) [(5, false), (6, false), (7, false)] (by kernel_rfl) fun _ hK11 => ?_; refine zbh ?_
     iterate 2 refine z3j ?_
     refine d_nil ?_; apply hK11; refine z0q (by kernel_rfl) ?_; refine dnS [2, 4, 5] (fun _ => 3) () trivial [3] z0u z0u z0u z0u
    ·refine z0g (z1q hen hok) ?_
     refine z18 ?_; refine exI ?_; refine z0w (z1q hen hok) (g := 0) (by kernel_rfl) [(3, false), (6, false), (7, false)] (by kernel_rfl) fun _ hK12 => ?_; refine z4j ?_; refine ⟨e, rfl, he, ?_⟩; rw [← hbe]; refine z18 ?_
     first | refine exI ?_ | (intro cap3 hcap3; refine exI ?_)
     iterate 2 refine z3j ?_
     refine d_nil ?_; apply hK12; refine z0q (by kernel_rfl) ?_; refine dnS [2, 4, 5] (fun _ => 3) () trivial [3] z0u z0u z0u z0u
   ·refine z0g (z1q hen hok) ?_
    refine z18 ?_; refine exI ?_; refine z0w (z1q hen hok) (g := 0) (by kernel_rfl) [(1, false), (3, false), (6, false), (7, false)] (by kernel_rfl) fun _ hK13 => ?_; refine z4j ?_; refine ⟨d, rfl, hd, ?_⟩; rw [← hae]; refine z18 ?_
    first | refine exI ?_ | (intro cap1 hcap1; refine exI ?_)
    refine z4j ?_; refine ⟨e, rfl, he, ?_⟩; rw [← hbe]; refine z18 ?_
    first | refine exI ?_ | (intro cap3 hcap3; refine exI ?_)
    iterate 2 refine z3j ?_
    refine d_nil ?_; apply hK13; refine z0q (by kernel_rfl) ?_; refine dnS [2, 4, 5] (fun _ => 3) () trivial [3] z0u z0u z0u z0u
  ·refine z0g (z1q hen hok) ?_
   refine z18 ?_; refine exI ?_; refine z25 [1, 4] (by kernel_rfl) (by decide) (List.forall_mem_cons.2 ⟨?_, List.forall_mem_cons.2 ⟨?_, fun _ h => by cases h⟩⟩)
   ·refine z0g (z1q hen hok) ?_
    refine z18 ?_; refine ⟨d, rfl, hd, ?_⟩; rw [← hae]; refine z18 ?_
    first | refine exI ?_ | (intro cap1 hcap1; refine exI ?_)
    refine z25 [3, 4] (by kernel_rfl) (by decide) (List.forall_mem_cons.2 ⟨?_, List.forall_mem_cons.2 ⟨?_, fun _ h => by cases h⟩⟩)
    ·refine z0g (z1q hen hok) ?_
     refine z18 ?_; refine ⟨e, rfl, he, ?_⟩; rw [← hbe]; refine z18 ?_
     first | refine exI ?_ | (intro cap3 hcap3; refine exI ?_)
     refine z0w (z1q hen hok) (g := 0) (by kernel_rfl) [(4, false), (6, false), (7, false)] (by kernel_rfl) fun _ hK14 => ?_; refine zbh ?_
     iterate 2 refine z3j ?_
     refine d_nil ?_; apply hK14; refine z0q (by kernel_rfl) ?_; refine dnS [2, 4, 5] (fun _ => 3) () trivial [3] z0u z0u z0u z0u
    ·refine z0g (z1q hen hok) ?_
     refine z18 ?_; refine exI ?_; refine z0w (z1q hen hok) (g := 0) (by kernel_rfl) [(3, false), (6, false), (7, false)] (by kernel_rfl) fun _ hK15 => ?_; refine z4j ?_; refine ⟨e, rfl, he, ?_⟩; rw [← hbe]; refine z18 ?_
     first | refine exI ?_ | (intro cap3 hcap3; refine exI ?_)
     iterate 2 refine z3j ?_
     refine d_nil ?_; apply hK15; refine z0q (by kernel_rfl) ?_; refine dnS [2, 4, 5] (fun _ => 3) () trivial [3] z0u z0u z0u z0u
   ·refine z0g (z1q hen hok) ?_
    refine z18 ?_; refine exI ?_; refine z0w (z1q hen hok) (g := 0) (by kernel_rfl) [(1, false), (3, false), (6, false), (7, false)] (by kernel_rfl) fun _ hK16 => ?_; refine z4j ?_; refine ⟨d, rfl, hd, ?_⟩; rw [← hae]; refine z18 ?_
    first | refine exI ?_ | (intro cap1 hcap1; refine exI ?_)
    refine z4j ?_; refine ⟨e, rfl, he, ?_⟩; rw [← hbe]; refine z18 ?_
    first | refine exI ?_ | (intro cap3 hcap3; refine exI ?_)
    iterate 2 refine z3j ?_
    refine d_nil ?_; apply hK16; refine z0q (by kernel_rfl) ?_; refine dnS [2, 4, 5] (fun _ => 3) () trivial [3] z0u z0u z0u z0u
 ·intro u hu
  clear hu; refine srR (z1q hen hok) fun _ hK18 => ?_; refine z5d ?_; refine exA (tabV a) (SV.as_refl _) ?_; refine z5d ?_; refine exA (tabV b) (SV.as_refl _) ?_; refine z5d ?_; refine aI (z3y _) ?_; refine z51 _ ?_; refine aI (z3y _) ?_; refine z51 _ ?_; refine ⟨a, b, rfl, ⟨ha, hb⟩, ?_⟩
  simp only [z8p]
  refine z18 ?_
  first | refine exI ?_ | (intro cap2 hcap2; refine exI ?_)
  iterate 4 refine z86 ?_
  refine zew ?_; refine z86 ?_; refine s_nil ?_; apply hK18; refine leW [1] id [(5, .c (boxF hf)), (6, .c (.ptr 0 0)), (7, .c (dpT a)), (8, .c (dpT b)), (9, .c (.dp (.ints .i64 (jL a b 256)) 0)), (10, .c (.ds (jrep (cN a) (cN b)).length (.ints .i64 (natsI (jrep (cN a) (cN b))))))] [(0, .own 87 (.cells zl) 259)] 1 [0] z0u z0u z0u z0u ?_; refine srR (z1q hen hok) fun _ hK20 => ?_
  iterate 2 refine z86 ?_
  refine s_nil ?_; apply hK20; refine srR (z1q hen hok) fun _ hK22 => ?_; refine z5d ?_; refine exA (.agg (.ints .i64 (jL a b 256))) (SV.as_refl _) ?_; refine z86 ?_; refine z5d ?_; refine exA (stV (0, 0, 0)) (as_eq rfl) ?_
  iterate 2 refine z86 ?_
  refine z5d ?_; refine aI (nc_st _) ?_; refine aI (nc_2 _ _) ?_; refine aI (nc_3 _ _ _) ?_; refine ⟨prodG a b, prodA op a b, prodI a b, jL a b 256, jrep (cN a) (cN b), (0, 0, 0), [dpT a, dpT b], [boxF hf, dpT a, dpT b], 1073741824, rfl, hex, ?_⟩; rw [show exV (exR (prodG a b) (prodA op a b) (jL a b 256) (jrep (cN a) (cN b)) (0, 0, 0) 1073741824) = .tup [.agg (tabC (prodT op a b)), .c (.bool (exR (prodG a b) (prodA op a b) (jL a b 256) (jrep (cN a) (cN b)) (0, 0, 0) 1073741824).2)] by unfold prodT; rfl]; refine z18 ?_
  first | refine exI ?_ | (intro cap5 hcap5; refine exI ?_)
  iterate 4 refine z86 ?_
  refine zew ?_; refine z86 ?_; refine s_nil ?_; apply hK22; refine srR (z1q hen hok) fun _ hK24 => ?_; refine z5d ?_; refine exA (tabV (prodT op a b)) (SV.as_refl _) ?_; refine zew ?_; refine s_nil ?_; apply hK24; refine z0e (z0f (z1q hen hok) (fun _ _ h => h) (z9b _) [] [.cell 6 87] rfl ?_)
  repeat first | refine aI (by first | exact trivial | rfl | exact ⟨rfl, rfl⟩ | decide | exact z4i trivial trivial | exact zhs hpf.1.clen | (show 0 + 259 ≤ (z01 _ _ _ _).length; rw [z00 hpf.1.clen]; decide) | (show 0 < (z01 _ _ _ _).length; rw [z00 hpf.1.clen]; decide)) ?_ | refine z04 (zeq hpf.1.clen) ?_ | refine z06 (by exact z00 hpf.1.clen) ?_
  all_goals exact z0u

end Go.Proofs.YtppmnaoollkboaaDoor

namespace Go.Proofs.YtppmnaoollkboaaDoor
set_option linter.all false
open Go.Ab Go.RowKit

theorem qUtc0 {a : Prop} (h : a := by first | exact vcA | (simp <;> omega) | exact vcB) : a := h
theorem qUtc1 {a : Prop} (h : a := by first | exact vcA | (simp [-List.reduceReplicate] <;> omega) | exact vTh | exact vcB) : a := h
theorem zk7 {a : Prop} (h : a := by
    repeat' (first | exact z35 _ | exact z9b _ | exact pT  | exact trivial | refine aI ?_ ?_ | exact cC0 | refine low_cons' ?_ ?_ | exact cC1 | fail)
    all_goals first | omega | exact z35 _ | (show (0 : Nat) < (z01 _ _ _ _).length; rw [z00 hcl]; decide) | (simp [-List.reduceReplicate]; done) | (simp [-List.reduceReplicate] <;> omega) | skip) : a := h
theorem zuu {a b : Prop} (kZ : b) (h : HidB b → a := by intro kZ; (repeat first | refine aI qUtc0 ?_ | refine z06 qUtc0 ?_ | refine z04 qUtc0 ?_ | refine z0k qUtc0 ?_ | refine z0b ?_); exact kZ.out) : a := h ⟨kZ⟩
theorem z87 {a b : Prop} (kZ : b) (h : HidB b → a := by intro kZ; refine sX ?_; refine zuu ?_; refine exI ?_; exact kZ.out) : a := h ⟨kZ⟩
theorem zoi {a b : Prop} (kZ : b) (h : HidB b → a := by intro kZ; refine sXT ?_; refine zuu ?_; refine exI ?_; exact kZ.out) : a := h ⟨kZ⟩
theorem z88 {a b : Prop} (kZ : b) (h : HidB b → a := by intro kZ; (repeat first | refine aI qUtc1 ?_ | refine z06 qUtc1 ?_ | refine z04 qUtc1 ?_ | refine z0k qUtc1 ?_ | refine z0b ?_); exact kZ.out) : a := h ⟨kZ⟩
theorem z2h {a b : Prop} (kZ : b) (h : HidB b → a := by intro kZ; refine sX ?_; refine z88 ?_; refine exI ?_; exact kZ.out) : a := h ⟨kZ⟩
theorem zae {a b : Prop} (kZ : b) (h : HidB b → a := by intro kZ; refine sX0 ?_; refine z88 ?_; refine exI ?_; exact kZ.out) : a := h ⟨kZ⟩
theorem zoj {a b : Prop} (kZ : b) (h : HidB b → a := by intro kZ; refine sXT ?_; refine z88 ?_; refine exI ?_; exact kZ.out) : a := h ⟨kZ⟩
theorem zok {a b : Prop} (kZ : b) (h : HidB b → a := by intro kZ; refine sX ?_; refine zuu ?_; exact kZ.out) : a := h ⟨kZ⟩
theorem z8q {a b : Prop} (kZ : b) (h : HidB b → a := by intro kZ; refine sX ?_; refine z88 ?_; exact kZ.out) : a := h ⟨kZ⟩
theorem zuv {a b : Prop} (kZ : b) (h : HidB b → a := by intro kZ; refine sXT ?_; refine z88 ?_; exact kZ.out) : a := h ⟨kZ⟩

open Go.Aut
attribute [local irreducible] z0l z26 zl z01 z16 putB prodT canD
def hAndS : QSpec := fun vs K => ∃ x y : Bool, vs = [.c (.bool x), .c (.bool y)] ∧ K (.c (.bool (x && y)))
theorem hAnd_ok : z1e Tryd.prog gl 92 hAndS := by
 refine z23 (Γ := g0) (N := 9) Tryd.func92 rfl rfl fun vs K h => ?_; obtain ⟨x, y, rfl, h⟩ := h; refine ⟨_, h, rfl, by simp, fun w I => ?_⟩; refine srR g0_ok fun _ hK2 => ?_; refine z87 ?_; refine s_nil ?_; apply hK2; refine srR g0_ok fun _ hK4 => ?_; refine z87 ?_; refine zok ?_; refine exB (fun hb1 => ?_) (fun hb1 => ?_)
 ·try simp only [dQ, if_true, if_false, reduceIte] at hb1
  refine zoi ?_
  iterate 2 refine z87 ?_
  refine s_nil ?_; apply hK4; refine z0e (z0d g0_ok (fun _ _ h => h) (by first | rfl | assumption) [.tmp 4] rfl ?_); refine rtD ?_
  first | rfl | (cases x <;> cases y <;> rfl) | (cases x <;> cases y <;> first | rfl | simp_all)
 ·try simp only [dQ, if_true, if_false, reduceIte] at hb1
  refine sN ?_
  iterate 2 refine z87 ?_
  refine s_nil ?_; apply hK4; refine z0e (z0d g0_ok (fun _ _ h => h) (by first | rfl | assumption) [.tmp 4] rfl ?_); refine rtD ?_
  first | rfl | (cases x <;> cases y <;> rfl) | (cases x <;> cases y <;> first | rfl | simp_all)

def hOrS : QSpec := fun vs K => ∃ x y : Bool, vs = [.c (.bool x), .c (.bool y)] ∧ K (.c (.bool (x || y)))
theorem hOr_ok : z1e Tryd.prog gl 94 hOrS := by
 refine z23 (Γ := g0) (N := 9) Tryd.func94 rfl rfl fun vs K h => ?_; obtain ⟨x, y, rfl, h⟩ := h; refine ⟨_, h, rfl, by simp, fun w I => ?_⟩; refine srR g0_ok fun _ hK2 => ?_; refine z87 ?_; refine s_nil ?_; apply hK2; refine srR g0_ok fun _ hK4 => ?_; refine z87 ?_; refine zok ?_; refine exB (fun hb1 => ?_) (fun hb1 => ?_)
 ·try simp only [dQ, if_true, if_false, reduceIte] at hb1
  refine sN ?_
  iterate 2 refine z87 ?_
  refine s_nil ?_; apply hK4; refine z0e (z0d g0_ok (fun _ _ h => h) (by first | rfl | assumption) [.tmp 4] rfl ?_); refine rtD ?_
  first | rfl | (cases x <;> cases y <;> rfl) | (cases x <;> cases y <;> first | rfl | simp_all)
 ·try simp only [dQ, if_true, if_false, reduceIte] at hb1
  refine zoi ?_
  iterate 2 refine z87 ?_
  refine s_nil ?_; apply hK4; refine z0e (z0d g0_ok (fun _ _ h => h) (by first | rfl | assumption) [.tmp 4] rfl ?_); refine rtD ?_
  first | rfl | (cases x <;> cases y <;> rfl) | (cases x <;> cases y <;> first | rfl | simp_all)

theorem zuw (op : Bool → Bool → Bool) {d e : Dfa} (hd : d.good) (he : e.good) : (prodT op (tabD d) (tabD e)).fit := (zbi (z5v hd) (z5v he) ⟨hd.2, he.2⟩).1
noncomputable def gCo (hf : FuncId) (hq : QSpec) : Ctx := { P := Tryd.prog, ty := ty, glob := gl, fs := [(50, .flat zhj), (87, .data (zoh hf hq)), (83, .data zoa)] }
theorem zc8 {hf : FuncId} {hq : QSpec} (hen : z2s Tryd.prog hf) (hok : z1e Tryd.prog gl hf hq) : (gCo hf hq).OK := ⟨tyOK, ⟨⟨z08 Tryd.func50 (by kernel_rfl) rfl, zed⟩, ⟨z08 Tryd.func87 (by kernel_rfl) rfl, zql hen hok⟩, ⟨z08 Tryd.func83 (by kernel_rfl) rfl, zqj⟩, trivial⟩, mixed⟩
@[simp] theorem gCo_ty {hf : FuncId} {hq : QSpec} : (gCo hf hq).ty = ty := rfl
def zex (hf : FuncId) (hq : QSpec) : QSpec := fun vs K => ∃ (op : Bool → Bool → Bool) (d e : Dfa), vs = [dfaV d, dfaV e, .c (.clo hf [])] ∧ (d.wf ∧ e.wf) ∧ (∀ x y, hq [.c (.bool x), .c (.bool y)] (fun v => v = .c (.bool (op x y)))) ∧ K (resV (combR op d e))
set_option maxHeartbeats 1000000 in
set_option maxRecDepth 4000 in
theorem zey {hf : FuncId} {hq : QSpec} (hen : z2s Tryd.prog hf) (hok : z1e Tryd.prog gl hf hq) : z24 Tryd.prog gl 91 (zex hf hq) := by
 refine z1x (Γ := gCo hf hq) (N := 24) Tryd.func91 rfl rfl fun vs K h => ?_; obtain ⟨op, d, e, rfl, ⟨hd, he⟩, hcall, h⟩ := h; refine ⟨_, h, z1j _, by simp, fun w I => ?_⟩; refine srR (zc8 hen hok) fun _ hK2 => ?_
 iterate 4 refine z2h ?_
 refine s_nil ?_; apply hK2; refine seq_k fun _ hK3 => ?_; refine srR (zc8 hen hok) fun _ hK5 => ?_; refine z2h ?_; refine z8q ?_; refine ⟨d, rfl, hd, ?_⟩; refine z88 ?_
 first | refine exI ?_ | (intro cap1 hcap1; refine exI ?_)
 refine z2h ?_; refine z8q ?_; refine exB (fun hb3 => ?_) (fun hb3 => ?_)
 ·try simp only [dQ, if_true, if_false, reduceIte] at hb3
  iterate 3 refine sN ?_
  refine z2h ?_; refine s_nil ?_; apply hK5; refine z05 (b := _) rfl (fun _ => ?_) (fun h_t15 => ?_)
  rotate_left 1
  ·exfalso; simp at h_t15
  refine srR (zc8 hen hok) fun _ hK7 => ?_; refine z2h ?_; refine zae ?_; refine z2h ?_; refine s_nil ?_; apply hK7
  have hno : ¬ (z2e d = true ∧ z2e e = true) := by intro hh; simp_all
  rw [combR, if_neg hno]; refine z0e (z0f (zc8 hen hok) (fun _ _ h => h) (z1j _) [] [.cell 6 30, .tmp 7] rfl ?_)
  repeat first | refine aI (by first | exact trivial | rfl | exact ⟨rfl, rfl⟩ | decide) ?_ | refine z06 (by first | rfl | decide) ?_ | refine z04 (by first | rfl | decide) ?_
  all_goals exact zk7
 ·try simp only [dQ, if_true, if_false, reduceIte] at hb3
  refine zoj ?_; refine zuv ?_; refine ⟨e, rfl, he, ?_⟩; refine z88 ?_
  first | refine exI ?_ | (intro cap5 hcap5; refine exI ?_)
  refine zoj ?_; refine z2h ?_; refine s_nil ?_; apply hK5; refine z05 (b := _) rfl (fun h_t15 => ?_) (fun h_t15 => ?_)
  ·try simp only [dQ, if_true, if_false, reduceIte] at h_t15
   refine srR (zc8 hen hok) fun _ hK9 => ?_; refine z2h ?_; refine zae ?_; refine z2h ?_; refine s_nil ?_; apply hK9
   have hno : ¬ (z2e d = true ∧ z2e e = true) := by intro hh; simp_all
   rw [combR, if_neg hno]; refine z0e (z0f (zc8 hen hok) (fun _ _ h => h) (z1j _) [] [.cell 6 30, .tmp 7] rfl ?_)
   repeat first | refine aI (by first | exact trivial | rfl | exact ⟨rfl, rfl⟩ | decide) ?_ | refine z06 (by first | rfl | decide) ?_ | refine z04 (by first | rfl | decide) ?_
   all_goals exact zk7
  ·try simp only [dQ, if_true, if_false, reduceIte] at h_t15
   refine z0a ?_; apply hK3
   have hvd : z2e d = true := by simp_all
   have hve : z2e e = true := by simp_all
   have hgd := (z6n hd).1 hvd
   have hge := (z6n he).1 hve
   refine srR (zc8 hen hok) fun _ hK11 => ?_
   iterate 3 refine z2h ?_
   refine z8q ?_; refine ⟨op, d, e, rfl, ⟨hgd, hge⟩, hcall, ?_⟩; refine z88 ?_
   first | refine exI ?_ | (intro cap3 hcap3; refine exI ?_)
   refine z8q ?_; refine aI (z3y _) ?_; refine z51 _ ?_; refine ⟨_, rfl, zuw op hgd hge, ?_⟩; rw [prod_can hgd hge]
   simp only [z8p]
   refine z88 ?_
   first | refine exI ?_ | (intro cap4 hcap4; refine exI ?_)
   iterate 2 refine z2h ?_
   refine zae ?_; refine z2h ?_; refine s_nil ?_; apply hK11
   have hyes : z2e d = true ∧ z2e e = true := ⟨hvd, hve⟩
   rw [combR, if_pos hyes]; refine z0e (z0f (zc8 hen hok) (fun _ _ h => h) (z1j _) [] [.cell 6 30, .tmp 7] rfl ?_)
   repeat first | refine aI (by first | exact trivial | rfl | exact ⟨rfl, rfl⟩ | decide) ?_ | refine z06 (by first | rfl | decide) ?_ | refine z04 (by first | rfl | decide) ?_
   all_goals exact zk7
noncomputable def gOand : Ctx := { P := Tryd.prog, ty := ty, glob := gl, fs := [(91, .data (zex 92 hAndS))] }
theorem zhx : gOand.OK := ⟨tyOK, ⟨⟨z08 Tryd.func91 (by kernel_rfl) rfl, zey (z08 Tryd.func92 (by kernel_rfl) rfl) hAnd_ok⟩, trivial⟩, mixed⟩
@[simp] theorem gOand_ty : gOand.ty = ty := rfl

def andAS : QSpec := fun vs K => ∃ d e : Dfa, vs = [dfaV d, dfaV e] ∧ (d.wf ∧ e.wf) ∧ K (resV (combR (fun x y => x && y) d e))
set_option maxHeartbeats 1000000 in
set_option maxRecDepth 4000 in
theorem andA_ok : z24 Tryd.prog gl 36 andAS := by
 refine z1x (Γ := gOand) (N := 11) Tryd.func36 rfl rfl fun vs K h => ?_; obtain ⟨d, e, rfl, ⟨hd, he⟩, h⟩ := h; refine ⟨_, h, z1j _, by simp, fun w I => ?_⟩; refine srR zhx fun _ hK2 => ?_
 iterate 4 refine z2h ?_
 refine s_nil ?_; apply hK2; refine srR zhx fun _ hK4 => ?_
 iterate 2 refine z2h ?_
 refine z8q ?_; refine ⟨fun x y => x && y, d, e, rfl, ⟨hd, he⟩, fun x y => ⟨x, y, rfl, rfl⟩, ?_⟩; refine z88 ?_
 first | refine exI ?_ | (intro cap2 hcap2; refine exI ?_)
 iterate 2 refine z2h ?_
 refine zae ?_; refine z2h ?_; refine s_nil ?_; apply hK4; refine z0e (z0f zhx (fun _ _ h => h) (z1j _) [] [.cell 4 30, .tmp 5] rfl ?_)
 repeat first | refine aI (by first | exact trivial | rfl | exact ⟨rfl, rfl⟩ | decide) ?_ | refine z06 (by first | rfl | decide) ?_ | refine z04 (by first | rfl | decide) ?_
 all_goals exact zk7

noncomputable def gOor : Ctx := { P := Tryd.prog, ty := ty, glob := gl, fs := [(91, .data (zex 94 hOrS))] }
theorem zmg : gOor.OK := ⟨tyOK, ⟨⟨z08 Tryd.func91 (by kernel_rfl) rfl, zey (z08 Tryd.func94 (by kernel_rfl) rfl) hOr_ok⟩, trivial⟩, mixed⟩
@[simp] theorem gOor_ty : gOor.ty = ty := rfl

def orAS : QSpec := fun vs K => ∃ d e : Dfa, vs = [dfaV d, dfaV e] ∧ (d.wf ∧ e.wf) ∧ K (resV (combR (fun x y => x || y) d e))
set_option maxHeartbeats 1000000 in
set_option maxRecDepth 4000 in
theorem orA_ok : z24 Tryd.prog gl 38 orAS := by
 refine z1x (Γ := gOor) (N := 11) Tryd.func38 rfl rfl fun vs K h => ?_; obtain ⟨d, e, rfl, ⟨hd, he⟩, h⟩ := h; refine ⟨_, h, z1j _, by simp, fun w I => ?_⟩; refine srR zmg fun _ hK2 => ?_
 iterate 4 refine z2h ?_
 refine s_nil ?_; apply hK2; refine srR zmg fun _ hK4 => ?_
 iterate 2 refine z2h ?_
 refine z8q ?_; refine ⟨fun x y => x || y, d, e, rfl, ⟨hd, he⟩, fun x y => ⟨x, y, rfl, rfl⟩, ?_⟩; refine z88 ?_
 first | refine exI ?_ | (intro cap2 hcap2; refine exI ?_)
 iterate 2 refine z2h ?_
 refine zae ?_; refine z2h ?_; refine s_nil ?_; apply hK4; refine z0e (z0f zmg (fun _ _ h => h) (z1j _) [] [.cell 4 30, .tmp 5] rfl ?_)
 repeat first | refine aI (by first | exact trivial | rfl | exact ⟨rfl, rfl⟩ | decide) ?_ | refine z06 (by first | rfl | decide) ?_ | refine z04 (by first | rfl | decide) ?_
 all_goals exact zk7

end Go.Proofs.YtppmnaoollkboaaDoor
