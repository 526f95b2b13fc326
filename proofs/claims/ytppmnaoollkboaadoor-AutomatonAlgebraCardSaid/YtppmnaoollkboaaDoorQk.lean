/- Part 11 of what the claims of this seat share: the walk's engine, the functions' contracts, plain mathematics (Utb, Utc). -/
import Derived.Test.YtppmnaoollkboaaDoorQj
import Derived.Test.YtppmnaoollkboaaDoorQf
import Derived.Test.YtppmnaoollkboaaDoorQh
namespace Go.Proofs.YtppmnaoollkboaaDoor
set_option linter.all false
open Go.Ab Go.RowKit

theorem qUtb0 {a : Prop} (h : a := by first | exact vcA | (simp [-List.reduceReplicate] <;> omega) | (show (_ : Nat) < 3; decide) | exact vTa | exact vTb | exact vcB) : a := h
theorem qUtb1 {a : Prop} (h : a := by first | exact vcA | (simp [-List.reduceReplicate] <;> omega) | (show (_ : Nat) < 3; decide) | exact vTa | exact vTb | exact vTp | exact zjv hpf.1.clen | exact zgo hpf.1.clen | (show (List.replicate 256 (0 : Int)).length = (jL _ _ _).length; rw [z0l, List.length_replicate]) | (show 256 = (jL _ _ _).length; rw [z0l]) | (show 0 < (jL _ _ _).length; rw [z0l]; decide) | (show 0 + (jL _ _ _).length ≤ (List.replicate 256 (0 : Int)).length; rw [z0l, List.length_replicate]; decide) | (show 0 + 256 * 1 ≤ (jL _ _ _).length; rw [z0l]; decide) | (show (jL _ _ _).length = 256 * 1; rw [z0l]) | exact vcB) : a := h
theorem z13 {a : Prop} (h : a := by
    repeat' (first | exact z1f _ | exact z30 _ | exact pT  | exact trivial | refine aI ?_ ?_ | exact cC0 | refine low_cons' ?_ ?_ | exact cC1 | fail)
    all_goals first | omega | exact z1f _ | exact List.mem_cons_self | (show 0 < (z02 _ _ _ _).length; rw [z01 hpf.1.clen]; decide) | (show 0 < (z02 _ _ _ _).length; rw [z01 ha.1.clen]; decide) | (show 0 < (z02 _ _ _ _).length; rw [z01 hb.1.clen]; decide) | (show 0 < (jL _ _ _).length; rw [z0l]; decide) | (intro x hx; cases hx)| (show (0 : Nat) < (z02 _ _ _ _).length; rw [z01 hcl]; decide) | (simp [-List.reduceReplicate]; done) | (simp [-List.reduceReplicate] <;> omega) | skip) : a := h
theorem zib {a b : Prop} (kZ : b) (h : HidB b → a := by intro kZ; (repeat first | refine aI qUtb0 ?_ | refine z06 qUtb0 ?_ | refine z04 qUtb0 ?_ | refine z0k qUtb0 ?_ | refine z0a ?_); exact kZ.out) : a := h ⟨kZ⟩
theorem zxe {a b : Prop} (kZ : b) (h : HidB b → a := by intro kZ; refine sX ?_; refine zib ?_; refine exI ?_; exact kZ.out) : a := h ⟨kZ⟩
theorem z7b {a b : Prop} (kZ : b) (h : HidB b → a := by intro kZ; refine dX ?_; refine zib ?_; refine exI ?_; exact kZ.out) : a := h ⟨kZ⟩
theorem gX0Utb_3 {a b : Prop} (kZ : b) (h : HidB b → a := by intro kZ; refine gX0 ?_; refine zib ?_; refine exI ?_; exact kZ.out) : a := h ⟨kZ⟩
theorem zb5 {a b : Prop} (kZ : b) (h : HidB b → a := by intro kZ; refine qX ?_; refine zib ?_; refine exI ?_; exact kZ.out) : a := h ⟨kZ⟩
theorem z1h {a b : Prop} (kZ : b) (h : HidB b → a := by intro kZ; (repeat first | refine aI qUtb1 ?_ | refine z06 qUtb1 ?_ | refine z04 qUtb1 ?_ | refine z0k qUtb1 ?_ | refine z0a ?_); exact kZ.out) : a := h ⟨kZ⟩
theorem z9o {a b : Prop} (kZ : b) (h : HidB b → a := by intro kZ; refine sX ?_; refine z1h ?_; refine exI ?_; exact kZ.out) : a := h ⟨kZ⟩
theorem dXUtb_7 {a b : Prop} (kZ : b) (h : HidB b → a := by intro kZ; refine dX ?_; refine z1h ?_; refine exI ?_; exact kZ.out) : a := h ⟨kZ⟩
theorem zd9 {a b : Prop} (kZ : b) (h : HidB b → a := by intro kZ; refine gX ?_; refine z1h ?_; refine exI ?_; exact kZ.out) : a := h ⟨kZ⟩
theorem z4e {a b : Prop} (kZ : b) (h : HidB b → a := by intro kZ; refine gX0 ?_; refine z1h ?_; refine exI ?_; exact kZ.out) : a := h ⟨kZ⟩
theorem zgx {a b : Prop} (kZ : b) (h : HidB b → a := by intro kZ; refine sX0 ?_; refine z1h ?_; refine exI ?_; exact kZ.out) : a := h ⟨kZ⟩
theorem z3u {a b : Prop} (kZ : b) (h : HidB b → a := by intro kZ; refine dX ?_; refine zib ?_; exact kZ.out) : a := h ⟨kZ⟩
theorem z7w {a b : Prop} (kZ : b) (h : HidB b → a := by intro kZ; refine qX ?_; refine zib ?_; exact kZ.out) : a := h ⟨kZ⟩
theorem z5k {a b : Prop} (kZ : b) (h : HidB b → a := by intro kZ; refine gX ?_; refine z1h ?_; exact kZ.out) : a := h ⟨kZ⟩
theorem z6n {a b : Prop} (kZ : b) (h : HidB b → a := by intro kZ; refine sX ?_; refine z1h ?_; exact kZ.out) : a := h ⟨kZ⟩

open Go.Aut
theorem zos {S : Type} [DecidableEq S] [Inhabited S] {f : S → Nat → S} {nc : Nat} {b0 : S} {m : Nat} (h : ¬ Big f nc b0 m) : ∃ n, Full f nc b0 n ∧ n ≤ m := by
  have he : ∃ i, (expO f nc b0 (i * nc)).length ≤ i ∧ i ≤ m := by
    refine Classical.byContradiction fun hn => h ⟨m, 0, fun j hj => ?_, Nat.zero_le _, ?_⟩
    · rcases Nat.lt_or_ge j (expO f nc b0 (j * nc)).length with h1 | h1
      · exact h1
      · exact absurd ⟨j, h1, hj⟩ hn
    · rcases Nat.lt_or_ge m (expO f nc b0 (m * nc)).length with h1 | h1
      · exact h1
      · exact absurd ⟨m, h1, Nat.le_refl _⟩ hn
  obtain ⟨i, ⟨hi, him⟩, hlt⟩ := least he; refine ⟨i, zvi (fun j hj => ?_) hi, him⟩
  have := hlt j hj
  rcases Nat.lt_or_ge j (expO f nc b0 (j * nc)).length with h1 | h1
  · exact h1
  · exact absurd ⟨h1, by omega⟩ this
theorem jrep_le (a b : Tab) : (jrep (cN a) (cN b)).length ≤ 256 := by rw [← jR_all]; exact jR_len a b 256
attribute [local irreducible] allB
theorem jrep_lt (c d : Nat → Nat) : ∀ x ∈ jrep c d, x < 256 := fun x hx => z6t.1 (zhy hx)
theorem nc_st (s : Stt) : ∀ x ∈ encS s, ∀ g cs, x ≠ Cell.clo g cs := recS.dat s |>.noclo
structure JIn (a b : Tab) : Prop where
  pos : 0 < (jrep (cN a) (cN b)).length
  max : (jrep (cN a) (cN b)).length ≤ 256
  byte : ∀ x ∈ jrep (cN a) (cN b), x < 256
  cl : ∀ x ∈ jL a b 256, 0 ≤ x ∧ x < ((jrep (cN a) (cN b)).length : Nat)
  on : ∀ c, c < (jrep (cN a) (cN b)).length → ∃ x, x < 256 ∧ ((jL a b 256).getD x 0).toNat = c
  at' : ∀ x, x < 256 → ((jL a b 256).getD x 0).toNat < (jrep (cN a) (cN b)).length ∧ ∃ r, (jrep (cN a) (cN b)).getD ((jL a b 256).getD x 0).toNat 0 = r ∧ cN a r = cN a x ∧ cN b r = cN b x ∧ r < 256
theorem j_in (a b : Tab) : JIn a b := by
  have hL : ∀ x, x < 256 → ((jL a b 256).getD x 0).toNat = jcell (cN a) (cN b) x := fun x hx => by rw [jL, z0h hx, if_pos hx]; rfl
  refine ⟨jrep_pos, jrep_le a b, jrep_lt _ _, fun x hx => ?_, fun c hc => ?_, fun x hx => ?_⟩
  · obtain ⟨y, hy, rfl⟩ := List.mem_map.1 hx
    have hy := List.mem_range.1 hy
    have := zjb (c := cN a) (d := cN b) hy
    rw [if_pos hy]; exact ⟨by omega, by omega⟩
  · obtain ⟨x, hx, e⟩ := zsw hc
    exact ⟨x, hx, by rw [hL x hx]; exact e⟩
  · rw [hL x hx]
    obtain ⟨r, h1, h2, h3, h4⟩ := jrep_get (c := cN a) (d := cN b) hx; exact ⟨zjb hx, r, zaw h1, h2, h3, h4⟩
def prodG (a b : Tab) (s : Stt) (c : Nat) : Stt := ((tblT a).δ s.1 (cN a c), (tblT b).δ s.2.1 (cN b c), 0)
def prodA (op : Bool → Bool → Bool) (a b : Tab) (s : Stt) : Bool := op (a.acc.getD s.1 false) (b.acc.getD s.2.1 false)
def prodI (a b : Tab) (s : Stt) : Prop := s.1 < a.next.length ∧ s.2.1 < b.next.length ∧ s.2.2 = 0
theorem zot {a b : Tab} (ha : a.fit) (hb : b.fit) {s : Stt} {c : Nat} (hs : prodI a b s) (hc : c < 256) : prodI a b (prodG a b s c) :=
  ⟨(nextN ha.1 hs.1 (cellN ha.1 hc).1).1, (nextN hb.1 hs.2.1 (cellN hb.1 hc).1).1, rfl⟩
theorem prodI_ok {a b : Tab} (ha : a.fit) (hb : b.fit) {s : Stt} (hs : prodI a b s) : okS s := by
 have h1 := ha.2.1
 have h2 := hb.2.1
 exact ⟨by have := hs.1; omega, by have := hs.2.1; omega⟩
theorem ztd {a b : Tab} (s : Stt) {x : Nat} (hx : x < 256) : stepF (prodG a b) (jrep (cN a) (cN b)) s ((jL a b 256).getD x 0).toNat = prodG a b s x := by
  obtain ⟨_, r, h1, h2, h3, _⟩ := (j_in a b).at' x hx; rw [stepF, h1, prodG, prodG, h2, h3]
noncomputable def prodT (op : Bool → Bool → Bool) (a b : Tab) : Tab := (exR (prodG a b) (prodA op a b) (jL a b 256) (jrep (cN a) (cN b)) (0, 0, 0) 1073741824).1
theorem zr8 {a b : Tab} (ha : a.fit) (hb : b.fit) (h64 : a.next.length ≤ 64 ∧ b.next.length ≤ 64) {m : Nat} (hm : 4096 ≤ m) : ¬ Big (stepF (prodG a b) (jrep (cN a) (cN b))) (jrep (cN a) (cN b)).length (0, 0, 0) m := by
  rintro ⟨i, k, hj, hk, hl⟩
  have hin : ∀ s ∈ expO (stepF (prodG a b) (jrep (cN a) (cN b))) (jrep (cN a) (cN b)).length (0, 0, 0) (i * (jrep (cN a) (cN b)).length + k), prodI a b s :=
    zoh (Inv := prodI a b) ⟨ha.1.npos, hb.1.npos, rfl⟩ (fun s c hs hc => zot ha hb hs hc) (j_in a b).byte (j_in a b).pos (exp_hz (j_in a b).pos hj hk)
  have hn := z57 (f := stepF (prodG a b) (jrep (cN a) (cN b))) (nc := (jrep (cN a) (cN b)).length) (b0 := ((0, 0, 0) : Stt)) (i * (jrep (cN a) (cN b)).length + k)
  have h1 : ((expO (stepF (prodG a b) (jrep (cN a) (cN b))) (jrep (cN a) (cN b)).length (0, 0, 0) (i * (jrep (cN a) (cN b)).length + k)).map fun s : Stt => s.1 * 64 + s.2.1).Nodup := by
    refine List.pairwise_map.2 (List.Pairwise.imp_of_mem ?_ hn); intro s q hs hq hne e
    have a1 := hin s hs
    have a2 := hin q hq
    refine hne ?_
    have b1 := a1.1; have b2 := a1.2.1; have b3 := a2.1; have b4 := a2.2.1
    have e1 : s.1 = q.1 := by omega
    have e2 : s.2.1 = q.2.1 := by omega
    exact Prod.ext e1 (Prod.ext e2 (a1.2.2.trans a2.2.2.symm))
  have h2 := z8i (K := 4096) h1 fun x hx => by
    obtain ⟨s, hs, rfl⟩ := List.mem_map.1 hx
    have a1 := hin s hs
    have b1 := a1.1; have b2 := a1.2.1
    omega
  rw [List.length_map] at h2
  omega
theorem zm7 (a b : Tab) : ∀ (w : List Nat) (s : Stt), (runB (prodG a b) s w).1 = runB (fun p c => (tblT a).δ p (cN a c)) s.1 w ∧ (runB (prodG a b) s w).2.1 = runB (fun p c => (tblT b).δ p (cN b c)) s.2.1 w
  | [], s => ⟨rfl, rfl⟩
  | c :: w, s => zm7 a b w (prodG a b s c)
theorem za9 {op : Bool → Bool → Bool} {a b : Tab} (ha : a.fit) (hb : b.fit) (h64 : a.next.length ≤ 64 ∧ b.next.length ≤ 64) : (prodT op a b).fit ∧ ∀ w, Bytes w → (tblT (prodT op a b)).lang 0 w = op ((tblT a).lang 0 w) ((tblT b).lang 0 w) := by
  have hnb := zr8 ha hb h64 (m := 1073741824) (by decide)
  obtain ⟨n, hn, hle⟩ := zos (zr8 ha hb h64 (m := 4096) (Nat.le_refl _))
  have hn0 : 0 < n := by
    rcases Nat.eq_zero_or_pos n with e | e
    · subst e
      have := hn.len
      have h2 := zeh (f := stepF (prodG a b) (jrep (cN a) (cN b))) (nc := (jrep (cN a) (cN b)).length) (b0 := ((0, 0, 0) : Stt)) (0 * (jrep (cN a) (cN b)).length)
      omega
    · exact e
  have e : prodT op a b = tabQ (stepF (prodG a b) (jrep (cN a) (cN b))) (prodA op a b) (jL a b 256) (jrep (cN a) (cN b)).length (0, 0, 0) n := by
    rw [prodT, exR, if_neg hnb, zqt hn]
  have hj := j_in a b
  rw [e]; refine ⟨⟨zvl hn hn0 (z0l a b 256) hj.cl hj.on, ?_, hj.max⟩, fun w hw => ?_⟩
  · show (rowsQ _ _ _ n).length ≤ 65535
    rw [z3q]; omega
  · rw [zlp (g := prodG a b) hn hn0 (fun x hx => (hj.at' x hx).1) (fun s x hx => ztd s hx) hw]
    obtain ⟨h1, h2⟩ := zm7 a b w (0, 0, 0); rw [prodA, h1, h2, z6j, z6j]; rfl
def combB (op : Bool → Bool → Bool) (d e : Dfa) : List Nat → Bool := fun w => op (langD d w) (langD e w)
theorem zk1 {op : Bool → Bool → Bool} {d e : Dfa} (hd : d.good) (he : e.good) : canD ((tblT (prodT op (tabD d) (tabD e))).lang 0) = canD (combB op d e) := z1n fun w hw => by
  rw [(za9 (z0y hd) (z0y he) ⟨hd.2, he.2⟩).2 w hw, z3o d 0 hw, z3o e 0 hw]; rfl
noncomputable def combR (op : Bool → Bool → Bool) (d e : Dfa) : Dfa × Nat := if z0s d = true ∧ z0s e = true then limL (canD (combB op d e)) else (noD, 1)
def dpT (t : Tab) : Cell := .dp (tabC t) 0
theorem nc_2 (a b : Tab) : ∀ x ∈ [dpT a, dpT b], ∀ g l, x ≠ Cell.clo g l := fun x hx g l => by
  rcases List.mem_cons.1 hx with rfl | hx
  · intro e; cases e
  · rw [List.mem_singleton.1 hx]; intro e; cases e
attribute [local irreducible] z0q z1z zl z02 z18 putB jL jcell jrep
def zxf : QSpec := fun vs K => ∃ (a b : Tab) (s : Stt) (c : Nat), vs = [stV s, .c (.int .i64 (c : Int)), .c (dpT a), .c (dpT b)] ∧ (a.fit ∧ b.fit ∧ prodI a b s ∧ c < 256) ∧ K (stV (prodG a b s c))
set_option maxHeartbeats 1000000 in
set_option maxRecDepth 4000 in
theorem prod1_ok : z16 Tryd.prog gl 142 zxf := by
 refine z1a (Γ := g0) (N := 32) Tryd.func142 rfl rfl fun vs K h => ?_; obtain ⟨a, b, s, c, rfl, ⟨ha, hb, hs, hc⟩, h⟩ := h; refine ⟨_, h, rfl, by simp, fun w I => ?_⟩; refine seq_k fun _ hK1 => ?_; refine z00 g0_ok fun _ hK2 => ?_
 iterate 2 refine zxe ?_
 refine s_nil ?_; apply hK2; apply hK1; refine seq_k fun _ hK3 => ?_
 have hxa : (tblT a).δ s.1 (cN a c) < a.next.length ∧ (a.next.getD s.1 []).getD (cN a c) 0 = ((tblT a).δ s.1 (cN a c) : Nat) := nextN ha.1 hs.1 (cellN ha.1 hc).1
 have hxb : (tblT b).δ s.2.1 (cN b c) < b.next.length ∧ (b.next.getD s.2.1 []).getD (cN b c) 0 = ((tblT b).δ s.2.1 (cN b c) : Nat) := nextN hb.1 hs.2.1 (cellN hb.1 hc).1
 have hra := zak ha.1 hs.1
 have hrb := zak hb.1 hs.2.1
 have hca := (cellN ha.1 hc).1
 have hcb := (cellN hb.1 hc).1
 have hs1 := hs.1
 have hs2 := hs.2.1
 have hca2 : cN a c < a.nc := hca
 have hcb2 : cN b c < b.nc := hcb
 refine z3l g0_ok [(0, true), (1, true), (2, true), (3, true), (4, true), (5, true), (6, true), (7, true), (8, true), (9, true), (10, true), (11, true), (12, true), (13, true), (14, true), (15, true), (16, true), (17, true), (18, true), (19, true), (20, true), (21, true), (22, true), (23, true), (24, true), (25, false)] rfl (by kernel_rfl) (by kernel_rfl) fun _ hK4 => ?_; refine z7b ?_; refine z3u ?_; refine exA (.c (.ds a.next.length (.cells (rowsC a.next)))) (as_eq (congrArg SV.c (z5w ha.1.clen))) ?_; refine z7b ?_; refine z3u ?_; refine exA (.c (.int .i64 (((s.1 : Nat) : Int)))) (as_eq (congrArg (fun v => SV.c (Cell.int IntKind.i64 v)) (rfl))) ?_; refine z7b ?_; refine z3u ?_; refine exA (.c (.ds (a.next.getD s.1 []).length (.ints .i64 (a.next.getD s.1 [])))) (as_eq (congrArg SV.c (z6y ⟨hs1, by omega⟩))) ?_
 iterate 3 refine z7b ?_
 refine z3u ?_; refine exA (.c (.int .i64 ((cN a c : Nat) : Int))) (as_eq (congrArg SV.c ((zbx ha.1.clen (by first | omega | (simp; done)) hc).trans (congrArg (Cell.int IntKind.i64) (cellN ha.1 hc).2)))) ?_; refine z7b ?_; refine z3u ?_; refine exA (.c (.int .i64 ((((tblT a).δ s.1 (cN a c) : Nat) : Int)))) (as_eq (congrArg (fun v => SV.c (Cell.int IntKind.i64 v)) ((congrArg (fun i => (a.next.getD s.1 []).getD i 0) (by omega)).trans hxa.2))) ?_; refine z7b ?_; refine z3u ?_; refine exA (.c (.ds b.next.length (.cells (rowsC b.next)))) (as_eq (congrArg SV.c (z5w hb.1.clen))) ?_; refine z7b ?_; refine z3u ?_; refine exA (.c (.int .i64 (((s.2.1 : Nat) : Int)))) (as_eq (congrArg (fun v => SV.c (Cell.int IntKind.i64 v)) (rfl))) ?_; refine z7b ?_; refine z3u ?_; refine exA (.c (.ds (b.next.getD s.2.1 []).length (.ints .i64 (b.next.getD s.2.1 [])))) (as_eq (congrArg SV.c (z6y ⟨hs2, by omega⟩))) ?_
 iterate 3 refine z7b ?_
 refine z3u ?_; refine exA (.c (.int .i64 ((cN b c : Nat) : Int))) (as_eq (congrArg SV.c ((zbx hb.1.clen (by first | omega | (simp; done)) hc).trans (congrArg (Cell.int IntKind.i64) (cellN hb.1 hc).2)))) ?_; refine z7b ?_; refine z3u ?_; refine exA (.c (.int .i64 ((((tblT b).δ s.2.1 (cN b c) : Nat) : Int)))) (as_eq (congrArg (fun v => SV.c (Cell.int IntKind.i64 v)) ((congrArg (fun i => (b.next.getD s.2.1 []).getD i 0) (by omega)).trans hxb.2))) ?_; refine z3u ?_; refine exA (stV (prodG a b s c)) (SV.as_refl _) ?_; refine gX0Utb_3 ?_; refine d_nil ?_; apply hK4; apply hK3; refine z0f (z0d g0_ok (fun _ _ h => h) rfl [.cell 6 95] rfl ?_)
 repeat first | refine aI (by first | exact trivial | rfl | (show (_ : Nat) ≤ 3; decide) | (show (_ : Nat) < 3; decide) | decide) ?_ | refine z06 (by rfl) ?_
 rfl

def boxF (f : FuncId) : Cell := .dp (.cells [.clo f []]) 0
theorem nc_3 (f : FuncId) (a b : Tab) : ∀ x ∈ [boxF f, dpT a, dpT b], ∀ g l, x ≠ Cell.clo g l := fun x hx g l => by
  rcases List.mem_cons.1 hx with rfl | hx
  · intro e; cases e
  · exact nc_2 a b x hx g l
def zxg (hf : FuncId) (hq : QSpec) : QSpec := fun vs K => ∃ (op : Bool → Bool → Bool) (a b : Tab) (s : Stt), vs = [stV s, .c (boxF hf), .c (dpT a), .c (dpT b)] ∧ (a.fit ∧ b.fit ∧ prodI a b s) ∧ (∀ x y, hq [.c (.bool x), .c (.bool y)] (fun v => v = .c (.bool (op x y)))) ∧ K (.c (.bool (prodA op a b s)))
set_option maxHeartbeats 1000000 in
set_option maxRecDepth 4000 in
theorem prod2_ok {hf : FuncId} {hq : QSpec} (hen : z4o Tryd.prog hf) (hok : z16 Tryd.prog gl hf hq) : z16 Tryd.prog gl 143 (zxg hf hq) := by
 refine z1a (Γ := gK hf hq) (N := 20) Tryd.func143 rfl rfl fun vs K h => ?_; obtain ⟨op, a, b, s, rfl, ⟨ha, hb, hs⟩, hcall, h⟩ := h; refine ⟨_, h, rfl, by simp, fun w I => ?_⟩
 have hlook := zvn (f := hf) (q := hq)
 refine seq_k fun _ hK1 => ?_; refine z00 (gK_ok hen hok) fun _ hK2 => ?_
 iterate 2 refine zxe ?_
 refine s_nil ?_; apply hK2; apply hK1; refine seq_k fun _ hK3 => ?_
 have hs1 := hs.1
 have hs2 := hs.2.1
 have hla := ha.1.alen
 have hlb := hb.1.alen
 refine z75 (gK_ok hen hok) (by kernel_rfl) fun _ hK4 => ?_
 iterate 2 refine zb5 ?_
 refine z7w ?_; refine exA (.c (.ds a.acc.length (.bools a.acc))) (as_eq (congrArg SV.c (zaj ha.1.clen))) ?_; refine zb5 ?_; refine z7w ?_; refine exA (.c (.int .i64 (((s.1 : Nat) : Int)))) (as_eq (congrArg (fun v => SV.c (Cell.int IntKind.i64 v)) (rfl))) ?_; refine zb5 ?_; refine z7w ?_; refine exA (.c (.bool (a.acc.getD s.1 false))) (as_eq (congrArg (fun v => SV.c (Cell.bool v)) (congrArg (fun i => a.acc.getD i false) (by omega)))) ?_; refine zb5 ?_; refine z7w ?_; refine exA (.c (.ds b.acc.length (.bools b.acc))) (as_eq (congrArg SV.c (zaj hb.1.clen))) ?_; refine zb5 ?_; refine z7w ?_; refine exA (.c (.int .i64 (((s.2.1 : Nat) : Int)))) (as_eq (congrArg (fun v => SV.c (Cell.int IntKind.i64 v)) (rfl))) ?_; refine zb5 ?_; refine z7w ?_; refine exA (.c (.bool (b.acc.getD s.2.1 false))) (as_eq (congrArg (fun v => SV.c (Cell.bool v)) (congrArg (fun i => b.acc.getD i false) (by omega)))) ?_; refine qX ?_; refine zhg (xs := [.bool (a.acc.getD s.1 false), .bool (b.acc.getD s.2.1 false)]) hlook (z0x zht (z0x zht z28)) z28 ?_; refine ⟨_, hcall _ _, ?_⟩
 first | refine exI ?_ | (intro cap13 hcap13; refine exI ?_)
 refine zb5 ?_; refine q_nil ?_; apply hK4; apply hK3; refine z0f (z0d (gK_ok hen hok) (fun _ _ h => h) (by first | rfl | assumption) [.tmp 5] rfl ?_); refine rtD ?_
 rfl

noncomputable def gPr (hf : FuncId) (hq : QSpec) : Ctx := { P := Tryd.prog, ty := ty, glob := gl, fs := [(74, .data z8n), (76, .data zr6), (80, .data (zet 142 zxf 143 (zxg hf hq)))] }
theorem z1t {hf : FuncId} {hq : QSpec} (hen : z4o Tryd.prog hf) (hok : z16 Tryd.prog gl hf hq) : (gPr hf hq).OK := ⟨tyOK, ⟨⟨z07 Tryd.func74 (by kernel_rfl) rfl, z6a⟩, ⟨z07 Tryd.func76 (by kernel_rfl) rfl, zjz⟩, ⟨z07 Tryd.func80 (by kernel_rfl) rfl, zd3 (z07 Tryd.func142 (by kernel_rfl) rfl) prod1_ok (z07 Tryd.func143 (by kernel_rfl) rfl) (prod2_ok hen hok) (by decide)⟩, trivial⟩, mixed⟩
@[simp] theorem gPr_ty {hf : FuncId} {hq : QSpec} : (gPr hf hq).ty = ty := rfl
theorem zxh {hf : FuncId} {hq : QSpec} {op : Bool → Bool → Bool} {a b : Tab} (ha : a.fit) (hb : b.fit) (hcall : ∀ x y, hq [.c (.bool x), .c (.bool y)] (fun v => v = .c (.bool (op x y)))) : ExIn zxf (zxg hf hq) (prodG a b) (prodA op a b) (prodI a b) (jL a b 256) (jrep (cN a) (cN b)) (0, 0, 0) [dpT a, dpT b] [boxF hf, dpT a, dpT b] 1073741824 :=
  ⟨z0l a b 256, (j_in a b).pos, (j_in a b).max, (j_in a b).byte, by decide, Nat.le_refl _, z0x z1x (z0x z1x z28), z0x z1x (z0x z1x (z0x z1x z28)), ⟨ha.1.npos, hb.1.npos, rfl⟩, fun s hs => prodI_ok ha hb hs, fun s c hs hc => zot ha hb hs hc,
   fun s c hs hc => ⟨a, b, s, c, rfl, ⟨ha, hb, hs, hc⟩, rfl⟩, fun s hs => ⟨op, a, b, s, rfl, ⟨ha, hb, hs⟩, hcall, rfl⟩⟩
attribute [local irreducible] prodT exR
def zk2 (hf : FuncId) (hq : QSpec) : QSpec := fun vs K => ∃ (op : Bool → Bool → Bool) (d e : Dfa), vs = [dfaV d, dfaV e, .c (.clo hf [])] ∧ (d.good ∧ e.good) ∧ (∀ x y, hq [.c (.bool x), .c (.bool y)] (fun v => v = .c (.bool (op x y)))) ∧ K (tabV (prodT op (tabD d) (tabD e)))
set_option maxHeartbeats 1000000 in
set_option maxRecDepth 4000 in
theorem zic {hf : FuncId} {hq : QSpec} (hen : z4o Tryd.prog hf) (hok : z16 Tryd.prog gl hf hq) : z2p Tryd.prog gl 87 (zk2 hf hq) := by
 refine z2e (Γ := gPr hf hq) (N := 35) Tryd.func87 rfl rfl fun vs K h => ?_; obtain ⟨op, d, e, rfl, ⟨hd, he⟩, hcall, h⟩ := h; refine ⟨_, h, z30 _, by simp, fun w I => ?_⟩
 have ha := z0y hd
 have hb := z0y he
 have hpf := (za9 (op := op) ha hb ⟨hd.2, he.2⟩).1
 obtain ⟨a, hae⟩ : ∃ a, a = tabD d := ⟨_, rfl⟩; obtain ⟨b, hbe⟩ : ∃ b, b = tabD e := ⟨_, rfl⟩; rw [← hae] at ha hpf; rw [← hbe] at hb hpf
 have hex := zxh (hf := hf) (hq := hq) ha hb hcall
 rw [← hae, ← hbe]; refine seq_k fun _ hK1 => ?_; refine z00 (z1t hen hok) fun _ hK2 => ?_
 iterate 4 refine z9o ?_
 refine s_nil ?_; apply hK2; apply hK1; refine zbm (α := Unit) (fun _ => [(5, .c (boxF hf)), (6, .c (.ptr 0 0)), (7, .c (dpT a)), (8, .c (dpT b))]) (fun _ => [(0, .own 87 (.cells zl) 259)]) 1 (fun _ => True) ?_ ?_
 ·refine zpp (z1t hen hok) ?_
  refine z4a (z1t hen hok) (g := 6) (by kernel_rfl) [(0, true), (2, true)] (by kernel_rfl) fun _ hK4 => ?_
  iterate 2 refine dXUtb_7 ?_
  refine d_nil ?_; apply hK4; refine z0u [1, 4, 5] (by kernel_rfl) (by decide) (List.forall_mem_cons.2 ⟨?_, List.forall_mem_cons.2 ⟨?_, List.forall_mem_cons.2 ⟨?_, fun _ h => by cases h⟩⟩⟩)
  ·refine z03 (z1t hen hok) ?_
   refine z1h ?_; refine ⟨d, rfl, hd, ?_⟩; rw [← hae]; refine z1h ?_
   first | refine exI ?_ | (intro cap1 hcap1; refine exI ?_)
   refine z0u [3, 4, 5] (by kernel_rfl) (by decide) (List.forall_mem_cons.2 ⟨?_, List.forall_mem_cons.2 ⟨?_, List.forall_mem_cons.2 ⟨?_, fun _ h => by cases h⟩⟩⟩)
   ·refine z03 (z1t hen hok) ?_
    refine z1h ?_; refine ⟨e, rfl, he, ?_⟩; rw [← hbe]; refine z1h ?_
    first | refine exI ?_ | (intro cap3 hcap3; refine exI ?_)
    refine z0u [4, 5] (by kernel_rfl) (by decide) (List.forall_mem_cons.2 ⟨?_, List.forall_mem_cons.2 ⟨?_, fun _ h => by cases h⟩⟩)
    ·refine z03 (z1t hen hok) ?_
     refine z1h ?_; refine exI ?_; refine z4a (z1t hen hok) (g := 0) (by kernel_rfl) [(5, false), (6, false), (7, false)] (by kernel_rfl) fun _ hK5 => ?_; refine zd9 ?_
     iterate 2 refine z4e ?_
     refine d_nil ?_; apply hK5; refine z3n (by kernel_rfl) ?_; refine dnS [2, 4, 5] (fun _ => 3) () trivial [3] z13 z13 z13 z13
    ·refine z03 (z1t hen hok) ?_
     refine z1h ?_; refine exI ?_; refine z4a (z1t hen hok) (g := 0) (by kernel_rfl) [(4, false), (6, false), (7, false)] (by kernel_rfl) fun _ hK6 => ?_; refine zd9 ?_
     iterate 2 refine z4e ?_
     refine d_nil ?_; apply hK6; refine z3n (by kernel_rfl) ?_; refine dnS [2, 4, 5] (fun _ => 3) () trivial [3] z13 z13 z13 z13
   ·refine z03 (z1t hen hok) ?_
    refine z1h ?_; refine exI ?_; refine z0u [3, 5] (by kernel_rfl) (by decide) (List.forall_mem_cons.2 ⟨?_, List.forall_mem_cons.2 ⟨?_, fun _ h => by cases h⟩⟩)
    ·refine z03 (z1t hen hok) ?_
     refine z1h ?_; refine ⟨e, rfl, he, ?_⟩; rw [← hbe]; refine z1h ?_
     first | refine exI ?_ | (intro cap3 hcap3; refine exI ?_)
     refine z4a (z1t hen hok) (g := 0) (by kernel_rfl) [(5, false), (6, false), (7, false)] (by kernel_rfl) fun _ hK7 => ?_; refine zd9 ?_
     iterate 2 refine z4e ?_
     refine d_nil ?_; apply hK7; refine z3n (by kernel_rfl) ?_; refine dnS [2, 4, 5] (fun _ => 3) () trivial [3] z13 z13 z13 z13
    ·refine z03 (z1t hen hok) ?_
     refine z1h ?_; refine exI ?_; refine z4a (z1t hen hok) (g := 0) (by kernel_rfl) [(3, false), (6, false), (7, false)] (by kernel_rfl) fun _ hK8 => ?_; refine z5k ?_; refine ⟨e, rfl, he, ?_⟩; rw [← hbe]; refine z1h ?_
     first | refine exI ?_ | (intro cap3 hcap3; refine exI ?_)
     iterate 2 refine z4e ?_
     refine d_nil ?_; apply hK8; refine z3n (by kernel_rfl) ?_; refine dnS [2, 4, 5] (fun _ => 3) () trivial [3] z13 z13 z13 z13
   ·refine z03 (z1t hen hok) ?_
    refine z1h ?_; refine exI ?_; refine z0u [3, 4] (by kernel_rfl) (by decide) (List.forall_mem_cons.2 ⟨?_, List.forall_mem_cons.2 ⟨?_, fun _ h => by cases h⟩⟩)
    ·refine z03 (z1t hen hok) ?_
     refine z1h ?_; refine ⟨e, rfl, he, ?_⟩; rw [← hbe]; refine z1h ?_
     first | refine exI ?_ | (intro cap3 hcap3; refine exI ?_)
     refine z4a (z1t hen hok) (g := 0) (by kernel_rfl) [(4, false), (6, false), (7, false)] (by kernel_rfl) fun _ hK9 => ?_; refine zd9 ?_
     iterate 2 refine z4e ?_
     refine d_nil ?_; apply hK9; refine z3n (by kernel_rfl) ?_; refine dnS [2, 4, 5] (fun _ => 3) () trivial [3] z13 z13 z13 z13
    ·refine z03 (z1t hen hok) ?_
     refine z1h ?_; refine exI ?_; refine z4a (z1t hen hok) (g := 0) (by kernel_rfl) [(3, false), (6, false), (7, false)] (by kernel_rfl) fun _ hK10 => ?_; refine z5k ?_; refine ⟨e, rfl, he, ?_⟩; rw [← hbe]; refine z1h ?_
     first | refine exI ?_ | (intro cap3 hcap3; refine exI ?_)
     iterate 2 refine z4e ?_
     refine d_nil ?_; apply hK10; refine z3n (by kernel_rfl) ?_; refine dnS [2, 4, 5] (fun _ => 3) () trivial [3] z13 z13 z13 z13
  ·refine z03 (z1t hen hok) ?_
   refine z1h ?_; refine exI ?_; refine z0u [1, 5] (by kernel_rfl) (by decide) (List.forall_mem_cons.2 ⟨?_, List.forall_mem_cons.2 ⟨?_, fun _ h => by cases h⟩⟩)
   ·refine z03 (z1t hen hok) ?_
    refine z1h ?_; refine ⟨d, rfl, hd, ?_⟩; rw [← hae]; refine z1h ?_
    first | refine exI ?_ | (intro cap1 hcap1; refine exI ?_)
    refine z0u [3, 5] (by kernel_rfl) (by decide) (List.forall_mem_cons.2 ⟨?_, List.forall_mem_cons.2 ⟨?_, fun _ h => by cases h⟩⟩)
    ·refine z03 (z1t hen hok) ?_
     refine z1h ?_; refine ⟨e, rfl, he, ?_⟩; rw [← hbe]; refine z1h ?_
     first | refine exI ?_ | (intro cap3 hcap3; refine exI ?_)
     refine z4a (z1t hen hok) (g := 0) (by kernel_rfl) [(5, false), (6, false), (7, false)] (by kernel_rfl) fun _ hK11 => ?_; refine zd9 ?_
     iterate 2 refine z4e ?_
     refine d_nil ?_; apply hK11; refine z3n (by kernel_rfl) ?_; refine dnS [2, 4, 5] (fun _ => 3) () trivial [3] z13 z13 z13 z13
    ·refine z03 (z1t hen hok) ?_
     refine z1h ?_; refine exI ?_; refine z4a (z1t hen hok) (g := 0) (by kernel_rfl) [(3, false), (6, false), (7, false)] (by kernel_rfl) fun _ hK12 => ?_; refine z5k ?_; refine ⟨e, rfl, he, ?_⟩; rw [← hbe]; refine z1h ?_
     first | refine exI ?_ | (intro cap3 hcap3; refine exI ?_)
     iterate 2 refine z4e ?_
     refine d_nil ?_; apply hK12; refine z3n (by kernel_rfl) ?_; refine dnS [2, 4, 5] (fun _ => 3) () trivial [3] z13 z13 z13 z13
   ·refine z03 (z1t hen hok) ?_
    refine z1h ?_; refine exI ?_; refine z4a (z1t hen hok) (g := 0) (by kernel_rfl) [(1, false), (3, false), (6, false), (7, false)] (by kernel_rfl) fun _ hK13 => ?_; refine z5k ?_; refine ⟨d, rfl, hd, ?_⟩; rw [← hae]; refine z1h ?_
    first | refine exI ?_ | (intro cap1 hcap1; refine exI ?_)
    refine z5k ?_; refine ⟨e, rfl, he, ?_⟩; rw [← hbe]; refine z1h ?_
    first | refine exI ?_ | (intro cap3 hcap3; refine exI ?_)
    iterate 2 refine z4e ?_
    refine d_nil ?_; apply hK13; refine z3n (by kernel_rfl) ?_; refine dnS [2, 4, 5] (fun _ => 3) () trivial [3] z13 z13 z13 z13
  ·refine z03 (z1t hen hok) ?_
   refine z1h ?_; refine exI ?_; refine z0u [1, 4] (by kernel_rfl) (by decide) (List.forall_mem_cons.2 ⟨?_, List.forall_mem_cons.2 ⟨?_, fun _ h => by cases h⟩⟩)
   ·refine z03 (z1t hen hok) ?_
    refine z1h ?_; refine ⟨d, rfl, hd, ?_⟩; rw [← hae]; refine z1h ?_
    first | refine exI ?_ | (intro cap1 hcap1; refine exI ?_)
    refine z0u [3, 4] (by kernel_rfl) (by decide) (List.forall_mem_cons.2 ⟨?_, List.forall_mem_cons.2 ⟨?_, fun _ h => by cases h⟩⟩)
    ·refine z03 (z1t hen hok) ?_
     refine z1h ?_; refine ⟨e, rfl, he, ?_⟩; rw [← hbe]; refine z1h ?_
     first | refine exI ?_ | (intro cap3 hcap3; refine exI ?_)
     refine z4a (z1t hen hok) (g := 0) (by kernel_rfl) [(4, false), (6, false), (7, false)] (by kernel_rfl) fun _ hK14 => ?_; refine zd9 ?_
     iterate 2 refine z4e ?_
     refine d_nil ?_; apply hK14; refine z3n (by kernel_rfl) ?_; refine dnS [2, 4, 5] (fun _ => 3) () trivial [3] z13 z13 z13 z13
    ·refine z03 (z1t hen hok) ?_
     refine z1h ?_; refine exI ?_; refine z4a (z1t hen hok) (g := 0) (by kernel_rfl) [(3, false), (6, false), (7, false)] (by kernel_rfl) fun _ hK15 => ?_; refine z5k ?_; refine ⟨e, rfl, he, ?_⟩; rw [← hbe]; refine z1h ?_
     first | refine exI ?_ | (intro cap3 hcap3; refine exI ?_)
     iterate 2 refine z4e ?_
     refine d_nil ?_; apply hK15; refine z3n (by kernel_rfl) ?_; refine dnS [2, 4, 5] (fun _ => 3) () trivial [3] z13 z13 z13 z13
   ·refine z03 (z1t hen hok) ?_
    refine z1h ?_; refine exI ?_; refine z4a (z1t hen hok) (g := 0) (by kernel_rfl) [(1, false), (3, false), (6, false), (7, false)] (by kernel_rfl) fun _ hK16 => ?_; refine z5k ?_; refine ⟨d, rfl, hd, ?_⟩; rw [← hae]; refine z1h ?_
    first | refine exI ?_ | (intro cap1 hcap1; refine exI ?_)
    refine z5k ?_; refine ⟨e, rfl, he, ?_⟩; rw [← hbe]; refine z1h ?_
    first | refine exI ?_ | (intro cap3 hcap3; refine exI ?_)
    iterate 2 refine z4e ?_
    refine d_nil ?_; apply hK16; refine z3n (by kernel_rfl) ?_; refine dnS [2, 4, 5] (fun _ => 3) () trivial [3] z13 z13 z13 z13
 ·intro u hu
  clear hu; refine seq_k fun _ hK17 => ?_; refine z00 (z1t hen hok) fun _ hK18 => ?_; refine z6n ?_; refine exA (tabV a) (SV.as_refl _) ?_; refine z6n ?_; refine exA (tabV b) (SV.as_refl _) ?_; refine z6n ?_; refine aI (z0v _) ?_; refine z10 _ ?_; refine aI (z0v _) ?_; refine z10 _ ?_; refine ⟨a, b, rfl, ⟨ha, hb⟩, ?_⟩
  simp only [z21]
  refine z1h ?_
  first | refine exI ?_ | (intro cap2 hcap2; refine exI ?_)
  iterate 4 refine z9o ?_
  refine zgx ?_; refine z9o ?_; refine s_nil ?_; apply hK18; apply hK17; refine seq_k fun _ hK19 => ?_; refine leW [1] id [(5, .c (boxF hf)), (6, .c (.ptr 0 0)), (7, .c (dpT a)), (8, .c (dpT b)), (9, .c (.dp (.ints .i64 (jL a b 256)) 0)), (10, .c (.ds (jrep (cN a) (cN b)).length (.ints .i64 (natsI (jrep (cN a) (cN b))))))] [(0, .own 87 (.cells zl) 259)] 1 [0] z13 z13 z13 z13 ?_; refine z00 (z1t hen hok) fun _ hK20 => ?_
  iterate 2 refine z9o ?_
  refine s_nil ?_; apply hK20; apply hK19; refine seq_k fun _ hK21 => ?_; refine z00 (z1t hen hok) fun _ hK22 => ?_; refine z6n ?_; refine exA (.agg (.ints .i64 (jL a b 256))) (SV.as_refl _) ?_; refine z9o ?_; refine z6n ?_; refine exA (stV (0, 0, 0)) (as_eq rfl) ?_
  iterate 2 refine z9o ?_
  refine z6n ?_; refine aI (nc_st _) ?_; refine aI (nc_2 _ _) ?_; refine aI (nc_3 _ _ _) ?_; refine ⟨prodG a b, prodA op a b, prodI a b, jL a b 256, jrep (cN a) (cN b), (0, 0, 0), [dpT a, dpT b], [boxF hf, dpT a, dpT b], 1073741824, rfl, hex, ?_⟩; rw [show exV (exR (prodG a b) (prodA op a b) (jL a b 256) (jrep (cN a) (cN b)) (0, 0, 0) 1073741824) = .tup [.agg (tabC (prodT op a b)), .c (.bool (exR (prodG a b) (prodA op a b) (jL a b 256) (jrep (cN a) (cN b)) (0, 0, 0) 1073741824).2)] by unfold prodT; rfl]; refine z1h ?_
  first | refine exI ?_ | (intro cap5 hcap5; refine exI ?_)
  iterate 4 refine z9o ?_
  refine zgx ?_; refine z9o ?_; refine s_nil ?_; apply hK22; apply hK21; refine seq_k fun _ hK23 => ?_; refine z00 (z1t hen hok) fun _ hK24 => ?_; refine z6n ?_; refine exA (tabV (prodT op a b)) (SV.as_refl _) ?_; refine zgx ?_; refine s_nil ?_; apply hK24; apply hK23; refine z0f (z0n (z1t hen hok) (fun _ _ h => h) (z30 _) [] [.cell 6 87] rfl ?_)
  repeat first | refine aI (by first | exact trivial | rfl | exact ⟨rfl, rfl⟩ | decide | exact z3s trivial trivial | exact zjv hpf.1.clen | (show 0 + 259 ≤ (z02 _ _ _ _).length; rw [z01 hpf.1.clen]; decide) | (show 0 < (z02 _ _ _ _).length; rw [z01 hpf.1.clen]; decide)) ?_ | refine z04 (zgo hpf.1.clen) ?_ | refine z06 (by exact z01 hpf.1.clen) ?_
  all_goals exact z13

end Go.Proofs.YtppmnaoollkboaaDoor

namespace Go.Proofs.YtppmnaoollkboaaDoor
set_option linter.all false
open Go.Ab Go.RowKit

theorem qUtc0 {a : Prop} (h : a := by first | exact vcA | (simp <;> omega) | exact vcB) : a := h
theorem qUtc1 {a : Prop} (h : a := by first | exact vcA | (simp [-List.reduceReplicate] <;> omega) | exact vTh | exact vcB) : a := h
theorem zm8 {a : Prop} (h : a := by
    repeat' (first | exact z1f _ | exact z30 _ | exact pT  | exact trivial | refine aI ?_ ?_ | exact cC0 | refine low_cons' ?_ ?_ | exact cC1 | fail)
    all_goals first | omega | exact z1f _ | (show (0 : Nat) < (z02 _ _ _ _).length; rw [z01 hcl]; decide) | (simp [-List.reduceReplicate]; done) | (simp [-List.reduceReplicate] <;> omega) | skip) : a := h
theorem zxi {a b : Prop} (kZ : b) (h : HidB b → a := by intro kZ; (repeat first | refine aI qUtc0 ?_ | refine z06 qUtc0 ?_ | refine z04 qUtc0 ?_ | refine z0k qUtc0 ?_ | refine z0a ?_); exact kZ.out) : a := h ⟨kZ⟩
theorem z7c {a b : Prop} (kZ : b) (h : HidB b → a := by intro kZ; refine sX ?_; refine zxi ?_; refine exI ?_; exact kZ.out) : a := h ⟨kZ⟩
theorem zr9 {a b : Prop} (kZ : b) (h : HidB b → a := by intro kZ; refine sXT ?_; refine zxi ?_; refine exI ?_; exact kZ.out) : a := h ⟨kZ⟩
theorem z9p {a b : Prop} (kZ : b) (h : HidB b → a := by intro kZ; (repeat first | refine aI qUtc1 ?_ | refine z06 qUtc1 ?_ | refine z04 qUtc1 ?_ | refine z0k qUtc1 ?_ | refine z0a ?_); exact kZ.out) : a := h ⟨kZ⟩
theorem z33 {a b : Prop} (kZ : b) (h : HidB b → a := by intro kZ; refine sX ?_; refine z9p ?_; refine exI ?_; exact kZ.out) : a := h ⟨kZ⟩
theorem zc2 {a b : Prop} (kZ : b) (h : HidB b → a := by intro kZ; refine sX0 ?_; refine z9p ?_; refine exI ?_; exact kZ.out) : a := h ⟨kZ⟩
theorem zra {a b : Prop} (kZ : b) (h : HidB b → a := by intro kZ; refine sXT ?_; refine z9p ?_; refine exI ?_; exact kZ.out) : a := h ⟨kZ⟩
theorem zrb {a b : Prop} (kZ : b) (h : HidB b → a := by intro kZ; refine sX ?_; refine zxi ?_; exact kZ.out) : a := h ⟨kZ⟩
theorem zaa {a b : Prop} (kZ : b) (h : HidB b → a := by intro kZ; refine sX ?_; refine z9p ?_; exact kZ.out) : a := h ⟨kZ⟩
theorem zxj {a b : Prop} (kZ : b) (h : HidB b → a := by intro kZ; refine sXT ?_; refine z9p ?_; exact kZ.out) : a := h ⟨kZ⟩

open Go.Aut
attribute [local irreducible] z0q z1z zl z02 z18 putB prodT canD
def hAndS : QSpec := fun vs K => ∃ x y : Bool, vs = [.c (.bool x), .c (.bool y)] ∧ K (.c (.bool (x && y)))
theorem hAnd_ok : z16 Tryd.prog gl 92 hAndS := by
 refine z1a (Γ := g0) (N := 9) Tryd.func92 rfl rfl fun vs K h => ?_; obtain ⟨x, y, rfl, h⟩ := h; refine ⟨_, h, rfl, by simp, fun w I => ?_⟩; refine seq_k fun _ hK1 => ?_; refine z00 g0_ok fun _ hK2 => ?_; refine z7c ?_; refine s_nil ?_; apply hK2; apply hK1; refine seq_k fun _ hK3 => ?_; refine z00 g0_ok fun _ hK4 => ?_; refine z7c ?_; refine zrb ?_; refine exB (fun hb1 => ?_) (fun hb1 => ?_)
 ·try simp only [dQ, if_true, if_false, reduceIte] at hb1
  refine zr9 ?_
  iterate 2 refine z7c ?_
  refine s_nil ?_; apply hK4; apply hK3; refine z0f (z0d g0_ok (fun _ _ h => h) (by first | rfl | assumption) [.tmp 4] rfl ?_); refine rtD ?_
  first | rfl | (cases x <;> cases y <;> rfl) | (cases x <;> cases y <;> first | rfl | simp_all)
 ·try simp only [dQ, if_true, if_false, reduceIte] at hb1
  refine sN ?_
  iterate 2 refine z7c ?_
  refine s_nil ?_; apply hK4; apply hK3; refine z0f (z0d g0_ok (fun _ _ h => h) (by first | rfl | assumption) [.tmp 4] rfl ?_); refine rtD ?_
  first | rfl | (cases x <;> cases y <;> rfl) | (cases x <;> cases y <;> first | rfl | simp_all)

def hOrS : QSpec := fun vs K => ∃ x y : Bool, vs = [.c (.bool x), .c (.bool y)] ∧ K (.c (.bool (x || y)))
theorem hOr_ok : z16 Tryd.prog gl 94 hOrS := by
 refine z1a (Γ := g0) (N := 9) Tryd.func94 rfl rfl fun vs K h => ?_; obtain ⟨x, y, rfl, h⟩ := h; refine ⟨_, h, rfl, by simp, fun w I => ?_⟩; refine seq_k fun _ hK1 => ?_; refine z00 g0_ok fun _ hK2 => ?_; refine z7c ?_; refine s_nil ?_; apply hK2; apply hK1; refine seq_k fun _ hK3 => ?_; refine z00 g0_ok fun _ hK4 => ?_; refine z7c ?_; refine zrb ?_; refine exB (fun hb1 => ?_) (fun hb1 => ?_)
 ·try simp only [dQ, if_true, if_false, reduceIte] at hb1
  refine sN ?_
  iterate 2 refine z7c ?_
  refine s_nil ?_; apply hK4; apply hK3; refine z0f (z0d g0_ok (fun _ _ h => h) (by first | rfl | assumption) [.tmp 4] rfl ?_); refine rtD ?_
  first | rfl | (cases x <;> cases y <;> rfl) | (cases x <;> cases y <;> first | rfl | simp_all)
 ·try simp only [dQ, if_true, if_false, reduceIte] at hb1
  refine zr9 ?_
  iterate 2 refine z7c ?_
  refine s_nil ?_; apply hK4; apply hK3; refine z0f (z0d g0_ok (fun _ _ h => h) (by first | rfl | assumption) [.tmp 4] rfl ?_); refine rtD ?_
  first | rfl | (cases x <;> cases y <;> rfl) | (cases x <;> cases y <;> first | rfl | simp_all)

def hMinusS : QSpec := fun vs K => ∃ x y : Bool, vs = [.c (.bool x), .c (.bool y)] ∧ K (.c (.bool (x && !y)))
def zxk : QSpec := fun vs K => ∃ x y : Bool, vs = [.c (.bool x), .c (.bool y)] ∧ K (.c (.bool (x != y)))
theorem zxl : z16 Tryd.prog gl 88 zxk := by
 refine z1a (Γ := g0) (N := 8) Tryd.func88 rfl rfl fun vs K h => ?_; obtain ⟨x, y, rfl, h⟩ := h; refine ⟨_, h, rfl, by simp, fun w I => ?_⟩; refine seq_k fun _ hK1 => ?_; refine z00 g0_ok fun _ hK2 => ?_; refine z7c ?_; refine s_nil ?_; apply hK2; apply hK1; refine seq_k fun _ hK3 => ?_; refine z00 g0_ok fun _ hK4 => ?_
 iterate 4 refine z7c ?_
 refine s_nil ?_; apply hK4; apply hK3; refine z0f (z0d g0_ok (fun _ _ h => h) (by first | rfl | assumption) [.tmp 4] rfl ?_); refine rtD ?_
 first | rfl | (cases x <;> cases y <;> rfl) | (cases x <;> cases y <;> first | rfl | simp_all)


theorem z9q (op : Bool → Bool → Bool) {d e : Dfa} (hd : d.good) (he : e.good) : (prodT op (tabD d) (tabD e)).fit := (za9 (z0y hd) (z0y he) ⟨hd.2, he.2⟩).1
noncomputable def gCo (hf : FuncId) (hq : QSpec) : Ctx := { P := Tryd.prog, ty := ty, glob := gl, fs := [(50, .flat z8m), (87, .data (zk2 hf hq)), (83, .data zeu)] }
theorem zdz {hf : FuncId} {hq : QSpec} (hen : z4o Tryd.prog hf) (hok : z16 Tryd.prog gl hf hq) : (gCo hf hq).OK := ⟨tyOK, ⟨⟨z07 Tryd.func50 (by kernel_rfl) rfl, z5i⟩, ⟨z07 Tryd.func87 (by kernel_rfl) rfl, zic hen hok⟩, ⟨z07 Tryd.func83 (by kernel_rfl) rfl, zd5⟩, trivial⟩, mixed⟩
@[simp] theorem gCo_ty {hf : FuncId} {hq : QSpec} : (gCo hf hq).ty = ty := rfl
def zc3 (hf : FuncId) (hq : QSpec) : QSpec := fun vs K => ∃ (op : Bool → Bool → Bool) (d e : Dfa), vs = [dfaV d, dfaV e, .c (.clo hf [])] ∧ (d.wf ∧ e.wf) ∧ (∀ x y, hq [.c (.bool x), .c (.bool y)] (fun v => v = .c (.bool (op x y)))) ∧ K (resV (combR op d e))
set_option maxHeartbeats 1000000 in
set_option maxRecDepth 4000 in
theorem zgy {hf : FuncId} {hq : QSpec} (hen : z4o Tryd.prog hf) (hok : z16 Tryd.prog gl hf hq) : z2p Tryd.prog gl 91 (zc3 hf hq) := by
 refine z2e (Γ := gCo hf hq) (N := 24) Tryd.func91 rfl rfl fun vs K h => ?_; obtain ⟨op, d, e, rfl, ⟨hd, he⟩, hcall, h⟩ := h; refine ⟨_, h, z1d _, by simp, fun w I => ?_⟩; refine seq_k fun _ hK1 => ?_; refine z00 (zdz hen hok) fun _ hK2 => ?_
 iterate 4 refine z33 ?_
 refine s_nil ?_; apply hK2; apply hK1; refine seq_k fun _ hK3 => ?_; refine seq_k fun _ hK4 => ?_; refine z00 (zdz hen hok) fun _ hK5 => ?_; refine z33 ?_; refine zaa ?_; refine ⟨d, rfl, hd, ?_⟩; refine z9p ?_
 first | refine exI ?_ | (intro cap1 hcap1; refine exI ?_)
 refine z33 ?_; refine zaa ?_; refine exB (fun hb3 => ?_) (fun hb3 => ?_)
 ·try simp only [dQ, if_true, if_false, reduceIte] at hb3
  iterate 3 refine sN ?_
  refine z33 ?_; refine s_nil ?_; apply hK5; apply hK4; refine z08 (b := _) rfl (fun _ => ?_) (fun h_t15 => ?_)
  rotate_left 1
  ·exfalso; simp at h_t15
  refine seq_k fun _ hK6 => ?_; refine z00 (zdz hen hok) fun _ hK7 => ?_; refine z33 ?_; refine zc2 ?_; refine z33 ?_; refine s_nil ?_; apply hK7; apply hK6
  have hno : ¬ (z0s d = true ∧ z0s e = true) := by intro hh; simp_all
  rw [combR, if_neg hno]; refine z0f (z0n (zdz hen hok) (fun _ _ h => h) (z1d _) [] [.cell 6 30, .tmp 7] rfl ?_)
  repeat first | refine aI (by first | exact trivial | rfl | exact ⟨rfl, rfl⟩ | decide) ?_ | refine z06 (by first | rfl | decide) ?_ | refine z04 (by first | rfl | decide) ?_
  all_goals exact zm8
 ·try simp only [dQ, if_true, if_false, reduceIte] at hb3
  refine zra ?_; refine zxj ?_; refine ⟨e, rfl, he, ?_⟩; refine z9p ?_
  first | refine exI ?_ | (intro cap5 hcap5; refine exI ?_)
  refine zra ?_; refine z33 ?_; refine s_nil ?_; apply hK5; apply hK4; refine z08 (b := _) rfl (fun h_t15 => ?_) (fun h_t15 => ?_)
  ·try simp only [dQ, if_true, if_false, reduceIte] at h_t15
   refine seq_k fun _ hK8 => ?_; refine z00 (zdz hen hok) fun _ hK9 => ?_; refine z33 ?_; refine zc2 ?_; refine z33 ?_; refine s_nil ?_; apply hK9; apply hK8
   have hno : ¬ (z0s d = true ∧ z0s e = true) := by intro hh; simp_all
   rw [combR, if_neg hno]; refine z0f (z0n (zdz hen hok) (fun _ _ h => h) (z1d _) [] [.cell 6 30, .tmp 7] rfl ?_)
   repeat first | refine aI (by first | exact trivial | rfl | exact ⟨rfl, rfl⟩ | decide) ?_ | refine z06 (by first | rfl | decide) ?_ | refine z04 (by first | rfl | decide) ?_
   all_goals exact zm8
  ·try simp only [dQ, if_true, if_false, reduceIte] at h_t15
   refine z0c ?_; apply hK3; refine seq_k fun _ hK10 => ?_
   have hvd : z0s d = true := by simp_all
   have hve : z0s e = true := by simp_all
   have hgd := (z1o hd).1 hvd
   have hge := (z1o he).1 hve
   refine z00 (zdz hen hok) fun _ hK11 => ?_
   iterate 3 refine z33 ?_
   refine zaa ?_; refine ⟨op, d, e, rfl, ⟨hgd, hge⟩, hcall, ?_⟩; refine z9p ?_
   first | refine exI ?_ | (intro cap3 hcap3; refine exI ?_)
   refine zaa ?_; refine aI (z0v _) ?_; refine z10 _ ?_; refine ⟨_, rfl, z9q op hgd hge, ?_⟩; rw [zk1 hgd hge]
   simp only [z21]
   refine z9p ?_
   first | refine exI ?_ | (intro cap4 hcap4; refine exI ?_)
   iterate 2 refine z33 ?_
   refine zc2 ?_; refine z33 ?_; refine s_nil ?_; apply hK11; apply hK10
   have hyes : z0s d = true ∧ z0s e = true := ⟨hvd, hve⟩
   rw [combR, if_pos hyes]; refine z0f (z0n (zdz hen hok) (fun _ _ h => h) (z1d _) [] [.cell 6 30, .tmp 7] rfl ?_)
   repeat first | refine aI (by first | exact trivial | rfl | exact ⟨rfl, rfl⟩ | decide) ?_ | refine z06 (by first | rfl | decide) ?_ | refine z04 (by first | rfl | decide) ?_
   all_goals exact zm8
noncomputable def gOand : Ctx := { P := Tryd.prog, ty := ty, glob := gl, fs := [(91, .data (zc3 92 hAndS))] }
theorem zk3 : gOand.OK := ⟨tyOK, ⟨⟨z07 Tryd.func91 (by kernel_rfl) rfl, zgy (z07 Tryd.func92 (by kernel_rfl) rfl) hAnd_ok⟩, trivial⟩, mixed⟩
@[simp] theorem gOand_ty : gOand.ty = ty := rfl

def andAS : QSpec := fun vs K => ∃ d e : Dfa, vs = [dfaV d, dfaV e] ∧ (d.wf ∧ e.wf) ∧ K (resV (combR (fun x y => x && y) d e))
set_option maxHeartbeats 1000000 in
set_option maxRecDepth 4000 in
theorem andA_ok : z2p Tryd.prog gl 36 andAS := by
 refine z2e (Γ := gOand) (N := 11) Tryd.func36 rfl rfl fun vs K h => ?_; obtain ⟨d, e, rfl, ⟨hd, he⟩, h⟩ := h; refine ⟨_, h, z1d _, by simp, fun w I => ?_⟩; refine seq_k fun _ hK1 => ?_; refine z00 zk3 fun _ hK2 => ?_
 iterate 4 refine z33 ?_
 refine s_nil ?_; apply hK2; apply hK1; refine seq_k fun _ hK3 => ?_; refine z00 zk3 fun _ hK4 => ?_
 iterate 2 refine z33 ?_
 refine zaa ?_; refine ⟨fun x y => x && y, d, e, rfl, ⟨hd, he⟩, fun x y => ⟨x, y, rfl, rfl⟩, ?_⟩; refine z9p ?_
 first | refine exI ?_ | (intro cap2 hcap2; refine exI ?_)
 iterate 2 refine z33 ?_
 refine zc2 ?_; refine z33 ?_; refine s_nil ?_; apply hK4; apply hK3; refine z0f (z0n zk3 (fun _ _ h => h) (z1d _) [] [.cell 4 30, .tmp 5] rfl ?_)
 repeat first | refine aI (by first | exact trivial | rfl | exact ⟨rfl, rfl⟩ | decide) ?_ | refine z06 (by first | rfl | decide) ?_ | refine z04 (by first | rfl | decide) ?_
 all_goals exact zm8

noncomputable def gOor : Ctx := { P := Tryd.prog, ty := ty, glob := gl, fs := [(91, .data (zc3 94 hOrS))] }
theorem zou : gOor.OK := ⟨tyOK, ⟨⟨z07 Tryd.func91 (by kernel_rfl) rfl, zgy (z07 Tryd.func94 (by kernel_rfl) rfl) hOr_ok⟩, trivial⟩, mixed⟩
@[simp] theorem gOor_ty : gOor.ty = ty := rfl

def orAS : QSpec := fun vs K => ∃ d e : Dfa, vs = [dfaV d, dfaV e] ∧ (d.wf ∧ e.wf) ∧ K (resV (combR (fun x y => x || y) d e))
set_option maxHeartbeats 1000000 in
set_option maxRecDepth 4000 in
theorem orA_ok : z2p Tryd.prog gl 38 orAS := by
 refine z2e (Γ := gOor) (N := 11) Tryd.func38 rfl rfl fun vs K h => ?_; obtain ⟨d, e, rfl, ⟨hd, he⟩, h⟩ := h; refine ⟨_, h, z1d _, by simp, fun w I => ?_⟩; refine seq_k fun _ hK1 => ?_; refine z00 zou fun _ hK2 => ?_
 iterate 4 refine z33 ?_
 refine s_nil ?_; apply hK2; apply hK1; refine seq_k fun _ hK3 => ?_; refine z00 zou fun _ hK4 => ?_
 iterate 2 refine z33 ?_
 refine zaa ?_; refine ⟨fun x y => x || y, d, e, rfl, ⟨hd, he⟩, fun x y => ⟨x, y, rfl, rfl⟩, ?_⟩; refine z9p ?_
 first | refine exI ?_ | (intro cap2 hcap2; refine exI ?_)
 iterate 2 refine z33 ?_
 refine zc2 ?_; refine z33 ?_; refine s_nil ?_; apply hK4; apply hK3; refine z0f (z0n zou (fun _ _ h => h) (z1d _) [] [.cell 4 30, .tmp 5] rfl ?_)
 repeat first | refine aI (by first | exact trivial | rfl | exact ⟨rfl, rfl⟩ | decide) ?_ | refine z06 (by first | rfl | decide) ?_ | refine z04 (by first | rfl | decide) ?_
 all_goals exact zm8

noncomputable def gOminus : Ctx := { P := Tryd.prog, ty := ty, glob := gl, fs := [(91, .data (zc3 95 hMinusS))] }
@[simp] theorem gOminus_ty : gOminus.ty = ty := rfl

def minusAS : QSpec := fun vs K => ∃ d e : Dfa, vs = [dfaV d, dfaV e] ∧ (d.wf ∧ e.wf) ∧ K (resV (combR (fun x y => x && !y) d e))
end Go.Proofs.YtppmnaoollkboaaDoor
