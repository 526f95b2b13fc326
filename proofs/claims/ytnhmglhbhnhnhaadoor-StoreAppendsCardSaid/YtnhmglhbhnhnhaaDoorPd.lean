/- Part 4 of what the claims of this seat share: the walk's engine, the functions' contracts, plain mathematics (Sd, Se, Sf, Sg, Sh, Si, Sj, Sk, Sl, Sm, Sn, So, Sp). -/
import Derived.Test.YtnhmglhbhnhnhaaDoorPc
namespace Go.Proofs.YtnhmglhbhnhnhaaDoor
set_option linter.unusedVariables false
open Go.Ab Go.RowKit

theorem qSd0 {a : Prop} (h : a := by first | exact vcA | (simp <;> omega) | exact vcB) : a := h
theorem qSd1 {a : Prop} (h : a := by first | exact vcA | (simp <;> omega) | exact shl_in _ _ (by decide) | exact or_ok (shl_b _ _ (by decide)) (shl_b _ _ (by decide)) | exact or_ok (or_b (shl_b _ _ (by decide)) (shl_b _ _ (by decide))) (shl_b _ _ (by decide)) | exact or_ok (or_b (or_b (shl_b _ _ (by decide)) (shl_b _ _ (by decide))) (shl_b _ _ (by decide))) (u8_b _) | exact vcB) : a := h
theorem qSd2 {a : Prop} (h : a := by first | exact vcA | (simp <;> omega) | (show 0 + 32 < List.length _; simp [Cont.list] <;> omega) | (show 0 + 33 < List.length _; simp [Cont.list] <;> omega) | (refine ⟨by decide, ?_, ?_⟩ <;> first | decide | omega | (show _ ≤ (List.take _ _).length; rw [List.length_take]; omega) | (show _ ≤ (List.drop _ _).length; omega)) | exact hk32.symm | exact hs32.symm | (show 0 < List.length _; omega) | (show _ ≤ List.length _; omega) | (show 0 + List.length _ ≤ List.length _; simp [Cont.list] <;> omega) | (show 33 + List.length _ ≤ List.length _; simp [Cont.list] <;> omega) | exact hk32 | exact hs32 | exact vcB) : a := h
theorem qSd3 {a : Prop} (h : a := by first | exact vcA | (simp <;> omega) | (show 0 + 32 < List.length _; simp [Cont.list] <;> omega) | (show 0 + 33 < List.length _; simp [Cont.list] <;> omega) | (refine ⟨by decide, ?_, ?_⟩ <;> first | decide | omega | (show _ ≤ (List.take _ _).length; rw [List.length_take]; omega) | (show _ ≤ (List.drop _ _).length; omega)) | exact hk32.symm | exact hs32.symm | (show 0 < List.length _; omega) | (show _ ≤ List.length _; omega) | (show 0 + List.length _ ≤ List.length _; simp [Cont.list] <;> omega) | (show 33 + List.length _ ≤ List.length _; simp [Cont.list] <;> omega) | exact hk32 | exact hs32 | exact solid_app (solid_app (solid_u8 _) ⟨trivial, trivial⟩) (solid_u8 _) | exact vcB) : a := h

open Go.Sto
def Cell.as (x y : Cell) : Prop := ∀ (β : Val) (I : Nat → Prop) (w : World) (v : Value) (n : Nat), x.rel β I w v → x.low n → y.rel β I w v ∧ y.low n
theorem Cell.as_nil : Cell.as .nils (.ds 0 (.u8s [])) := fun β I w v n h _ => by
  have hv := (Cell.rel_flat (x := .nils) rfl).1 h
  subst hv
  exact ⟨Cell.rel_of (β := β) (CellD.ds0 (.u8s []) none 0 rfl), trivial⟩
theorem as_cells {l l' : List Cell} (hl : l'.length = l.length) (h : ∀ j, j < l.length → Cell.as (l.getD j .nils) (l'.getD j .nils)) : SV.as (.agg (.cells l)) (.agg (.cells l')) := fun β I w x n hr hlow => by
  obtain ⟨vs, hv, hc⟩ := hr
  refine ⟨⟨vs, hv, ⟨?_, fun j hj => ?_⟩⟩, fun y hy => ?_⟩
  · exact hc.1.trans hl.symm
  · have hj' : j < l.length := by rw [← hl]; exact hj
    obtain ⟨v, h1, h2⟩ := hc.2 j hj'
    refine ⟨v, h1, (h j hj' β I w v n h2 ?_).1⟩
    exact Cont.get_low (c := .cells l) hlow j
  · obtain ⟨j, hj, rfl⟩ := List.mem_iff_getElem.1 hy
    have hj' : j < l.length := by rw [← hl]; exact hj
    obtain ⟨v, h1, h2⟩ := hc.2 j hj'
    have := (h j hj' β I w v n h2 (Cont.get_low (c := .cells l) hlow j)).2
    rw [List.getD_eq_getElem?_getD, List.getElem?_eq_getElem hj, Option.getD_some] at this
    exact this
def zeroP : Cont := .cells (List.replicate 32 (.u8 0) ++ [.nils] ++ List.replicate 32 (.u8 0))
theorem as_mid {A B : List Cell} {x y : Cell} (h : Cell.as x y) : SV.as (.agg (.cells (A ++ [x] ++ B))) (.agg (.cells (A ++ [y] ++ B))) := by
  refine as_cells (by simp) fun j hj => ?_
  rcases Nat.lt_or_ge j A.length with h1 | h1
  · have e : ∀ z : Cell, (A ++ [z] ++ B).getD j .nils = A.getD j .nils := fun z => by
      rw [List.append_assoc, List.getD_eq_getElem?_getD, List.getElem?_append_left h1, List.getD_eq_getElem?_getD]
    rw [e, e]
    exact fun _ _ _ _ _ h k => ⟨h, k⟩
  · rcases Nat.eq_or_lt_of_le h1 with e | h2
    · subst e
      have e : ∀ z : Cell, (A ++ [z] ++ B).getD A.length .nils = z := fun z => by
        rw [List.append_assoc, List.getD_eq_getElem?_getD, List.getElem?_append_right (Nat.le_refl _), Nat.sub_self]
        rfl
      rw [e, e]
      exact h
    · have e : ∀ z : Cell, (A ++ [z] ++ B).getD j .nils = B.getD (j - (A.length + 1)) .nils := fun z => by
        rw [List.getD_eq_getElem?_getD, List.getElem?_append_right (by simp; omega), List.getD_eq_getElem?_getD]
        simp
      rw [e, e]
      exact fun _ _ _ _ _ h k => ⟨h, k⟩
theorem zero_as : SV.as (.agg zeroP) (pieceV noPiece) := as_mid (A := List.replicate 32 (.u8 0)) (B := List.replicate 32 (.u8 0)) Cell.as_nil
theorem noPiece_wf : Piece.wf noPiece := ⟨rfl, rfl⟩
theorem splice_part {l : List Cell} {d : Cont} {off : Nat} {K : Cont → Prop} (h : ¬ (off = 0 ∧ (Cont.cells l).len = d.len)) (k : K (.cells (l.take off ++ d.list ++ l.drop (off + d.len)))) : (Cont.cells l).splice off d K := by
  unfold Cont.splice
  rw [if_neg h]
  exact k
theorem fields_eq {key sl : List UInt8} {x : Cell} (hk : key.length = 32) (hs : sl.length = 32) (z : List Cell) (hz : z.length = 65) :
    ((z.take 0 ++ (Cont.u8s key).list ++ z.drop (0 + (Cont.u8s key).len)).set 32 x).take 33 ++ (Cont.u8s sl).list ++ ((z.take 0 ++ (Cont.u8s key).list ++ z.drop (0 + (Cont.u8s key).len)).set 32 x).drop (33 + (Cont.u8s sl).len) = key.map Cell.u8 ++ [x] ++ sl.map Cell.u8 := by
  have e1 : (Cont.u8s key).len = 32 := hk
  have e2 : (Cont.u8s sl).len = 32 := hs
  rw [e1, e2]
  show (((([] : List Cell) ++ key.map Cell.u8) ++ z.drop (0 + 32)).set 32 x).take 33 ++ sl.map Cell.u8 ++ (((([] : List Cell) ++ key.map Cell.u8) ++ z.drop (0 + 32)).set 32 x).drop (33 + 32) = _
  rw [List.nil_append]
  have hl : (key.map Cell.u8).length = 32 := by rw [List.length_map, hk]
  obtain ⟨a, r, har⟩ : ∃ a r, z.drop (0 + 32) = a :: r := by
    cases h : z.drop (0 + 32) with
    | nil => have := congrArg List.length h; simp [hz] at this
    | cons a r => exact ⟨a, r, rfl⟩
  rw [har, List.set_append_right _ _ (by omega), hl]
  simp only [Nat.sub_self, List.set_cons_zero]
  rw [show (33 : Nat) = (key.map Cell.u8).length + 1 by omega]
  rw [List.take_length_add_append]
  have hr : r.length = 32 := by have := congrArg List.length har; simp [hz] at this; omega
  rw [show (key.map Cell.u8).length + 1 + 32 = (key.map Cell.u8 ++ x :: r).length by simp [hr], List.drop_length]
  simp
theorem rec_not {l : List UInt8} (h : ¬ (headOK l = true ∧ val4 l ≤ 65536 ∧ 76 + val4 l ≤ l.length ∧ num4 (crcL (bodyB l (val4 l))).toNat = sumB l (val4 l))) : recordL l = none := by unfold recordL; rw [if_neg h]
theorem rec_short0 {l : List UInt8} (h : (l.length : Int) < 76) : recordL l = none := rec_not fun hc => by
  have := hc.1
  simp only [headOK, Bool.and_eq_true, decide_eq_true_eq] at this
  omega
theorem rec_head0 {l : List UInt8} (h : num4 (crcL (l.take 4)).toNat ≠ (l.drop 4).take 4) : recordL l = none := rec_not fun hc => by
  have := hc.1
  simp only [headOK, Bool.and_eq_true, decide_eq_true_eq] at this
  exact h this.2
theorem rec_big0 {l : List UInt8} (h : 65536 < val4 l) : recordL l = none := rec_not fun hc => by omega
theorem rec_len0 {l : List UInt8} (h : l.length < 76 + val4 l) : recordL l = none := rec_not fun hc => by omega
theorem rec_sum0 {l : List UInt8} (h : num4 (crcL (bodyB l (val4 l))).toNat ≠ sumB l (val4 l)) : recordL l = none := rec_not fun hc => h hc.2.2.2
theorem rec_yes {l b sm : List UInt8} {v : Nat} (hv : v = val4 l) (hb : b = bodyB l v) (hs : sm = sumB l v) (h1 : (76 : Int) ≤ l.length) (h2 : num4 (crcL (l.take 4)).toNat = (l.drop 4).take 4) (h3 : v ≤ 65536) (h4 : 76 + v ≤ l.length) (h5 : num4 (crcL b).toNat = sm) :
    recordL l = some (⟨b.take 32, (b.drop 32).take v, b.drop (32 + v)⟩, 76 + v) := by
  subst hb; subst hs; subst hv
  unfold recordL
  rw [if_pos ⟨by simp only [headOK, Bool.and_eq_true, decide_eq_true_eq]; exact ⟨by omega, h2⟩, h3, h4, h5⟩]
  rfl
theorem one_list {x : List UInt8} {n : Nat} (h : x.length = n) : [SV.c (.ds 1 (.cells ([] ++ [.ds n (.u8s x)])))] = [listsV [x]] := by subst h; rfl
theorem two_lists {a b : List UInt8} {n m : Nat} (ha : a.length = n) (hb : b.length = m) : [SV.c (.ds n (.u8s a)), SV.c (.ds m (.u8s b))] = [bytesV a, bytesV b] := by subst ha; subst hb; rfl
theorem as_dsE {n m : Nat} {a b : List UInt8} (hn : n = m) (h : a = b) : SV.as (.c (.ds n (.u8s a))) (.c (.ds m (.u8s b))) := by subst hn; subst h; exact SV.as_refl _
theorem body_as {l : List UInt8} {v : Nat} (h : 76 + v ≤ l.length) : SV.as (.c (.ds ((76 + (v : Int) - 4).toNat - Int.toNat 8) ((Cont.u8s l).sub (Int.toNat 8 * 1) (((76 + (v : Int) - 4).toNat - Int.toNat 8) * 1)))) (bytesV (bodyB l v)) := by
  refine as_dsE (a := (l.drop (Int.toNat 8 * 1)).take (((76 + (v : Int) - 4).toNat - Int.toNat 8) * 1)) ?_ ?_
  · rw [bodyB, List.length_take, List.length_drop]; omega
  · rw [bodyB, show (((76 + (v : Int) - 4).toNat - Int.toNat 8) * 1) = 64 + v by omega]; rfl
theorem sum_as {l : List UInt8} {v : Nat} (h : 76 + v ≤ l.length) : SV.as (.c (.ds ((76 + (v : Int)).toNat - (76 + (v : Int) - 4).toNat) ((Cont.u8s l).sub ((76 + (v : Int) - 4).toNat * 1) (((76 + (v : Int)).toNat - (76 + (v : Int) - 4).toNat) * 1)))) (bytesV (sumB l v)) := by
  refine as_dsE (a := (l.drop ((76 + (v : Int) - 4).toNat * 1)).take (((76 + (v : Int)).toNat - (76 + (v : Int) - 4).toNat) * 1)) ?_ ?_
  · rw [sumB, List.length_take, List.length_drop]; omega
  · rw [sumB, show (((76 + (v : Int)).toNat - (76 + (v : Int) - 4).toNat) * 1) = 4 by omega, show (76 + (v : Int) - 4).toNat * 1 = 72 + v by omega]
theorem bodyB_len {l : List UInt8} {v : Nat} (h : 76 + v ≤ l.length) : (bodyB l v).length = 64 + v := by rw [bodyB, List.length_take, List.length_drop]; omega
theorem sumB_len {l : List UInt8} {v : Nat} (h : 76 + v ≤ l.length) : (sumB l v).length = 4 := by rw [sumB, List.length_take, List.length_drop]; omega
theorem mid_as {b : List UInt8} {v : Nat} (h : b.length = 64 + v) : SV.as (.c (.ds ((32 + (v : Int)).toNat - Int.toNat 32) ((Cont.u8s b).sub (Int.toNat 32 * 1) (((32 + (v : Int)).toNat - Int.toNat 32) * 1)))) (bytesV ((b.drop 32).take v)) := by
  refine as_dsE (a := (b.drop (Int.toNat 32 * 1)).take (((32 + (v : Int)).toNat - Int.toNat 32) * 1)) ?_ ?_
  · rw [List.length_take, List.length_drop]; omega
  · rw [show ((32 + (v : Int)).toNat - Int.toNat 32) * 1 = v by omega]; rfl
theorem end_as {b : List UInt8} {v : Nat} (h : b.length = 64 + v) : SV.as (.c (.ds (b.length - (32 + (v : Int)).toNat) ((Cont.u8s b).drop ((32 + (v : Int)).toNat * 1)))) (bytesV (b.drop (32 + v))) := by
  refine as_dsE (a := b.drop ((32 + (v : Int)).toNat * 1)) ?_ ?_
  · rw [List.length_drop]; omega
  · rw [show (32 + (v : Int)).toNat * 1 = 32 + v by omega]
theorem fields_sub {key sl : List UInt8} {x : Cell} (hk : key.length = 32) (hs : sl.length = 32) (z : List Cell) (hz : z.length = 65) :
    SV.agg ((Cont.cells (((z.take 0 ++ (Cont.u8s key).list ++ z.drop (0 + (Cont.u8s key).len)).set 32 x).take 33 ++ (Cont.u8s sl).list ++ ((z.take 0 ++ (Cont.u8s key).list ++ z.drop (0 + (Cont.u8s key).len)).set 32 x).drop (33 + (Cont.u8s sl).len))).sub 0 65) = SV.agg (.cells (key.map Cell.u8 ++ [x] ++ sl.map Cell.u8)) := by
  rw [fields_eq hk hs z hz]
  show SV.agg (.cells (List.take 65 (List.drop 0 _))) = _
  rw [List.drop_zero, List.take_of_length_le (by simp [hk, hs])]
def recT (l : List UInt8) : Piece × Nat × Bool := match recordL l with
  | some (s, n) => (s, n, true)
  | none => (noPiece, 0, false)
def recV (l : List UInt8) : SV := .tup [.agg (pieceC (recT l).1), .c (.int .i64 ((recT l).2.1 : Nat)), .c (.bool (recT l).2.2)]
theorem recT_none {l : List UInt8} (h : recordL l = none) : recT l = (noPiece, 0, false) := by rw [recT, h]
theorem recT_some {l : List UInt8} {s : Piece} {n : Nat} (h : recordL l = some (s, n)) : recT l = (s, n, true) := by rw [recT, h]
theorem recV_none {l : List UInt8} (h : recordL l = none) : recV l = .tup [.agg (pieceC noPiece), .c (.int .i64 (0 : Nat)), .c (.bool false)] := by rw [recV, recT_none h]
theorem recV_some {l : List UInt8} {s : Piece} {n : Nat} (h : recordL l = some (s, n)) : recV l = .tup [.agg (pieceC s), .c (.int .i64 (n : Nat)), .c (.bool true)] := by rw [recV, recT_some h]
theorem recV_low (l : List UInt8) {n : Nat} : (recV l).low n := fun p hp => by
  rcases List.mem_cons.1 hp with rfl | hp
  · exact pieceC_low
  · rcases List.mem_cons.1 hp with rfl | hp
    · trivial
    · rw [List.mem_singleton.1 hp]; trivial
theorem recV_low0 (s : Piece) (k : Int) (b : Bool) : SV.low 0 (.tup [.agg (pieceC s), .c (.int .i64 k), .c (.bool b)]) := fun p hp => by
  rcases List.mem_cons.1 hp with rfl | hp
  · exact pieceC_low
  · rcases List.mem_cons.1 hp with rfl | hp
    · trivial
    · rw [List.mem_singleton.1 hp]; trivial
theorem recT_le (l : List UInt8) : (recT l).2.1 ≤ l.length ∧ Piece.wf (recT l).1 ∧ (recT l).1.b.length ≤ 65536 := by
  cases h : recordL l with
  | none => rw [recT_none h]; exact ⟨Nat.zero_le _, noPiece_wf, Nat.zero_le _⟩
  | some p =>
    obtain ⟨s, n⟩ := p
    obtain ⟨h1, h2, h3, h4⟩ := record_ok h
    rw [recT_some h]
    exact ⟨h3, ⟨h1.1, h1.2.1⟩, h1.2.2⟩
theorem shl_b (b : UInt8) (n : Int) (h : n = 24 ∨ n = 16 ∨ n = 8) : 0 ≤ (b.toNat : Int) * 2 ^ n.toNat ∧ (b.toNat : Int) * 2 ^ n.toNat ≤ 4294967295 := by
  have := b.toNat_lt
  rcases h with rfl | rfl | rfl
  · rw [show (2 : Int) ^ Int.toNat 24 = 16777216 from rfl]; omega
  · rw [show (2 : Int) ^ Int.toNat 16 = 65536 from rfl]; omega
  · rw [show (2 : Int) ^ Int.toNat 8 = 256 from rfl]; omega
theorem u8_b (b : UInt8) : 0 ≤ (b.toNat : Int) ∧ (b.toNat : Int) ≤ 4294967295 := by have := b.toNat_lt; omega
theorem or_b {x y : Int} (hx : 0 ≤ x ∧ x ≤ 4294967295) (hy : 0 ≤ y ∧ y ≤ 4294967295) : 0 ≤ ((x.toNat ||| y.toNat : Nat) : Int) ∧ ((x.toNat ||| y.toNat : Nat) : Int) ≤ 4294967295 := by
  have := Nat.or_lt_two_pow (n := 32) (x := x.toNat) (y := y.toNat) (by omega) (by omega)
  omega
theorem shl_in (b : UInt8) (n : Int) (h : n = 24 ∨ n = 16 ∨ n = 8) : inR .i64 ((b.toNat : Int) * 2 ^ n.toNat) := by
  have := shl_b b n h
  exact inR_i64.mpr ⟨by omega, by omega⟩
theorem or_ok {x y : Int} (hx : 0 ≤ x ∧ x ≤ 4294967295) (hy : 0 ≤ y ∧ y ≤ 4294967295) : IntKind.i64 = .i64 ∧ 0 ≤ x ∧ 0 ≤ y ∧ x ≤ 9223372036854775807 ∧ y ≤ 9223372036854775807 := ⟨rfl, hx.1, hy.1, by omega, by omega⟩
theorem val_or (a b c d : UInt8) : (a.toNat * 16777216 ||| b.toNat * 65536) ||| c.toNat * 256 ||| d.toNat = a.toNat * 16777216 + b.toNat * 65536 + c.toNat * 256 + d.toNat := by
  have ha := a.toNat_lt; have hb := b.toNat_lt; have hc := c.toNat_lt; have hd := d.toNat_lt
  rw [show a.toNat * 16777216 = 2 ^ 24 * a.toNat by omega, ← Nat.two_pow_add_eq_or_of_lt (show b.toNat * 65536 < 2 ^ 24 by omega)]
  rw [show 2 ^ 24 * a.toNat + b.toNat * 65536 = 2 ^ 16 * (a.toNat * 256 + b.toNat) by omega, ← Nat.two_pow_add_eq_or_of_lt (show c.toNat * 256 < 2 ^ 16 by omega)]
  rw [show 2 ^ 16 * (a.toNat * 256 + b.toNat) + c.toNat * 256 = 2 ^ 8 * ((a.toNat * 256 + b.toNat) * 256 + c.toNat) by omega, ← Nat.two_pow_add_eq_or_of_lt (show d.toNat < 2 ^ 8 by omega)]
  try omega
theorem val_int (a b c d : UInt8) : (((((((((a.toNat : Int) * 2 ^ Int.toNat 24).toNat ||| ((b.toNat : Int) * 2 ^ Int.toNat 16).toNat : Nat) : Int).toNat ||| ((c.toNat : Int) * 2 ^ Int.toNat 8).toNat : Nat) : Int)).toNat ||| ((d.toNat : Int)).toNat : Nat) : Int) = ((a.toNat * 16777216 + b.toNat * 65536 + c.toNat * 256 + d.toNat : Nat) : Int) := by
  rw [show (2 : Int) ^ Int.toNat 24 = 16777216 from rfl, show (2 : Int) ^ Int.toNat 16 = 65536 from rfl, show (2 : Int) ^ Int.toNat 8 = 256 from rfl]
  rw [show ((a.toNat : Int) * 16777216).toNat = a.toNat * 16777216 by omega, show ((b.toNat : Int) * 65536).toNat = b.toNat * 65536 by omega, show ((c.toNat : Int) * 256).toNat = c.toNat * 256 by omega]
  rw [Int.toNat_natCast, Int.toNat_natCast, Int.toNat_natCast, val_or]
theorem rec_val (l : List UInt8) : SV.c (.int .i64 ((((((((((l.getD 0 0).toNat : Int) * 2 ^ Int.toNat 24).toNat ||| (((l.getD 1 0).toNat : Int) * 2 ^ Int.toNat 16).toNat : Nat) : Int).toNat ||| (((l.getD 2 0).toNat : Int) * 2 ^ Int.toNat 8).toNat : Nat) : Int)).toNat ||| (((l.getD 3 0).toNat : Int)).toNat : Nat) : Int)) = SV.c (.int .i64 ((val4 l : Nat) : Int)) := congrArg (fun v => SV.c (.int .i64 v)) (val_int _ _ _ _)
noncomputable def gr : Ctx := { P := Tryd.prog, ty := ty, glob := gl, fs := [(37, .flat checksumS), (36, .own numberS), (57, .flat equalS), (43, .own cloneS)] }
theorem gr_ok : gr.OK := ⟨tyOK, ⟨⟨enters_mk Tryd.func37 (by kernel_rfl) rfl, checksum_ok⟩, ⟨enters_mk Tryd.func36 (by kernel_rfl) rfl, number_ok⟩, ⟨enters_mk Tryd.func57 (by kernel_rfl) rfl, equal_ok⟩, ⟨enters_mk Tryd.func43 (by kernel_rfl) rfl, clone_ok⟩, trivial⟩, mixed⟩
@[simp] theorem gr_ty : gr.ty = ty := rfl

attribute [local irreducible] crcL crcFold bodyB sumB val4 recordL
def recordS : QSpec := fun vs K => ∃ l : List UInt8, vs = [bytesV l] ∧ l.length ≤ 900000 ∧ K (recV l)
set_option maxHeartbeats 1000000 in
theorem record_ok : DataOK Tryd.prog gl 48 recordS := by
 refine data_of (Γ := gr) (N := 102) Tryd.func48 rfl rfl fun vs K h => ?_
 obtain ⟨l, rfl, hl, h⟩ := h
 refine ⟨_, h, recV_low l, by simp, fun w I => ?_⟩
 refine seq_k fun _ hK1 => ?_; refine region_k gr_ok fun _ hK2 => ?_
 refine sS fun _ hS => ?_; (repeat refine aI qSd0 ?_); apply hS; clear hS
 iterate 2 refine sS1 ?_
 refine s_nil ?_; apply hK2; apply hK1; refine seq_k fun _ hK3 => ?_; refine seq_k fun _ hK4 => ?_
 refine sched_k gr_ok [(0, true), (1, true), (2, true), (3, true), (4, true), (5, true), (9, true), (10, true), (6, false), (7, false), (8, false), (11, false), (12, true), (13, true)] rfl (by kernel_rfl) (by kernel_rfl) fun _ hK5 => ?_
 refine dD1 ?_
 refine dR fun _ hS => ?_; (repeat refine aI qSd0 ?_); apply hS; clear hS
 refine dR fun _ hS => ?_; (repeat refine aI qSd0 ?_); apply hS; clear hS
 refine dR fun _ hS => ?_
 refine d_split hS (fun hb3 => ?_) (fun hb3 => ?_)
 ·clear hS
  try simp only [dQ] at hb3
  refine dN ?_; refine dN ?_; refine dN ?_; refine dN ?_
  refine d_growg (b := true) rfl rfl (by decide) rfl rfl (fun e => absurd e (by decide)) (fun _ => ?_)
  refine d_growg (b := true) rfl rfl (by decide) rfl rfl (fun e => absurd e (by decide)) (fun _ => ?_)
  refine d_growg (b := true) rfl rfl (by decide) rfl rfl (fun e => absurd e (by decide)) (fun _ => ?_)
  refine d_growg (b := true) rfl rfl (by decide) rfl rfl (fun e => absurd e (by decide)) (fun _ => ?_)
  refine dN ?_
  refine dD1 ?_
  refine d_nil ?_; apply hK5; apply hK4
  refine WP_cond (b := _) rfl (fun _ => ?_) (fun h_t23 => ?_)
  rotate_left 1
  ·exfalso; simp at h_t23
  refine seq_k fun _ hK6 => ?_; refine region_k gr_ok fun _ hK7 => ?_
  refine s_stepA rfl (by decide) rfl fun _ hS => ?_
  repeat refine aI qSd0 ?_
  refine hS _ (pieceV noPiece) _ _ (zero_as) ?_
  clear hS
  refine sS0 fun _ hS => ?_; (repeat refine aI qSd0 ?_); (first | apply hS | (refine splice_full qSd0 ?_; apply hS)); clear hS
  iterate 2 refine sS1 ?_
  refine s_nil ?_; apply hK7; apply hK6
  rw [recV_none (by exact rec_short0 hb3)]
  refine WP_ret (Done_data gr_ok (fun _ _ h => h) (recV_low0 _ _ _) [] [.cell 2 42, .tmp 3, .tmp 4] rfl ?_)
  repeat' (first | exact trivial | refine aI ?_ ?_ | exact cC0 | refine low_cons' ?_ ?_ | exact cC1 | fail)
  all_goals first | exact piece_to _ | (simp; done) | skip
 ·clear hS
  try simp only [dQ] at hb3
  refine dT fun _ hS => ?_; apply hS; clear hS
  refine dT fun _ hS => ?_; (repeat refine aI qSd0 ?_); (first | apply hS | (refine ite_yes qSd0 ?_; (repeat refine aI qSd0 ?_); apply hS)); clear hS
  refine dT fun _ hS => ?_; apply hS; clear hS
  refine dT fun _ hS => ?_; (repeat refine aI qSd0 ?_); (first | apply hS | (refine ite_yes qSd0 ?_; (repeat refine aI qSd0 ?_); apply hS)); clear hS
  refine d_growg (b := false) rfl rfl (by decide) rfl rfl (fun _ _ hS => ?_) (fun e => absurd e (by decide))
  repeat refine aI qSd0 ?_
  apply hS
  clear hS
  refine d_growg (b := false) rfl rfl (by decide) rfl rfl (fun _ _ hS => ?_) (fun e => absurd e (by decide))
  repeat first | refine aI qSd0 ?_ | refine whole_yes qSd0 ?_ | refine whole_sub ?_
  refine ⟨[l.take 4], one_list (by rw [List.length_take]; omega), ⟨by simp, by simp; omega⟩, ?_⟩
  rw [show [l.take 4].flatten = l.take 4 by simp]
  repeat refine aI qSd0 ?_
  first | apply hS | (intro cap7 hcap7; apply hS)
  clear hS
  refine d_growg (b := false) rfl rfl (by decide) rfl rfl (fun _ _ hS => ?_) (fun e => absurd e (by decide))
  repeat first | refine aI qSd0 ?_ | refine whole_yes qSd0 ?_ | refine whole_sub ?_
  refine ⟨crcL (l.take 4), rfl, ?_⟩
  repeat refine aI qSd0 ?_
  first | apply hS | (intro cap8 hcap8; apply hS)
  clear hS
  refine d_growg (b := false) rfl rfl (by decide) rfl rfl (fun _ _ hS => ?_) (fun e => absurd e (by decide))
  repeat first | refine aI qSd0 ?_ | refine whole_yes qSd0 ?_ | refine whole_sub ?_
  refine ⟨num4 (crcL (l.take 4)).toNat, (l.drop 4).take 4, two_lists rfl (by rw [List.length_take, List.length_drop]; omega), ⟨by rw [num4_length]; omega, by rw [List.length_take]; omega⟩, ?_⟩
  repeat refine aI qSd0 ?_
  first | apply hS | (intro cap11 hcap11; apply hS)
  clear hS
  refine dT fun _ hS => ?_; apply hS; clear hS
  refine dD1 ?_
  refine d_nil ?_; apply hK5; apply hK4
  refine WP_cond (b := _) rfl (fun h_t23 => ?_) (fun h_t23 => ?_)
  ·try simp only [dQ, if_false] at h_t23
   refine seq_k fun _ hK8 => ?_; refine region_k gr_ok fun _ hK9 => ?_
   refine s_stepA rfl (by decide) rfl fun _ hS => ?_
   repeat refine aI qSd0 ?_
   refine hS _ (pieceV noPiece) _ _ (zero_as) ?_
   clear hS
   refine sS0 fun _ hS => ?_; (repeat refine aI qSd0 ?_); (first | apply hS | (refine splice_full qSd0 ?_; apply hS)); clear hS
   iterate 2 refine sS1 ?_
   refine s_nil ?_; apply hK9; apply hK8
   rw [recV_none (by exact rec_head0 h_t23)]
   refine WP_ret (Done_data gr_ok (fun _ _ h => h) (recV_low0 _ _ _) [] [.cell 2 42, .tmp 3, .tmp 4] rfl ?_)
   repeat' (first | exact trivial | refine aI ?_ ?_ | exact cC0 | refine low_cons' ?_ ?_ | exact cC1 | fail)
   all_goals first | exact piece_to _ | (simp; done) | skip
  ·try simp only [dQ, if_false] at h_t23
   refine WP_skip ?_; apply hK3; refine seq_k fun _ hK10 => ?_
   obtain ⟨v, hvd⟩ : ∃ v, v = val4 l := ⟨_, rfl⟩
   refine quiet_k gr_ok (by kernel_rfl) fun _ hK11 => ?_
   refine qQ1 ?_
   refine qS fun _ hS => ?_; (repeat refine aI qSd1 ?_); apply hS; clear hS
   refine qS fun _ hS => ?_; (repeat refine aI qSd1 ?_); (first | apply hS | (refine whole_yes qSd1 ?_; apply hS) | (refine whole_sub ?_; apply hS)); clear hS
   refine qS fun _ hS => ?_; (repeat first | refine aI qSd1 ?_ | refine whole_yes qSd1 ?_ | refine whole_sub ?_); apply hS; clear hS
   refine qS fun _ hS => ?_; (repeat refine aI qSd1 ?_); apply hS; clear hS
   refine qQ1 ?_
   refine qS fun _ hS => ?_; (repeat refine aI qSd1 ?_); apply hS; clear hS
   refine qS fun _ hS => ?_; (repeat refine aI qSd1 ?_); (first | apply hS | (refine whole_yes qSd1 ?_; apply hS) | (refine whole_sub ?_; apply hS)); clear hS
   refine qS fun _ hS => ?_; (repeat first | refine aI qSd1 ?_ | refine whole_yes qSd1 ?_ | refine whole_sub ?_); apply hS; clear hS
   refine qS fun _ hS => ?_; (repeat refine aI qSd1 ?_); apply hS; clear hS
   refine qS fun _ hS => ?_; (repeat refine aI qSd1 ?_); apply hS; clear hS
   refine qQ1 ?_
   refine qS fun _ hS => ?_; (repeat refine aI qSd1 ?_); apply hS; clear hS
   refine qS fun _ hS => ?_; (repeat refine aI qSd1 ?_); (first | apply hS | (refine whole_yes qSd1 ?_; apply hS) | (refine whole_sub ?_; apply hS)); clear hS
   refine qS fun _ hS => ?_; (repeat first | refine aI qSd1 ?_ | refine whole_yes qSd1 ?_ | refine whole_sub ?_); apply hS; clear hS
   refine qS fun _ hS => ?_; (repeat refine aI qSd1 ?_); apply hS; clear hS
   refine qS fun _ hS => ?_; (repeat refine aI qSd1 ?_); apply hS; clear hS
   refine qQ1 ?_
   refine qS fun _ hS => ?_; (repeat refine aI qSd1 ?_); apply hS; clear hS
   refine qS fun _ hS => ?_; (repeat refine aI qSd1 ?_); (first | apply hS | (refine whole_yes qSd1 ?_; apply hS) | (refine whole_sub ?_; apply hS)); clear hS
   refine qS fun _ hS => ?_; (repeat first | refine aI qSd1 ?_ | refine whole_yes qSd1 ?_ | refine whole_sub ?_); apply hS; clear hS
   refine qS fun _ hS => ?_; (repeat refine aI qSd1 ?_); apply hS; clear hS
   refine q_stepA rfl (by decide) rfl fun _ hS => ?_
   refine hS _ (.c (.int .i64 ((v : Nat) : Int))) (hvd ▸ as_eq (rec_val l)) ?_
   clear hS; refine q_nil ?_; apply hK11; apply hK10; refine seq_k fun _ hK12 => ?_; refine seq_k fun _ hK13 => ?_; refine region_k gr_ok fun _ hK14 => ?_
   refine sS1 ?_
   refine sS fun _ hS => ?_; (repeat refine aI qSd0 ?_); apply hS; clear hS
   refine sS fun _ hS => ?_
   refine s_split hS (fun hb2 => ?_) (fun hb2 => ?_)
   ·clear hS
    try simp only [dQ] at hb2
    refine sN ?_; refine sN ?_; refine sN ?_; refine sN ?_; refine sN ?_
    refine sS1 ?_
    refine s_nil ?_; apply hK14; apply hK13
    refine WP_cond (b := _) rfl (fun _ => ?_) (fun h_t55 => ?_)
    rotate_left 1
    ·exfalso; simp at h_t55
    refine seq_k fun _ hK15 => ?_; refine region_k gr_ok fun _ hK16 => ?_
    refine s_stepA rfl (by decide) rfl fun _ hS => ?_
    repeat refine aI qSd0 ?_
    refine hS _ (pieceV noPiece) _ _ (zero_as) ?_
    clear hS
    refine sS0 fun _ hS => ?_; (repeat refine aI qSd0 ?_); (first | apply hS | (refine splice_full qSd0 ?_; apply hS)); clear hS
    iterate 2 refine sS1 ?_
    refine s_nil ?_; apply hK16; apply hK15
    rw [recV_none (by exact rec_big0 (by omega))]
    refine WP_ret (Done_data gr_ok (fun _ _ h => h) (recV_low0 _ _ _) [] [.cell 2 42, .tmp 3, .tmp 4] rfl ?_)
    repeat' (first | exact trivial | refine aI ?_ ?_ | exact cC0 | refine low_cons' ?_ ?_ | exact cC1 | fail)
    all_goals first | exact piece_to _ | (simp; done) | skip
   ·clear hS
    try simp only [dQ] at hb2
    refine sT fun _ hS => ?_; apply hS; clear hS
    refine sT fun _ hS => ?_; (repeat refine aI qSd0 ?_); apply hS; clear hS
    refine sT fun _ hS => ?_; apply hS; clear hS
    refine sT fun _ hS => ?_; (repeat refine aI qSd0 ?_); apply hS; clear hS
    refine sT fun _ hS => ?_; (repeat refine aI qSd0 ?_); apply hS; clear hS
    refine sS1 ?_
    refine s_nil ?_; apply hK14; apply hK13
    refine WP_cond (b := _) rfl (fun h_t55 => ?_) (fun h_t55 => ?_)
    ·try simp only [dQ, if_false] at h_t55
     refine seq_k fun _ hK17 => ?_; refine region_k gr_ok fun _ hK18 => ?_
     refine s_stepA rfl (by decide) rfl fun _ hS => ?_
     repeat refine aI qSd0 ?_
     refine hS _ (pieceV noPiece) _ _ (zero_as) ?_
     clear hS
     refine sS0 fun _ hS => ?_; (repeat refine aI qSd0 ?_); (first | apply hS | (refine splice_full qSd0 ?_; apply hS)); clear hS
     iterate 2 refine sS1 ?_
     refine s_nil ?_; apply hK18; apply hK17
     rw [recV_none (by exact rec_len0 (by omega))]
     refine WP_ret (Done_data gr_ok (fun _ _ h => h) (recV_low0 _ _ _) [] [.cell 2 42, .tmp 3, .tmp 4] rfl ?_)
     repeat' (first | exact trivial | refine aI ?_ ?_ | exact cC0 | refine low_cons' ?_ ?_ | exact cC1 | fail)
     all_goals first | exact piece_to _ | (simp; done) | skip
    ·try simp only [dQ, if_false] at h_t55
     refine WP_skip ?_; apply hK12; refine seq_k fun _ hK19 => ?_
     have hv1 : v ≤ 65536 := by omega
     have hv2 : 76 + v ≤ l.length := by omega
     have hbl := bodyB_len hv2
     have hsl := sumB_len hv2
     obtain ⟨b, hbd⟩ : ∃ b, b = bodyB l v := ⟨_, rfl⟩
     obtain ⟨sm, hsd⟩ : ∃ sm, sm = sumB l v := ⟨_, rfl⟩
     rw [← hbd] at hbl
     rw [← hsd] at hsl
     refine quiet_k gr_ok (by kernel_rfl) fun _ hK20 => ?_
     iterate 2 refine qQ1 ?_
     refine qS fun _ hS => ?_; (repeat refine aI qSd0 ?_); apply hS; clear hS
     refine qS fun _ hS => ?_; (repeat refine aI qSd0 ?_); apply hS; clear hS
     refine qS fun _ hS => ?_; (repeat refine aI qSd0 ?_); (first | apply hS | (refine ite_yes qSd0 ?_; (repeat refine aI qSd0 ?_); apply hS)); clear hS
     iterate 2 refine qQ1 ?_
     refine qS fun _ hS => ?_; (repeat refine aI qSd0 ?_); apply hS; clear hS
     refine qS fun _ hS => ?_; (repeat refine aI qSd0 ?_); apply hS; clear hS
     refine qQ1 ?_
     refine qS fun _ hS => ?_; (repeat refine aI qSd0 ?_); apply hS; clear hS
     refine qS fun _ hS => ?_; (repeat refine aI qSd0 ?_); (first | apply hS | (refine ite_yes qSd0 ?_; (repeat refine aI qSd0 ?_); apply hS)); clear hS
     refine q_stepA rfl (by decide) rfl fun _ hS => ?_
     refine hS _ (bytesV b) (hbd ▸ body_as hv2) ?_
     clear hS
     refine q_stepA rfl (by decide) rfl fun _ hS => ?_
     refine hS _ (bytesV sm) (hsd ▸ sum_as hv2) ?_
     clear hS; refine q_nil ?_; apply hK20; apply hK19; refine seq_k fun _ hK21 => ?_; refine seq_k fun _ hK22 => ?_; refine region_k gr_ok fun _ hK23 => ?_
     refine sS1 ?_
     refine sS fun _ hS => ?_; (repeat refine aI qSd0 ?_); apply hS; clear hS
     refine sS fun _ hS => ?_; (repeat first | refine aI qSd0 ?_ | refine whole_yes qSd0 ?_ | refine whole_sub ?_); refine ⟨[b], one_list rfl, ⟨by simp, by simp; omega⟩, ?_⟩; rw [show [b].flatten = b by simp]; (repeat refine aI qSd0 ?_); (first | apply hS | (intro cap2 hcap2; apply hS)); clear hS
     refine sS fun _ hS => ?_; (repeat first | refine aI qSd0 ?_ | refine whole_yes qSd0 ?_ | refine whole_sub ?_); refine ⟨crcL b, rfl, ?_⟩; (repeat refine aI qSd0 ?_); (first | apply hS | (intro cap3 hcap3; apply hS)); clear hS
     refine sS1 ?_
     refine sS fun _ hS => ?_; (repeat first | refine aI qSd0 ?_ | refine whole_yes qSd0 ?_ | refine whole_sub ?_); refine ⟨num4 (crcL b).toNat, sm, two_lists rfl rfl, ⟨by rw [num4_length]; omega, by omega⟩, ?_⟩; (repeat refine aI qSd0 ?_); (first | apply hS | (intro cap5 hcap5; apply hS)); clear hS
     refine sS1 ?_
     refine s_nil ?_; apply hK23; apply hK22
     refine WP_cond (b := _) rfl (fun h_t75 => ?_) (fun h_t75 => ?_)
     ·try simp only [dQ] at h_t75
      refine seq_k fun _ hK24 => ?_; refine region_k gr_ok fun _ hK25 => ?_
      refine s_stepA rfl (by decide) rfl fun _ hS => ?_
      repeat refine aI qSd0 ?_
      refine hS _ (pieceV noPiece) _ _ (zero_as) ?_
      clear hS
      refine sS0 fun _ hS => ?_; (repeat refine aI qSd0 ?_); (first | apply hS | (refine splice_full qSd0 ?_; apply hS)); clear hS
      iterate 2 refine sS1 ?_
      refine s_nil ?_; apply hK25; apply hK24
      rw [recV_none (by exact rec_sum0 (by rw [← hvd, ← hbd, ← hsd]; exact h_t75))]
      refine WP_ret (Done_data gr_ok (fun _ _ h => h) (recV_low0 _ _ _) [] [.cell 2 42, .tmp 3, .tmp 4] rfl ?_)
      repeat' (first | exact trivial | refine aI ?_ ?_ | exact cC0 | refine low_cons' ?_ ?_ | exact cC1 | fail)
      all_goals first | exact piece_to _ | (simp; done) | skip
     ·try simp only [dQ] at h_t75
      refine WP_skip ?_; apply hK21; refine seq_k fun _ hK26 => ?_; refine region_k gr_ok fun _ hK27 => ?_
      refine sS fun _ hS => ?_; (repeat refine aI qSd0 ?_); apply hS; clear hS; refine s_nil ?_; apply hK27; apply hK26; refine seq_k fun _ hK28 => ?_; refine region_k gr_ok fun _ hK29 => ?_
      refine sS1 ?_
      refine s_nil ?_; apply hK29; apply hK28; refine seq_k fun _ hK30 => ?_
      have hk32 : (b.take 32).length = 32 := by rw [List.length_take]; omega
      have hm32 : ((b.drop 32).take v).length = v := by rw [List.length_take, List.length_drop]; omega
      have hs32 : (b.drop (32 + v)).length = 32 := by rw [List.length_drop]; omega
      refine region_k gr_ok fun _ hK31 => ?_
      iterate 2 refine sS1 ?_
      refine sS fun _ hS => ?_; (repeat refine aI qSd2 ?_); (first | apply hS | (refine ite_yes qSd2 ?_; (repeat refine aI qSd2 ?_); apply hS)); clear hS
      refine sS fun _ hS => ?_; (repeat refine aI qSd2 ?_); apply hS; clear hS
      refine s_stepA rfl (by decide) rfl fun _ hS => ?_
      refine aI (by decide) ?_
      refine aI (by show 0 + 32 * 1 ≤ (List.take (32 * 1) (List.take (Int.toNat 32 * 1) b)).length; rw [List.length_take, List.length_take]; omega) ?_
      repeat refine aI qSd2 ?_
      first | refine hS _ (.agg (.u8s (b.take 32))) _ _ (as_eq (show SV.agg (.u8s (List.take 32 (List.drop 0 (List.take 32 (List.take 32 b))))) = SV.agg (.u8s (b.take 32)) by rw [List.drop_zero, List.take_take, List.take_take]; rfl)) ?_ | (refine whole_yes qSd2 ?_; refine hS _ (.agg (.u8s (b.take 32))) _ _ (as_eq (show SV.agg (.u8s (List.take 32 (List.drop 0 (List.take 32 (List.take 32 b))))) = SV.agg (.u8s (b.take 32)) by rw [List.drop_zero, List.take_take, List.take_take]; rfl)) ?_) | (refine whole_sub ?_; refine hS _ (.agg (.u8s (b.take 32))) _ _ (as_eq (show SV.agg (.u8s (List.take 32 (List.drop 0 (List.take 32 (List.take 32 b))))) = SV.agg (.u8s (b.take 32)) by rw [List.drop_zero, List.take_take, List.take_take]; rfl)) ?_)
      clear hS
      refine sS fun _ hS => ?_; (repeat refine aI qSd2 ?_); apply hS; clear hS
      refine sS0 fun _ hS => ?_; (repeat refine aI qSd2 ?_); refine splice_part (by rintro ⟨-, h65⟩; simp [Cont.len, hk32] at h65) ?_; (first | apply hS | (refine splice_full qSd2 ?_; apply hS)); clear hS; refine s_nil ?_; apply hK31; apply hK30; refine seq_k fun _ hK32 => ?_; refine region_k gr_ok fun _ hK33 => ?_
      iterate 4 refine sS1 ?_
      refine sS fun _ hS => ?_; (repeat refine aI qSd2 ?_); apply hS; clear hS
      refine s_stepA rfl (by decide) rfl fun _ hS => ?_
      repeat refine aI qSd2 ?_
      first | refine hS _ (bytesV ((b.drop 32).take v)) _ _ (mid_as hbl) ?_ | (refine ite_yes qSd2 ?_; (repeat refine aI qSd2 ?_); refine hS _ (bytesV ((b.drop 32).take v)) _ _ (mid_as hbl) ?_)
      clear hS
      refine sS fun _ hS => ?_; (repeat first | refine aI qSd2 ?_ | refine whole_yes qSd2 ?_ | refine whole_sub ?_); refine ⟨(b.drop 32).take v, rfl, by omega, ?_⟩; (repeat refine aI qSd2 ?_); (first | apply hS | (intro cap6 hcap6; apply hS)); clear hS
      refine sS fun _ hS => ?_; (repeat refine aI qSd2 ?_); apply hS; clear hS
      refine sS0 fun _ hS => ?_; (repeat refine aI qSd2 ?_); (first | apply hS | (refine splice_full qSd2 ?_; apply hS)); clear hS; refine s_nil ?_; apply hK33; apply hK32; refine seq_k fun _ hK34 => ?_; refine region_k gr_ok fun _ hK35 => ?_
      iterate 3 refine sS1 ?_
      refine sS fun _ hS => ?_; (repeat refine aI qSd2 ?_); apply hS; clear hS
      refine s_stepA rfl (by decide) rfl fun _ hS => ?_
      repeat refine aI qSd2 ?_
      first | refine hS _ (bytesV (b.drop (32 + v))) _ _ (end_as hbl) ?_ | (refine ite_yes qSd2 ?_; (repeat refine aI qSd2 ?_); refine hS _ (bytesV (b.drop (32 + v))) _ _ (end_as hbl) ?_)
      clear hS
      refine sS fun _ hS => ?_; (repeat refine aI qSd2 ?_); apply hS; clear hS
      refine s_stepA rfl (by decide) rfl fun _ hS => ?_
      refine aI (by decide) ?_
      refine aI (by show 0 + 32 * 1 ≤ (List.take (32 * 1) (b.drop (32 + v))).length; rw [List.length_take]; omega) ?_
      repeat refine aI qSd2 ?_
      first | refine hS _ (.agg (.u8s (b.drop (32 + v)))) _ _ (as_eq (show SV.agg (.u8s (List.take 32 (List.drop 0 (List.take 32 (b.drop (32 + v)))))) = SV.agg (.u8s (b.drop (32 + v))) by rw [List.drop_zero, List.take_take, List.take_of_length_le (by omega)])) ?_ | (refine whole_yes qSd2 ?_; refine hS _ (.agg (.u8s (b.drop (32 + v)))) _ _ (as_eq (show SV.agg (.u8s (List.take 32 (List.drop 0 (List.take 32 (b.drop (32 + v)))))) = SV.agg (.u8s (b.drop (32 + v))) by rw [List.drop_zero, List.take_take, List.take_of_length_le (by omega)])) ?_) | (refine whole_sub ?_; refine hS _ (.agg (.u8s (b.drop (32 + v)))) _ _ (as_eq (show SV.agg (.u8s (List.take 32 (List.drop 0 (List.take 32 (b.drop (32 + v)))))) = SV.agg (.u8s (b.drop (32 + v))) by rw [List.drop_zero, List.take_take, List.take_of_length_le (by omega)])) ?_)
      clear hS
      refine sS fun _ hS => ?_; (repeat refine aI qSd2 ?_); apply hS; clear hS
      refine sS0 fun _ hS => ?_; (repeat refine aI qSd2 ?_); refine splice_part (by rintro ⟨-, h65⟩; simp [Cont.len, hk32, hs32] at h65) ?_; (first | apply hS | (refine splice_full qSd2 ?_; apply hS)); clear hS; refine s_nil ?_; apply hK35; apply hK34; refine seq_k fun _ hK36 => ?_; refine region_k gr_ok fun _ hK37 => ?_
      refine s_stepA rfl (by decide) rfl fun _ hS => ?_
      refine aI (by decide) ?_
      refine aI (by show 0 + 65 ≤ List.length (_ : List Cell); rw [fields_eq hk32 hs32 _ (by decide)]; simp; omega) ?_
      refine whole_sub ?_
      repeat refine aI qSd3 ?_
      first | refine hS _ (SV.agg (.cells ((b.take 32).map Cell.u8 ++ [_] ++ (b.drop (32 + v)).map Cell.u8))) _ _ (as_eq (fields_sub hk32 hs32 _ (by decide))) ?_ | (refine whole_yes qSd3 ?_; refine hS _ (SV.agg (.cells ((b.take 32).map Cell.u8 ++ [_] ++ (b.drop (32 + v)).map Cell.u8))) _ _ (as_eq (fields_sub hk32 hs32 _ (by decide))) ?_) | (refine whole_sub ?_; refine hS _ (SV.agg (.cells ((b.take 32).map Cell.u8 ++ [_] ++ (b.drop (32 + v)).map Cell.u8))) _ _ (as_eq (fields_sub hk32 hs32 _ (by decide))) ?_)
      clear hS
      refine sS1 ?_
      refine sS fun _ hS => ?_; (repeat refine aI qSd3 ?_); apply hS; clear hS
      refine sS0 fun _ hS => ?_; (repeat refine aI qSd3 ?_); (first | apply hS | (refine splice_full qSd3 ?_; apply hS)); clear hS
      iterate 2 refine sS1 ?_
      refine s_nil ?_; apply hK37; apply hK36
      rw [recV_some (rec_yes hvd hbd hsd hb3 h_t23 hv1 hv2 h_t75)]
      refine WP_ret (Done_data gr_ok (fun _ _ h => h) (recV_low0 _ _ _) [6] [.cell 2 42, .tmp 3, .tmp 4] rfl ?_)
      repeat refine aI (by first | decide | (show 0 + 65 ≤ List.length (_ : List Cell); simp; omega)) ?_
      refine whole_yes (by show List.length (_ : List Cell) = 65; simp; omega) ?_
      refine aI ?_ ?_
      ·refine (show allTo _ _ _ from allTo_app (allTo_app (allTo_u8 _) (And.intro ?_ trivial)) (allTo_u8 _))
       repeat' (first | exact trivial | refine aI ?_ ?_ | exact cC0 | refine low_cons' ?_ ?_ | exact cC1 | fail)
       all_goals first | (show 0 + List.length _ * 1 ≤ List.length _; omega) | exact (if_pos ⟨rfl, (Nat.mul_one _).symm⟩).symm | exact (Nat.mul_one _).symm | exact Nat.one_pos | skip
      repeat' (first | exact trivial | refine aI ?_ ?_ | exact cC0 | refine low_cons' ?_ ?_ | exact cC1 | fail)
      all_goals first | (simp; done) | skip


end Go.Proofs.YtnhmglhbhnhnhaaDoor

namespace Go.Proofs.YtnhmglhbhnhnhaaDoor
set_option linter.unusedVariables false
open Go.Ab Go.RowKit

theorem qSe0 {a : Prop} (h : a := by first | exact vcA | (simp <;> omega) | exact vcB) : a := h
theorem qSe1 {a : Prop} (h : a := by first | exact vcA | (simp [pieceC_len hw] <;> omega) | exact (pieceC_len hw).symm | exact pieceC_len hw | exact pieceC_solid _ | (rw [pieceC_len hw]; omega) | exact vcB) : a := h
theorem qSe2 {a : Prop} (h : a := by first | omega | exact trivial | rfl | exact pieceC_len hw | exact (pieceC_len hw).symm | (rw [pieceC_len hw]; omega) | decide | (simp; omega)) : a := h
theorem uSe0 {a : Prop} (h : a := by
    repeat' (first | exact trivial | refine aI ?_ ?_ | exact cC0 | refine low_cons' ?_ ?_ | exact cC1 | fail)) : a := h
theorem uSe1 {a : Prop} (h : a := by
    repeat' (first | exact trivial | refine aI ?_ ?_ | exact cC0 | refine low_cons' ?_ ?_ | exact cC1 | fail)
    all_goals first | (show 0 < (pieceC s).len; rw [pieceC_len hw]; omega) | (show (_ : Int) = _; omega) | exact pieceC_isD _ | exact pieceC_low | omega | (simp; done) | skip) : a := h

open Go.Sto
theorem atJ_wp0 {Γ : Ctx} {N : Nat} {E : Env} {a : Act} {w : World} {Q : Exit → Act → World → Prop} {J : (Nat → Prop) → World → Prop} {c : Code} (hA : AtJ Γ N J E a w) (hlow : ∀ x ∈ E, x.2.low 0) (h : ∀ D w, J D w → WP Γ N (pureC w D) c E [] 0 Q) : c.wp Γ.P Q a w := by
  obtain ⟨D, β, n, hJ, hS⟩ := hA
  have hg : ∀ {E : Env} {i : Tmp} {v : SV}, E.get i = some v → (i, v) ∈ E := by
    intro E
    induction E with
    | nil => intro i v h; cases h
    | cons x E ih =>
      intro i v h
      obtain ⟨j, u⟩ := x
      simp only [Env.get] at h
      split at h
      · rename_i e; cases h; subst e; exact List.mem_cons_self
      · exact List.mem_cons_of_mem _ (ih h)
  exact h D w hJ β D a w ⟨⟨hS.env.defers, hS.env.slot, fun i v hv => hlow _ (hg hv)⟩, hS.size, ⟨rfl, rfl, rfl, Nat.le_refl _, fun _ _ _ => rfl, fun _ _ h => (by cases h), fun _ _ h => (by cases h), fun _ _ h => (by cases h), fun _ _ _ _ _ h => (by cases h), fun _ _ h => (by cases h), hS.heap.ilt, fun _ h => .inl h, fun _ h => h⟩, hS.glob, Nat.zero_le _, fun i hi => absurd hi (Nat.not_lt_zero i)⟩
def boxL (bs : List UInt8) : Cell := .dp (.cells [.ds bs.length (.u8s bs)]) 0
theorem boxL_low (bs : List UInt8) : SV.low 0 (.c (.clo 47 [boxL bs])) := fun x hx => by
  rw [List.mem_singleton.1 hx]
  trivial
theorem pieces_step {l : List UInt8} {k : Nat} (hk : k ≤ (pieces l).length) : recordL (l.drop (total ((pieces l).take k))) = match (pieces l)[k]? with | some s => some (s, s.size) | none => none := by
  cases h : (pieces l)[k]? with
  | some s => exact pieces_at h
  | none =>
    have : (pieces l).length ≤ k := List.getElem?_eq_none_iff.1 h
    rw [List.take_of_length_le this]
    exact (pieces_spec l).2.2
def recXs (bs : List UInt8) : List (List SV) := (List.range (pieces bs).length).map fun k => [.c (.int .i64 (total ((pieces bs).take (k + 1)) : Nat)), .agg (pieceC ((pieces bs).getD k noPiece))]
theorem total_zero (ps : List Piece) : total (ps.take 0) = 0 := rfl
theorem Done_ret0 {Γ : Ctx} {N : Nat} {C : CC} {E : Env} {H : Heap} {n : Nat} {Q' : Act → World → Prop} (hΓ : Γ.OK) {fn : Func} {R : Ending → World → Prop} (hQ : ∀ a w, bodyPost Γ.P fn R .ret a w → Q' a w) (hD : C.D = []) (hrs : fn.results.toList = []) (hR : ∀ β I a w, St Γ N C β n E H I a w → R (.returned (.tuple #[])) w) : Done Γ N C E H n Q' := fun β I a w hS => hQ a w (Done_normal0 hΓ hD hrs hR β I a w hS)
theorem recXs_length (bs : List UInt8) : (recXs bs).length = (pieces bs).length := by simp [recXs]
theorem recXs_get {bs : List UInt8} {k : Nat} {s : Piece} (h : (pieces bs)[k]? = some s) : (recXs bs)[k]? = some [.c (.int .i64 (total ((pieces bs).take (k + 1)) : Nat)), .agg (pieceC s)] := by
  have hk : k < (pieces bs).length := (List.getElem?_eq_some_iff.1 h).1
  have e := (List.getElem?_eq_some_iff.1 h).2
  simp [recXs, hk, e, List.getD_eq_getElem?_getD]
theorem recXs_inv {bs : List UInt8} {k : Nat} {x : List SV} (h : (recXs bs)[k]? = some x) : ∃ s, (pieces bs)[k]? = some s ∧ x = [.c (.int .i64 (total ((pieces bs).take (k + 1)) : Nat)), .agg (pieceC s)] := by
  have hk : k < (pieces bs).length := by rw [← recXs_length]; exact (List.getElem?_eq_some_iff.1 h).1
  refine ⟨(pieces bs)[k], List.getElem?_eq_getElem hk, ?_⟩
  rw [recXs_get (List.getElem?_eq_getElem hk)] at h
  exact (Option.some.inj h).symm
theorem recXs_two {bs : List UInt8} : ∀ x ∈ recXs bs, x.length = 2 := fun x hx => by
  obtain ⟨k, _, rfl⟩ := List.mem_map.1 hx
  rfl
def recordsS : QSpec := fun vs K => ∃ bs : List UInt8, vs = [bytesV bs] ∧ K (.c (.clo 47 [boxL bs]))
theorem records_ok : DataOK Tryd.prog gl 35 recordsS := by
 refine data_of (Γ := g0) (N := 4) Tryd.func35 rfl rfl fun vs K h => ?_
 obtain ⟨bs, rfl, h⟩ := h
 refine ⟨_, h, boxL_low bs, by simp, fun w I => ?_⟩
 refine seq_k fun _ hK1 => ?_; refine region_k g0_ok fun _ hK2 => ?_
 refine sS fun _ hS => ?_; (repeat refine aI qSe0 ?_); apply hS; clear hS
 refine sS1 ?_
 refine s_nil ?_; apply hK2; apply hK1; refine seq_k fun _ hK3 => ?_; refine region_k g0_ok fun _ hK4 => ?_
 refine sS fun _ hS => ?_; (repeat refine aI qSe0 ?_); apply hS; clear hS
 refine sS1 ?_
 refine s_nil ?_; apply hK4; apply hK3
 refine WP_ret (Done_data g0_ok (fun _ _ h => h) (boxL_low bs) [0] [.tmp 2] rfl ?_)
 repeat' (first | exact trivial | refine aI ?_ ?_ | exact cC0 | refine low_cons' ?_ ?_ | exact cC1 | fail)
 all_goals exact Nat.one_pos

noncomputable def gi : Ctx := { P := Tryd.prog, ty := ty, glob := gl, fs := [(48, .data recordS)] }
theorem gi_ok : gi.OK := ⟨tyOK, ⟨⟨enters_mk Tryd.func48 (by kernel_rfl) rfl, record_ok⟩, trivial⟩, mixed⟩
@[simp] theorem gi_ty : gi.ty = ty := rfl


theorem drop_as {l x : List UInt8} {t : Nat} (hx : x = l.drop t) (h : t ≤ l.length) : SV.as (.c (.ds (l.length - (t : Int).toNat) ((Cont.u8s l).drop ((t : Int).toNat * 1)))) (bytesV x) := by
  subst hx
  refine as_dsE (a := l.drop ((t : Int).toNat * 1)) ?_ ?_
  · rw [List.length_drop]; omega
  · rw [show (t : Int).toNat * 1 = t by omega]
attribute [local irreducible] recT recordL Go.Sto.pieces Go.Sto.total
theorem recs_ok (bs : List UInt8) (hb : bs.length ≤ 900000) : SeqsOK Tryd.prog gl 47 [.c (boxL bs)] (recXs bs) := by
 intro I W cs l hG hlt hargs J Z hab habz hround hJ0
 rw [show (#[.func (.yield l) #[] #[]] ++ cs.toArray : Array Value) = (.func (.yield l) #[] #[] :: cs).toArray by simp]
 refine calls_of_WP (Γ := gi) (N := 25) (C := pureC W I) (β := noVal) (n := 0) (H := []) (vs := [.c (.raw (.func (.yield l) #[] #[])), .c (boxL bs)]) (xs := .func (.yield l) #[] #[] :: cs) Tryd.func47 rfl rfl (by simp) (HeapOK.init hlt) hG ⟨Nat.le_refl _, fun i hi => absurd hi (Nat.not_lt_zero i)⟩ rfl ⟨by simpa using hargs.1, fun j v hv => ?_⟩ ?_
 ·cases j with
  | zero => cases hv; exact ⟨_, rfl, (SV.rel_flat (x := .c (.raw _)) rfl).2 rfl, SV.flat_low rfl⟩
  | succ j => exact hargs.2 j v hv
 obtain ⟨ps, hps⟩ : ∃ ps, ps = pieces bs := ⟨_, rfl⟩
 refine seq_k fun _ hK1 => ?_; refine region_k gi_ok fun _ hK2 => ?_
 refine sS1 ?_
 refine s_nil ?_; apply hK2; apply hK1; refine WP_block ?_
 refine leW [] id [(0, .c (.raw (.func (.yield l) #[] #[]))), (1, .c (boxL bs)), (3, .c (.int .i64 (total (ps.take (0)) : Nat)))] [] 0 [] ?_ ?_ ?_ ?_ ?_
 ·repeat' (first | exact trivial | refine aI ?_ ?_ | exact cC0 | refine low_cons' ?_ ?_ | exact cC1 | fail)
  all_goals first | (rw [total_zero]; rfl) | (simp [total_zero]; done) | skip
 ·exact uSe0
 ·exact uSe0
 ·exact uSe0
 refine WP_atJ (J := J 0) hJ0 (hab 0) fun a1 w1 hA => ?_
 refine wp_loop_nat (fun k a w => k ≤ ps.length ∧ AtJ gi 25 (J k) [(0, .c (.raw (.func (.yield l) #[] #[]))), (1, .c (boxL bs)), (3, .c (.int .i64 (total (ps.take (k)) : Nat)))] a w) ps.length (fun _ _ _ h => h.1) ?_ 0 a1 w1 ⟨Nat.zero_le _, hA⟩
 intro k a w ⟨hk, hA⟩
 refine atJ_wp0 hA (List.forall_mem_cons.2 ⟨SV.flat_low rfl, List.forall_mem_cons.2 ⟨trivial, List.forall_mem_cons.2 ⟨SV.flat_low rfl, fun _ h => by cases h⟩⟩⟩) fun D w0 hJk => ?_
 refine WP_block ?_
 have hTl : total (ps.take k) ≤ bs.length := by rw [hps]; exact Nat.le_trans (total_take_le _ _) (total_le bs)
 obtain ⟨x, hx⟩ : ∃ x, x = bs.drop (total (ps.take k)) := ⟨_, rfl⟩
 have hxl : x.length = bs.length - total (ps.take k) := by rw [hx, List.length_drop]
 have hstep := pieces_step (l := bs) (k := k) (by rw [← hps]; exact hk)
 rw [← hps, ← hx] at hstep
 obtain ⟨s, nn, ok, hr⟩ : ∃ s nn ok, recT x = (s, nn, ok) := ⟨_, _, _, rfl⟩
 have hle := recT_le x
 rw [hr] at hle
 obtain ⟨hnl, hw, hsb⟩ := hle
 replace hnl : nn ≤ x.length := hnl
 refine seq_k fun _ hK3 => ?_; refine region_k gi_ok fun _ hK4 => ?_
 refine sS fun _ hS => ?_; (repeat refine aI qSe1 ?_); (first | apply hS | (refine whole_yes qSe1 ?_; apply hS) | (refine whole_sub ?_; apply hS)); clear hS
 refine sS1 ?_
 refine s_stepA rfl (by decide) rfl fun _ hS => ?_
 repeat refine aI qSe1 ?_
 first | refine hS _ (bytesV x) _ _ (drop_as hx hTl) ?_ | (refine ite_yes qSe1 ?_; (repeat refine aI qSe1 ?_); refine hS _ (bytesV x) _ _ (drop_as hx hTl) ?_)
 clear hS
 refine s_stepA rfl (by decide) rfl fun _ hS => ?_
 repeat first | refine aI qSe1 ?_ | refine whole_yes qSe1 ?_ | refine whole_sub ?_
 refine ⟨x, rfl, by omega, ?_⟩
 repeat refine aI qSe1 ?_
 first | refine hS _ (.tup [.agg (pieceC s), .c (.int .i64 (nn : Nat)), .c (.bool ok)]) _ _ (as_eq (by rw [recV, hr])) ?_ | (intro cap3 hcap3; refine hS _ (.tup [.agg (pieceC s), .c (.int .i64 (nn : Nat)), .c (.bool ok)]) _ _ (as_eq (by rw [recV, hr])) ?_)
 clear hS
 refine sS1 ?_
 refine sS fun _ hS => ?_; (repeat refine aI qSe1 ?_); apply hS; clear hS
 refine sS fun _ hS => ?_; (repeat refine aI qSe1 ?_); apply hS; clear hS
 refine sS fun _ hS => ?_; (repeat refine aI qSe1 ?_); apply hS; clear hS
 refine sS fun _ hS => ?_; (repeat refine aI qSe1 ?_); apply hS; clear hS
 refine sS0 fun _ hS => ?_; (repeat refine aI qSe1 ?_); (first | apply hS | (refine splice_full qSe1 ?_; apply hS)); clear hS
 iterate 2 refine sS1 ?_
 refine s_nil ?_; apply hK4; apply hK3; refine seq_k fun _ hK5 => ?_; refine seq_k fun _ hK6 => ?_; refine region_k gi_ok fun _ hK7 => ?_
 iterate 2 refine sS1 ?_
 refine s_nil ?_; apply hK7; apply hK6
 refine WP_cond (b := _) rfl (fun h_t16 => ?_) (fun h_t16 => ?_)
 ·try simp only [dQ] at h_t16
  obtain rfl : ok = false := by simpa using h_t16
  obtain rfl : k = ps.length := by
   cases hg : ps[k]? with
   | none => have := List.getElem?_eq_none_iff.1 hg; omega
   | some t => rw [hg] at hstep; rw [recT_some hstep] at hr; cases hr
  refine WP_ret (Done_ret0 (fn := Tryd.f47) (R := fun e w' => (∃ v, e = .returned v) ∧ ∃ D, J (recXs bs).length D w' ∨ Z D w') gi_ok (fun _ _ h => h) rfl rfl fun β I a w hS => ⟨⟨_, rfl⟩, I, .inl ?_⟩)
  rw [recXs_length, ← hps]
  exact hab _ _ _ _ _ _ _ _ hJk hS.heap
 ·try simp only [dQ] at h_t16
  refine WP_skip ?_; apply hK5
  obtain rfl : ok = true := by simpa using h_t16
  obtain ⟨hks, hnn⟩ : ps[k]? = some s ∧ nn = s.size := by
   cases hg : ps[k]? with
   | none => rw [hg] at hstep; rw [recT_none hstep] at hr; cases hr
   | some t => rw [hg] at hstep; rw [recT_some hstep] at hr; cases hr; exact ⟨rfl, rfl⟩
  have hkK : k < ps.length := (List.getElem?_eq_some_iff.1 hks).1
  have hT := total_succ hks
  refine seq_k fun _ hK8 => ?_; refine region_k gi_ok fun _ hK9 => ?_
  iterate 2 refine sS1 ?_
  refine sS fun _ hS => ?_; (repeat refine aI (by first | exact vcA | (simp <;> omega) | exact inR_i64.mpr ⟨by omega, by omega⟩ | exact vcB) ?_); apply hS; clear hS
  refine sS1 ?_
  refine s_nil ?_; apply hK9; apply hK8
  refine leW [0] id [(0, .c (.raw (.func (.yield l) #[] #[]))), (1, .c (boxL bs)), (3, .c (.int .i64 (total (ps.take (k + 1)) : Nat))), (4, .c (.dp (pieceC s) 0))] [] 1 [] ?_ ?_ ?_ ?_ ?_
  ·exact uSe1
  ·exact uSe1
  ·exact uSe1
  ·exact uSe1
  refine WP_atJ (J := J k) hJk (hab k) fun a2 w2 hA2 => ?_
  refine wp_seq ?_
  refine region_yields (J := J k) (J' := J (k + 1)) (Z := Z) gi_ok (hab k) habz (hab (k + 1)) 3 rfl rfl rfl rfl rfl (by decide) (ys := [.c (.int .i64 (total (ps.take (k + 1)) : Nat)), .agg (pieceC s)]) (l := l) (fun D w v m hj hv => hround k D w _ v m (by rw [hps]; exact recXs_get (hps ▸ hks)) hj hv) (args := [.tmp 21, .tmp 22]) rfl (E2 := fun r => [(0, .c (.raw (.func (.yield l) #[] #[]))), (1, .c (boxL bs)), (3, .c (.int .i64 (total (ps.take (k + 1)) : Nat))), (24, .c (.bool (!r)))]) (fun n => ?_) hA2 (fun a3 w3 hA3 => ?_) (fun a3 w3 hA3 => ?_)
  ·simp only [List.take_succ_cons, List.take_zero, List.drop_succ_cons, List.drop_zero]
   refine y_step rfl (by decide) rfl (by intro c h; cases h) fun _ hS => ?_
   repeat refine aI qSe2 ?_
   first | apply hS | (refine whole_yes qSe2 ?_; apply hS)
   clear hS
   refine y_step rfl (by decide) rfl (by intro c h; cases h) fun _ hS => ?_
   repeat refine aI qSe2 ?_
   first | apply hS | (refine whole_yes qSe2 ?_; apply hS)
   clear hS
   refine y_step rfl (by decide) rfl (by intro c h; cases h) fun _ hS => ?_
   repeat refine aI qSe2 ?_
   first | apply hS | (refine whole_yes qSe2 ?_; apply hS)
   clear hS
   refine y_nil ?_
   refine ⟨rfl, rfl, fun y hy => ?_, fun r => ?_⟩
   ·rcases List.mem_cons.1 hy with rfl | hy
    ·trivial
    ·rw [List.mem_singleton.1 hy]; exact pieceC_low
   refine y_step rfl (by decide) rfl (by intro c h; cases h) fun _ hS => ?_
   apply hS
   clear hS
   refine y_nil ?_
   exact Env.sub_of (List.forall_mem_cons.2 ⟨rfl, List.forall_mem_cons.2 ⟨rfl, List.forall_mem_cons.2 ⟨rfl, List.forall_mem_cons.2 ⟨rfl, fun _ h => by cases h⟩⟩⟩⟩)
  ·simp only [Exit.then]
   refine hA3.wp fun D3 w3 n3 hJ3 => ?_
   refine WP_cond (b := false) rfl (fun h => absurd h (by decide)) (fun _ => ?_)
   refine WP_skip ?_; refine done_block ?_; refine done_then ?_
   intro β I a w hS
   exact ⟨hkK, (hS.atJ hJ3 (hab (k + 1))).sub (Env.sub_of (List.forall_mem_cons.2 ⟨rfl, List.forall_mem_cons.2 ⟨rfl, List.forall_mem_cons.2 ⟨rfl, fun _ h => by cases h⟩⟩⟩))⟩
  ·simp only [Exit.then]
   refine hA3.wp fun D3 w3 n3 hJ3 => ?_
   refine WP_cond (b := true) rfl (fun _ => ?_) (fun h => absurd h (by decide))
   exact WP_ret (Done_ret0 (fn := Tryd.f47) (R := fun e w' => (∃ v, e = .returned v) ∧ ∃ D, J (recXs bs).length D w' ∨ Z D w') gi_ok (fun _ _ h => h) rfl rfl fun β I a w hS => ⟨⟨_, rfl⟩, I, .inr (habz _ _ _ _ _ _ _ hJ3 hS.heap)⟩)
 

end Go.Proofs.YtnhmglhbhnhnhaaDoor

namespace Go.Proofs.YtnhmglhbhnhnhaaDoor
set_option linter.unusedVariables false
open Go.Ab Go.RowKit

theorem qSf0 {a : Prop} (h : a := by first | exact vcA | (simp <;> omega) | exact shl_in _ _ (by decide) | exact inR_i64.mpr ⟨by omega, by omega⟩ | exact vcB) : a := h
theorem qSf1 {a : Prop} (h : a := by first | exact vcA | (simp [hb] <;> omega) | exact vcB) : a := h
theorem qSf2 {a : Prop} (h : a := by first | exact vcA | (simp [hb] <;> omega) | (show _ < List.length _; simp [hcl] <;> omega) | exact ⟨by omega, by show _ < List.length _; omega⟩ | exact vcB) : a := h
theorem qSf3 {a : Prop} (h : a := by first | exact vcA | (simp [hb] <;> omega) | exact hcl | exact hcl.symm | (show _ ≤ List.length _; omega) | exact vcB) : a := h
theorem uSf0 {a : Prop} (h : a := by
    repeat' (first | exact trivial | refine aI ?_ ?_ | exact cC0 | refine low_cons' ?_ ?_ | exact cC1 | fail)
    all_goals first | exact (rfl).symm | exact rfl | omega | (show (_ : List UInt8) = _; simp only [Int.toNat_natCast, Nat.mul_one, Nat.zero_add]; first | exact (rfl).symm | exact rfl) | (simp; done) | (simp <;> omega) | skip) : a := h
theorem uSf1 {a : Prop} (h : a := by
    repeat' (first | exact trivial | refine aI ?_ ?_ | exact cC0 | refine low_cons' ?_ ?_ | exact cC1 | fail)) : a := h
theorem uSf2 {a : Prop} (h : a := by
    repeat' (first | exact trivial | refine aI ?_ ?_ | exact cC0 | refine low_cons' ?_ ?_ | exact cC1 | fail)
    all_goals first | exact (take_set b k 32 (by omega) (by omega)).symm | exact take_set b k 32 (by omega) (by omega) | omega | (show (_ : List UInt8) = _; simp only [Int.toNat_natCast, Nat.mul_one, Nat.zero_add]; first | exact (take_set b k 32 (by omega) (by omega)).symm | exact take_set b k 32 (by omega) (by omega)) | (simp; done) | (simp <;> omega) | skip) : a := h

open Go.Sto
theorem shl_v (b : UInt8) (n : Int) (m : Nat) (h : (n = 24 ∧ m = 16777216) ∨ (n = 16 ∧ m = 65536) ∨ (n = 8 ∧ m = 256)) : SV.as (.c (.int .i64 ((b.toNat : Int) * 2 ^ n.toNat))) (.c (.int .i64 ((b.toNat * m : Nat) : Int))) := as_eq (congrArg (fun v => SV.c (.int .i64 v)) (by
  rcases h with ⟨rfl, rfl⟩ | ⟨rfl, rfl⟩ | ⟨rfl, rfl⟩
  · rw [show (2 : Int) ^ Int.toNat 24 = 16777216 from rfl]; omega
  · rw [show (2 : Int) ^ Int.toNat 16 = 65536 from rfl]; omega
  · rw [show (2 : Int) ^ Int.toNat 8 = 256 from rfl]; omega))
theorem take_set (b : List UInt8) (k n : Nat) (h : k < b.length) (hn : k < n) : (b.take k ++ List.replicate (n - k) 0).set k (b.getD k 0) = b.take (k + 1) ++ List.replicate (n - (k + 1)) 0 := by
  have hl : (b.take k).length = k := by rw [List.length_take]; omega
  rw [List.set_append_right _ _ (by omega), hl, Nat.sub_self, List.take_add_one, List.getElem?_eq_getElem h, Option.toList_some, List.getD_eq_getElem?_getD, List.getElem?_eq_getElem h, Option.getD_some]
  obtain ⟨m, hm⟩ : ∃ m, n - k = m + 1 := ⟨n - k - 1, by omega⟩
  rw [hm, List.replicate_succ, List.set_cons_zero, List.append_assoc, show n - (k + 1) = m by omega]
  rfl
def valueS : QSpec := fun vs K => ∃ l : List UInt8, vs = [bytesV l] ∧ (4 ≤ l.length ∧ l.length ≤ 9223372036854775807) ∧ K (.c (.int .i64 ((val4 l : Nat) : Int)))
theorem value_ok : FlatOK Tryd.prog gl 53 valueS := by
 refine flat_of (Γ := g0) (N := 25) Tryd.func53 rfl rfl fun vs K h => ?_
 obtain ⟨l, rfl, ⟨h4, hl⟩, h⟩ := h
 refine ⟨_, h, rfl, by simp, fun w I => ?_⟩
 refine seq_k fun _ hK1 => ?_; refine region_k g0_ok fun _ hK2 => ?_
 refine sS1 ?_
 refine s_nil ?_; apply hK2; apply hK1; refine seq_k fun _ hK3 => ?_
 have hg0 := (l.getD 0 0).toNat_lt
 have hg1 := (l.getD 1 0).toNat_lt
 have hg2 := (l.getD 2 0).toNat_lt
 have hg3 := (l.getD 3 0).toNat_lt
 refine quiet_k g0_ok (by kernel_rfl) fun _ hK4 => ?_
 refine qQ1 ?_
 refine qS fun _ hS => ?_; (repeat refine aI qSf0 ?_); apply hS; clear hS
 refine qS fun _ hS => ?_; (repeat refine aI qSf0 ?_); (first | apply hS | (refine whole_yes qSf0 ?_; apply hS) | (refine whole_sub ?_; apply hS)); clear hS
 refine q_stepA rfl (by decide) rfl fun _ hS => ?_
 repeat first | refine aI qSf0 ?_ | refine whole_yes qSf0 ?_ | refine whole_sub ?_
 refine hS _ (.c (.int .i64 ((l.getD 0 0).toNat : Nat))) (SV.as_refl _) ?_
 clear hS
 refine q_stepA rfl (by decide) rfl fun _ hS => ?_
 repeat refine aI qSf0 ?_
 refine hS _ (.c (.int .i64 (((l.getD 0 0).toNat * 16777216 : Nat) : Int))) (shl_v _ _ _ (.inl ⟨rfl, rfl⟩)) ?_
 clear hS
 refine qQ1 ?_
 refine qS fun _ hS => ?_; (repeat refine aI qSf0 ?_); apply hS; clear hS
 refine qS fun _ hS => ?_; (repeat refine aI qSf0 ?_); (first | apply hS | (refine whole_yes qSf0 ?_; apply hS) | (refine whole_sub ?_; apply hS)); clear hS
 refine qS fun _ hS => ?_; (repeat first | refine aI qSf0 ?_ | refine whole_yes qSf0 ?_ | refine whole_sub ?_); apply hS; clear hS
 refine q_stepA rfl (by decide) rfl fun _ hS => ?_
 repeat refine aI qSf0 ?_
 refine hS _ (.c (.int .i64 (((l.getD 1 0).toNat * 65536 : Nat) : Int))) (shl_v _ _ _ (.inr (.inl ⟨rfl, rfl⟩))) ?_
 clear hS
 refine qS fun _ hS => ?_; (repeat refine aI qSf0 ?_); apply hS; clear hS
 refine qQ1 ?_
 refine qS fun _ hS => ?_; (repeat refine aI qSf0 ?_); apply hS; clear hS
 refine qS fun _ hS => ?_; (repeat refine aI qSf0 ?_); (first | apply hS | (refine whole_yes qSf0 ?_; apply hS) | (refine whole_sub ?_; apply hS)); clear hS
 refine qS fun _ hS => ?_; (repeat first | refine aI qSf0 ?_ | refine whole_yes qSf0 ?_ | refine whole_sub ?_); apply hS; clear hS
 refine q_stepA rfl (by decide) rfl fun _ hS => ?_
 repeat refine aI qSf0 ?_
 refine hS _ (.c (.int .i64 (((l.getD 2 0).toNat * 256 : Nat) : Int))) (shl_v _ _ _ (.inr (.inr ⟨rfl, rfl⟩))) ?_
 clear hS
 refine qS fun _ hS => ?_; (repeat refine aI qSf0 ?_); apply hS; clear hS
 refine qQ1 ?_
 refine qS fun _ hS => ?_; (repeat refine aI qSf0 ?_); apply hS; clear hS
 refine qS fun _ hS => ?_; (repeat refine aI qSf0 ?_); (first | apply hS | (refine whole_yes qSf0 ?_; apply hS) | (refine whole_sub ?_; apply hS)); clear hS
 refine q_stepA rfl (by decide) rfl fun _ hS => ?_
 repeat first | refine aI qSf0 ?_ | refine whole_yes qSf0 ?_ | refine whole_sub ?_
 refine hS _ (.c (.int .i64 ((l.getD 3 0).toNat : Nat))) (SV.as_refl _) ?_
 clear hS
 refine qS fun _ hS => ?_; (repeat refine aI qSf0 ?_); apply hS; clear hS
 refine qQ1 ?_
 refine q_nil ?_; apply hK4; apply hK3
 refine WP_ret (Done_flat g0_ok (fun _ _ h => h) (by first | rfl | assumption) [.tmp 2] rfl ?_)
 repeat refine aI (by first | omega | exact trivial | rfl | (simp <;> omega)) ?_
 try refine ite_yes (by first | omega | exact trivial | rfl | (simp <;> omega)) ?_
 show SV.c (.int .i64 _) = SV.c (.int .i64 _)
 rw [val4]
 congr 2

def digS : QSpec := fun vs K => ∃ b : List UInt8, vs = [bytesV b] ∧ b.length = 32 ∧ K (.agg (.u8s b))
theorem dig_ok : FlatOK Tryd.prog gl 54 digS := by
 refine flat_of (Γ := g0) (N := 17) Tryd.func54 rfl rfl fun vs K h => ?_
 obtain ⟨b, rfl, hb, h⟩ := h
 refine ⟨_, h, rfl, by simp, fun w I => ?_⟩
 refine seq_k fun _ hK1 => ?_; refine region_k g0_ok fun _ hK2 => ?_
 refine sS fun _ hS => ?_; (repeat refine aI qSf1 ?_); apply hS; clear hS; refine s_nil ?_; apply hK2; apply hK1; refine seq_k fun _ hK3 => ?_; refine region_k g0_ok fun _ hK4 => ?_
 refine sS fun _ hS => ?_; (repeat refine aI qSf1 ?_); apply hS; clear hS
 refine sS fun _ hS => ?_; (repeat refine aI qSf1 ?_); apply hS; clear hS
 refine sS0 fun _ hS => ?_; (repeat refine aI qSf1 ?_); (first | apply hS | (refine splice_full qSf1 ?_; apply hS)); clear hS; refine s_nil ?_; apply hK4; apply hK3; refine seq_k fun _ hK5 => ?_; refine seq_k fun _ hK6 => ?_; refine region_k g0_ok fun _ hK7 => ?_
 refine sS1 ?_
 refine s_nil ?_; apply hK7; apply hK6; refine WP_block ?_
 refine WP_loop (α := Nat) (fun k => [(0, bytesV b), (2, .c (.ptr 0 0)), (3, .c (.ptr 1 0)), (4, .c (.int .i64 k))]) (fun k => [(0, .own 24 (.u8s (List.replicate 32 0)) 32), (1, .own 24 (.u8s (b.take k ++ List.replicate (32 - k) 0)) 32)]) 2 (fun k => k ≤ 32) (fun k => 32 - k) ?_ ?_
 ·refine dnS [] id 0 (Nat.zero_le _) [0, 1] ?_ ?_ ?_ ?_
  ·exact uSf0
  ·exact uSf0
  ·exact uSf1
  ·exact uSf1
 ·intro k hk
  refine seq_k fun _ hK8 => ?_; refine seq_k fun _ hK9 => ?_; refine region_k g0_ok fun _ hK10 => ?_
  refine sS1 ?_
  refine sS fun _ hS => ?_; (repeat refine aI qSf1 ?_); apply hS; clear hS; refine s_nil ?_; apply hK10; apply hK9
  refine WP_cond (b := _) rfl (fun h_t7 => ?_) (fun h_t7 => ?_)
  ·try simp only [dQ] at h_t7
   refine WP_skip ?_; apply hK8; refine seq_k fun _ hK11 => ?_; refine WP_block ?_
   have hcl : (b.take k ++ List.replicate (32 - k) (0 : UInt8)).length = 32 := by simp; omega
   refine region_k g0_ok fun _ hK12 => ?_
   iterate 3 refine sS1 ?_
   refine sS fun _ hS => ?_; (repeat refine aI qSf2 ?_); apply hS; clear hS
   refine sS fun _ hS => ?_; (repeat refine aI qSf2 ?_); (first | apply hS | (refine whole_yes qSf2 ?_; apply hS) | (refine whole_sub ?_; apply hS)); clear hS
   refine sS fun _ hS => ?_; (repeat refine aI qSf2 ?_); apply hS; clear hS
   refine sS0 fun _ hS => ?_; (repeat refine aI qSf2 ?_); (first | apply hS | (refine splice_full qSf2 ?_; apply hS)); clear hS; refine s_nil ?_; apply hK12; refine done_block ?_; apply hK11; refine region_k g0_ok fun _ hK13 => ?_
   refine sS1 ?_
   refine sS fun _ hS => ?_; (repeat refine aI qSf1 ?_); apply hS; clear hS
   refine sS1 ?_
   refine s_nil ?_; apply hK13
   refine dnS [] id (k + 1) ⟨by omega, by omega⟩ [0, 1] ?_ ?_ ?_ ?_
   ·exact uSf2
   ·exact uSf2
   ·exact uSf1
   ·exact uSf1
  ·try simp only [dQ] at h_t7
   refine WP_exit ?_; refine done_thenx ?_; refine done_thenx ?_
   refine Done_hit ?_
   apply hK5; refine seq_k fun _ hK14 => ?_
   have hcl : (b.take k ++ List.replicate (32 - k) (0 : UInt8)).length = 32 := by simp; omega
   refine region_k g0_ok fun _ hK15 => ?_
   refine sS fun _ hS => ?_; (repeat refine aI qSf3 ?_); (first | apply hS | (refine whole_yes qSf3 ?_; apply hS) | (refine whole_sub ?_; apply hS)); clear hS
   refine sS0 fun _ hS => ?_; (repeat refine aI qSf3 ?_); (first | apply hS | (refine splice_full qSf3 ?_; apply hS)); clear hS; refine s_nil ?_; apply hK15; apply hK14
   refine WP_ret (Done_flat g0_ok (fun _ _ h => h) (by first | rfl | assumption) [.cell 2 24] rfl ?_)
   repeat refine aI (by first | omega | exact trivial | rfl | (simp <;> omega)) ?_
   try refine ite_yes (by first | omega | exact trivial | rfl | (simp <;> omega)) ?_
   obtain rfl : k = 32 := by omega
   show SV.agg (.u8s _) = _
   congr 2
   rw [List.take_of_length_le (by omega)]
   simp


end Go.Proofs.YtnhmglhbhnhnhaaDoor

namespace Go.Proofs.YtnhmglhbhnhnhaaDoor
set_option linter.unusedVariables false
open Go.Ab Go.RowKit

theorem qSg0 {a : Prop} (h : a := by first | exact vcA | (simp [num4_length, hw.1, hw.2] <;> omega) | exact (pieceC_len hw).symm | exact pieceC_len hw | exact pieceC_solid _ | (rw [pieceC_len hw]; omega) | exact hw.1 | exact hw.2 | exact hw.1.symm | exact hw.2.symm | exact num4_length _ | (simp [num4_length, hw.1, hw.2]; omega) | exact ⟨by omega, by omega, trivial⟩ | exact ⟨by simp [num4_length, hw.1, hw.2] <;> omega, by simp [num4_length, hw.1, hw.2] <;> omega, trivial⟩ | exact vcB) : a := h

open Go.Sto
theorem len_u32 (n : Nat) (h : n < 4294967296) : (UInt32.ofInt (n : Int)).toNat = n := by
  rw [UInt32.ofInt, UInt32.toNat_ofNat']
  omega
theorem recW_length {s : Piece} (h : Piece.wf s) : s.rec'.length = s.size := by
  simp only [Piece.rec', Piece.body, List.length_append, headB_length, num4_length, Piece.size, h.1, h.2]; omega
theorem bytes_list {x : List UInt8} {n : Nat} (h : n = x.length) : [SV.c (.ds n (.u8s x))] = [bytesV x] := by subst h; rfl
theorem rec_split (s : Piece) : ((num4 s.b.length ++ num4 (crcL (num4 s.b.length)).toNat) ++ (s.key ++ s.b ++ s.seal')) ++ num4 (crcL (s.key ++ s.b ++ s.seal')).toNat = s.rec' := by
  rw [Piece.rec', headB, Piece.body, List.append_assoc]
noncomputable def gw : Ctx := { P := Tryd.prog, ty := ty, glob := gl, fs := [(50, .own numberRS), (51, .flat checksumRS), (45, .own bytesS)] }
theorem gw_ok : gw.OK := ⟨tyOK, ⟨⟨enters_mk Tryd.func50 (by kernel_rfl) rfl, numberR_ok⟩, ⟨enters_mk Tryd.func51 (by kernel_rfl) rfl, checksumR_ok⟩, ⟨enters_mk Tryd.func45 (by kernel_rfl) rfl, bytesR_ok⟩, trivial⟩, mixed⟩
@[simp] theorem gw_ty : gw.ty = ty := rfl

def recordRS : OSpec := fun vs K => ∃ s : Piece, vs = [pieceV s] ∧ (Piece.wf s ∧ s.b.length ≤ 900000) ∧ K 5 1 s.size (.u8s s.rec')
set_option maxHeartbeats 1000000 in
theorem recordR_ok : OwnOK Tryd.prog gl 41 recordRS := by
 refine own_of (Γ := gw) (N := 35) Tryd.func41 rfl rfl fun vs K h => ?_
 obtain ⟨s, rfl, ⟨hw, hb⟩, h⟩ := h
 refine ⟨_, _, _, _, h, trivial, by simp, fun w I => ?_⟩
 refine seq_k fun _ hK1 => ?_; refine region_k gw_ok fun _ hK2 => ?_
 refine sS fun _ hS => ?_; (repeat refine aI qSg0 ?_); apply hS; clear hS
 refine sS1 ?_
 refine s_nil ?_; apply hK2; apply hK1; refine seq_k fun _ hK3 => ?_; refine region_k gw_ok fun _ hK4 => ?_
 refine sS fun _ hS => ?_; (repeat refine aI qSg0 ?_); apply hS; clear hS
 refine s_stepA rfl (by decide) rfl fun _ hS => ?_
 repeat refine aI qSg0 ?_
 first | refine hS _ (.c (.ds s.b.length (.u8s s.b))) _ _ (as_eq (congrArg SV.c (piece_b hw))) ?_ | (refine whole_yes qSg0 ?_; refine hS _ (.c (.ds s.b.length (.u8s s.b))) _ _ (as_eq (congrArg SV.c (piece_b hw))) ?_) | (refine whole_sub ?_; refine hS _ (.c (.ds s.b.length (.u8s s.b))) _ _ (as_eq (congrArg SV.c (piece_b hw))) ?_)
 clear hS
 refine sS fun _ hS => ?_; (repeat refine aI qSg0 ?_); apply hS; clear hS
 refine sS fun _ hS => ?_; (repeat first | refine aI qSg0 ?_ | refine whole_yes qSg0 ?_ | refine whole_sub ?_); apply hS; clear hS
 refine sS fun _ hS => ?_; (repeat first | refine aI qSg0 ?_ | refine whole_yes qSg0 ?_ | refine whole_sub ?_); refine ⟨UInt32.ofInt (s.b.length : Int), rfl, ?_⟩; rw [len_u32 _ (by omega)]; (repeat refine aI qSg0 ?_); (first | apply hS | (intro cap4 hcap4; apply hS)); clear hS
 refine sS1 ?_
 refine s_nil ?_; apply hK4; apply hK3; refine seq_k fun _ hK5 => ?_; refine region_k gw_ok fun _ hK6 => ?_
 iterate 2 refine sS1 ?_
 refine sS fun _ hS => ?_; (repeat first | refine aI qSg0 ?_ | refine whole_yes qSg0 ?_ | refine whole_sub ?_); refine ⟨num4 s.b.length, rfl, by rw [num4_length]; omega, ?_⟩; (repeat refine aI qSg0 ?_); (first | apply hS | (intro cap2 hcap2; apply hS)); clear hS
 refine sS fun _ hS => ?_; (repeat first | refine aI qSg0 ?_ | refine whole_yes qSg0 ?_ | refine whole_sub ?_); refine ⟨_, rfl, ?_⟩; (repeat refine aI qSg0 ?_); (first | apply hS | (intro cap3 hcap3; apply hS)); clear hS
 refine sS fun _ hS => ?_; (repeat first | refine aI qSg0 ?_ | refine whole_yes qSg0 ?_ | refine whole_sub ?_); (intro cap4 hcap4; apply hS); clear hS
 refine sS1 ?_
 refine s_nil ?_; apply hK6; apply hK5; refine seq_k fun _ hK7 => ?_; refine region_k gw_ok fun _ hK8 => ?_
 refine sS fun _ hS => ?_; (repeat refine aI qSg0 ?_); apply hS; clear hS
 refine s_stepA rfl (by decide) rfl fun _ hS => ?_
 repeat refine aI qSg0 ?_
 first | refine hS _ (.agg (.u8s s.key)) _ _ (SV.as_agg (piece_key hw)) ?_ | (refine whole_yes qSg0 ?_; refine hS _ (.agg (.u8s s.key)) _ _ (SV.as_agg (piece_key hw)) ?_) | (refine whole_sub ?_; refine hS _ (.agg (.u8s s.key)) _ _ (SV.as_agg (piece_key hw)) ?_)
 clear hS
 refine sS fun _ hS => ?_; (repeat first | refine aI qSg0 ?_ | refine whole_yes qSg0 ?_ | refine whole_sub ?_); (first | apply hS | (intro cap2 hcap2; apply hS)); clear hS
 refine sS1 ?_
 refine s_nil ?_; apply hK8; apply hK7; refine seq_k fun _ hK9 => ?_; refine region_k gw_ok fun _ hK10 => ?_
 refine sS1 ?_
 refine sS fun _ hS => ?_; (repeat refine aI qSg0 ?_); apply hS; clear hS
 refine s_stepA rfl (by decide) rfl fun _ hS => ?_
 repeat refine aI qSg0 ?_
 first | refine hS _ (.c (.ds s.b.length (.u8s s.b))) _ _ (as_eq (congrArg SV.c (piece_b hw))) ?_ | (refine whole_yes qSg0 ?_; refine hS _ (.c (.ds s.b.length (.u8s s.b))) _ _ (as_eq (congrArg SV.c (piece_b hw))) ?_) | (refine whole_sub ?_; refine hS _ (.c (.ds s.b.length (.u8s s.b))) _ _ (as_eq (congrArg SV.c (piece_b hw))) ?_)
 clear hS
 refine sS fun _ hS => ?_; (repeat first | refine aI qSg0 ?_ | refine whole_yes qSg0 ?_ | refine whole_sub ?_); (intro cap3 hcap3; apply hS); clear hS
 refine sS1 ?_
 refine s_nil ?_; apply hK10; apply hK9; refine seq_k fun _ hK11 => ?_; refine region_k gw_ok fun _ hK12 => ?_
 refine sS1 ?_
 refine sS fun _ hS => ?_; (repeat refine aI qSg0 ?_); apply hS; clear hS
 refine s_stepA rfl (by decide) rfl fun _ hS => ?_
 repeat refine aI qSg0 ?_
 first | refine hS _ (.agg (.u8s s.seal')) _ _ (SV.as_agg (piece_seal hw)) ?_ | (refine whole_yes qSg0 ?_; refine hS _ (.agg (.u8s s.seal')) _ _ (SV.as_agg (piece_seal hw)) ?_) | (refine whole_sub ?_; refine hS _ (.agg (.u8s s.seal')) _ _ (SV.as_agg (piece_seal hw)) ?_)
 clear hS
 refine sS fun _ hS => ?_; (repeat first | refine aI qSg0 ?_ | refine whole_yes qSg0 ?_ | refine whole_sub ?_); (first | apply hS | (intro cap3 hcap3; apply hS)); clear hS
 refine sS fun _ hS => ?_; (repeat first | refine aI qSg0 ?_ | refine whole_yes qSg0 ?_ | refine whole_sub ?_); (intro cap4 hcap4; apply hS); clear hS
 refine sS1 ?_
 refine s_nil ?_; apply hK12; apply hK11; refine seq_k fun _ hK13 => ?_; refine region_k gw_ok fun _ hK14 => ?_
 iterate 2 refine sS1 ?_
 refine sS fun _ hS => ?_; (repeat first | refine aI qSg0 ?_ | refine whole_yes qSg0 ?_ | refine whole_sub ?_); (intro cap2 hcap2; apply hS); clear hS
 refine sS1 ?_
 refine s_nil ?_; apply hK14; apply hK13; refine seq_k fun _ hK15 => ?_; refine region_k gw_ok fun _ hK16 => ?_
 iterate 2 refine sS1 ?_
 refine sS fun _ hS => ?_; (repeat first | refine aI qSg0 ?_ | refine whole_yes qSg0 ?_ | refine whole_sub ?_); refine ⟨s.key ++ s.b ++ s.seal', bytes_list (by simp [hw.1, hw.2] <;> omega), by simp [hw.1, hw.2]; omega, ?_⟩; (repeat refine aI qSg0 ?_); (first | apply hS | (intro cap2 hcap2; apply hS)); clear hS
 refine sS fun _ hS => ?_; (repeat first | refine aI qSg0 ?_ | refine whole_yes qSg0 ?_ | refine whole_sub ?_); refine ⟨_, rfl, ?_⟩; (repeat refine aI qSg0 ?_); (first | apply hS | (intro cap3 hcap3; apply hS)); clear hS
 refine sS fun _ hS => ?_; (repeat first | refine aI qSg0 ?_ | refine whole_yes qSg0 ?_ | refine whole_sub ?_); (intro cap4 hcap4; apply hS); clear hS
 refine sS1 ?_
 refine s_nil ?_; apply hK16; apply hK15
 refine WP_ret (Done_own gw_ok (fun _ _ h => h) (by decide) [.tmp 2] rfl ?_)
 repeat' (first | exact trivial | refine aI ?_ ?_ | exact cC0 | refine low_cons' ?_ ?_ | exact cC1 | fail)
 all_goals first | exact rec_split s | exact (rec_split s).symm | exact (recW_length hw).symm | exact (recW_length hw).trans (Nat.mul_one _).symm | exact ((recW_length hw).trans (Nat.mul_one _).symm).symm | (simp [Piece.size]; omega) | skip


end Go.Proofs.YtnhmglhbhnhnhaaDoor

namespace Go.Proofs.YtnhmglhbhnhnhaaDoor
set_option linter.unusedVariables false
open Go.Ab Go.RowKit

theorem qSh0 {a : Prop} (h : a := by first | exact vcA | (simp <;> omega) | exact vcB) : a := h
theorem qSh1 {a : Prop} (h : a := by first | exact vcA | (simp <;> omega) | exact ⟨by omega, by omega, trivial⟩ | exact And.intro hbl (And.intro rfl (And.intro hcl trivial)) | exact hcl.symm | exact (pieceC_len hw).symm | exact solid_app (solid_app (solid_u8 _) ⟨trivial, trivial⟩) (solid_u8 _) | (show List.length (_ : List Cell) = List.length (_ : List Cell); simp; omega) | (show (65 : Nat) = List.length (_ : List Cell); simp; omega) | (show 0 < List.length (_ : List Cell); simp) | (show 0 + List.length (_ : List Cell) ≤ List.length (_ : List Cell); simp; omega) | exact vcB) : a := h
theorem qSh2 {a : Prop} (h : a := by first | exact vcA | (simp <;> omega) | (show 0 + Piece.size _ * 1 ≤ List.length _; rw [recW_length hw]; omega) | (show List.length _ = Piece.size _ * 1; rw [recW_length hw, Nat.mul_one]) | exact (pieceC_len hw).symm | exact pieceC_len hw | (rw [pieceC_len hw]; omega) | exact vcB) : a := h
theorem qSh3 {a : Prop} (h : a := by first | exact vcA | (simp <;> omega) | (rw [pieceC_len hw]; decide) | exact (pieceC_len hw).symm | exact pieceC_len hw | (rw [pieceC_len hw]; omega) | exact pieceC_solid _ | exact vcB) : a := h
theorem uSh0 {a : Prop} (h : a := by
    repeat' (first | exact trivial | refine aI ?_ ?_ | exact cC0 | refine low_cons' ?_ ?_ | exact cC1 | fail)
    all_goals try refine piece_own_to (s := ⟨b, m, c⟩) ?_
    all_goals repeat' (first | exact trivial | refine aI ?_ ?_ | exact cC0 | refine low_cons' ?_ ?_ | exact cC1 | fail)
    all_goals first | exact pieceC_isD _ | exact pieceC_low | (show 0 + _ * 1 ≤ List.length _; simp; done) | exact (if_pos ⟨rfl, (by show List.length _ = _; simp)⟩).symm | exact Nat.one_pos | (simp; done) | skip) : a := h

open Go.Sto
def atV (l : List UInt8) : SV := .tup [.agg (pieceC (recT l).1), .c (.int .i64 ((recT l).2.1 : Nat))]
theorem atV_none {l : List UInt8} (h : recordL l = none) : atV l = .tup [.agg (pieceC noPiece), .c (.int .i64 (0 : Nat))] := by rw [atV, recT_none h]
theorem atV_some {l : List UInt8} {s : Piece} {n : Nat} (h : recordL l = some (s, n)) : atV l = .tup [.agg (pieceC s), .c (.int .i64 (n : Nat))] := by rw [atV, recT_some h]
theorem atV_low0 (s : Piece) (k : Int) : SV.low 0 (.tup [.agg (pieceC s), .c (.int .i64 k)]) := fun p hp => by
  rcases List.mem_cons.1 hp with rfl | hp
  · exact pieceC_low
  · rw [List.mem_singleton.1 hp]; trivial
theorem atV_low (l : List UInt8) : (atV l).low 0 := atV_low0 _ _
theorem pieceB_eq {l : List UInt8} {v : Nat} (h : 76 + v ≤ l.length) : pieceB l v = ⟨(l.drop 8).take 32, (l.drop 40).take v, (l.drop (40 + v)).take 32⟩ := by
  simp only [pieceB, bodyB, Piece.mk.injEq]
  refine ⟨?_, ?_, ?_⟩
  · rw [List.take_take, Nat.min_eq_left (by omega)]
  · rw [List.drop_take, List.drop_drop, List.take_take, Nat.min_eq_left (by omega)]
  · rw [List.drop_take, List.drop_drop, show 8 + (32 + v) = 40 + v by omega, show 64 + v - (32 + v) = 32 by omega]
theorem at_yes {l b m c : List UInt8} {v : Nat} (hb : b.length = 32) (hm : m.length = v) (hc : c.length = 32) (h3 : v ≤ 65536) (h4 : 76 + v ≤ l.length) (h : (⟨b, m, c⟩ : Piece).rec' = l.take (76 + v)) : recordL l = some (⟨b, m, c⟩, 76 + v) := by
  have hok : (⟨b, m, c⟩ : Piece).ok := ⟨hb, hc, by show m.length ≤ _; omega⟩
  have := record_of hok (l.drop (76 + v))
  rw [h, List.take_append_drop] at this
  rw [this, Piece.size]
  show some (_, 76 + m.length) = _
  rw [hm]
theorem at_no {l b m c : List UInt8} {v : Nat} (hv : v = val4 l) (hb : b = (l.drop 8).take 32) (hm : m = (l.drop 40).take v) (hc : c = (l.drop (40 + v)).take 32) (h4 : 76 + v ≤ l.length) (h : ¬ (⟨b, m, c⟩ : Piece).rec' = l.take (76 + v)) : recordL l = none := by
  cases hr : recordL l with
  | none => rfl
  | some p =>
    obtain ⟨s', n⟩ := p
    obtain ⟨h1, h2, h3, h5⟩ := Go.Sto.record_ok hr
    unfold recordL at hr
    split at hr
    · rw [← hv, pieceB_eq h4, ← hb, ← hm, ← hc] at hr
      simp only [Option.some.injEq, Prod.mk.injEq] at hr
      obtain ⟨rfl, rfl⟩ := hr
      exact absurd h5.symm h
    · cases hr
theorem build_eq (z : Cont) (b c : List UInt8) (x : Cell) : Ab.pieces z [(0, .u8s b), (1, .cells [x]), (2, .u8s c)] 0 [(0, 32, 24), (32, 1, 31), (33, 32, 24)] = b.map Cell.u8 ++ [x] ++ c.map Cell.u8 := by
  rw [List.append_assoc]
  show b.map Cell.u8 ++ ([x] ++ (c.map Cell.u8 ++ [])) = _
  rw [List.append_nil]
theorem piece_own_to {tf : Nat → Ty} {H : Heap} {is : List Nat} {ρ : Nat → Nat} {s : Piece} {id len cap : Nat} (h : Cell.to tf H is ρ (.slice id 0 len cap) (.ds s.b.length (.u8s s.b))) : (Cont.cells (s.key.map Cell.u8 ++ [.slice id 0 len cap] ++ s.seal'.map Cell.u8)).to tf H is ρ (pieceC s) := allTo_app (allTo_app (allTo_u8 _) ⟨h, trivial⟩) (allTo_u8 _)
theorem viewL_flat {tf : Nat → Ty} {H : Heap} : ∀ {l : List Cell} (_ : ∀ x ∈ l, (∃ b, x = .u8 b) ∨ ∃ n c, x = .ds n c) {K : List Cell → Prop} (_ : K l), viewL tf H l K
  | [], _, _, h => h
  | x :: l, hx, _, h => by
    rcases hx x List.mem_cons_self with ⟨b, rfl⟩ | ⟨n, c, rfl⟩
    · exact viewL_flat (fun y hy => hx y (List.mem_cons_of_mem _ hy)) (K := fun l' => _) h
    · exact viewL_flat (fun y hy => hx y (List.mem_cons_of_mem _ hy)) (K := fun l' => _) h
theorem piece_flat (s : Piece) : ∀ x ∈ s.key.map Cell.u8 ++ [.ds s.b.length (.u8s s.b)] ++ s.seal'.map Cell.u8, (∃ b, x = Cell.u8 b) ∨ ∃ n c, x = Cell.ds n c := fun x hx => by
  rcases List.mem_append.1 hx with hx | hx
  · rcases List.mem_append.1 hx with hx | hx
    · obtain ⟨b, _, rfl⟩ := List.mem_map.1 hx; exact .inl ⟨b, rfl⟩
    · exact .inr ⟨_, _, List.mem_singleton.1 hx⟩
  · obtain ⟨b, _, rfl⟩ := List.mem_map.1 hx; exact .inl ⟨b, rfl⟩
theorem piece_noclo (s : Piece) : ∀ x ∈ s.key.map Cell.u8 ++ [.ds s.b.length (.u8s s.b)] ++ s.seal'.map Cell.u8, ∀ g cs, x ≠ Cell.clo g cs := fun x hx g cs e => by
  rcases piece_flat s x hx with ⟨b, rfl⟩ | ⟨n, c, rfl⟩ <;> cases e
theorem sl1_as {l : List UInt8} (h : 40 ≤ l.length) : SV.as (.c (.ds (Int.toNat 40 - Int.toNat 8) ((Cont.u8s l).sub (Int.toNat 8 * 1) ((Int.toNat 40 - Int.toNat 8) * 1)))) (bytesV ((l.drop 8).take 32)) :=
  as_dsE (a := (l.drop (Int.toNat 8 * 1)).take ((Int.toNat 40 - Int.toNat 8) * 1)) (by rw [List.length_take, List.length_drop]; omega) rfl
theorem sl2_as {l : List UInt8} {v : Nat} (h : 76 + v ≤ l.length) : SV.as (.c (.ds ((40 + (v : Int)).toNat - Int.toNat 40) ((Cont.u8s l).sub (Int.toNat 40 * 1) (((40 + (v : Int)).toNat - Int.toNat 40) * 1)))) (bytesV ((l.drop 40).take v)) := by
  refine as_dsE (a := (l.drop (Int.toNat 40 * 1)).take (((40 + (v : Int)).toNat - Int.toNat 40) * 1)) ?_ ?_
  · rw [List.length_take, List.length_drop]; omega
  · rw [show ((40 + (v : Int)).toNat - Int.toNat 40) * 1 = v by omega]; rfl
theorem sl3_as {l : List UInt8} {v : Nat} (h : 76 + v ≤ l.length) : SV.as (.c (.ds ((72 + (v : Int)).toNat - (40 + (v : Int)).toNat) ((Cont.u8s l).sub ((40 + (v : Int)).toNat * 1) (((72 + (v : Int)).toNat - (40 + (v : Int)).toNat) * 1)))) (bytesV ((l.drop (40 + v)).take 32)) := by
  refine as_dsE (a := (l.drop ((40 + (v : Int)).toNat * 1)).take (((72 + (v : Int)).toNat - (40 + (v : Int)).toNat) * 1)) ?_ ?_
  · rw [List.length_take, List.length_drop]; omega
  · rw [show (((72 + (v : Int)).toNat - (40 + (v : Int)).toNat) * 1) = 32 by omega, show (40 + (v : Int)).toNat * 1 = 40 + v by omega]
theorem sl4_as {l : List UInt8} {v : Nat} (h : 76 + v ≤ l.length) : SV.as (.c (.ds (76 + (v : Int)).toNat ((Cont.u8s l).take ((76 + (v : Int)).toNat * 1)))) (bytesV (l.take (76 + v))) := by
  refine as_dsE (a := l.take ((76 + (v : Int)).toNat * 1)) ?_ ?_
  · rw [List.length_take]; omega
  · rw [show (76 + (v : Int)).toNat * 1 = 76 + v by omega]
noncomputable def ga : Ctx := { P := Tryd.prog, ty := ty, glob := gl, fs := [(53, .flat valueS), (54, .flat digS), (41, .own recordRS)] }
theorem ga_ok : ga.OK := ⟨tyOK, ⟨⟨enters_mk Tryd.func53 (by kernel_rfl) rfl, value_ok⟩, ⟨enters_mk Tryd.func54 (by kernel_rfl) rfl, dig_ok⟩, ⟨enters_mk Tryd.func41 (by kernel_rfl) rfl, recordR_ok⟩, trivial⟩, mixed⟩
@[simp] theorem ga_ty : ga.ty = ty := rfl

attribute [local irreducible] crcL crcFold bodyB sumB val4 recordL recT
def atS : QSpec := fun vs K => ∃ l : List UInt8, vs = [bytesV l] ∧ l.length ≤ 900000 ∧ K (atV l)
set_option maxHeartbeats 1000000 in
theorem at_ok : DataOK Tryd.prog gl 44 atS := by
 refine data_of (Γ := ga) (N := 52) Tryd.func44 rfl rfl fun vs K h => ?_
 obtain ⟨l, rfl, hl, h⟩ := h
 refine ⟨_, h, atV_low l, by simp, fun w I => ?_⟩
 refine seq_k fun _ hK1 => ?_; refine region_k ga_ok fun _ hK2 => ?_
 refine sS fun _ hS => ?_; (repeat refine aI qSh0 ?_); apply hS; clear hS
 refine sS1 ?_
 refine s_nil ?_; apply hK2; apply hK1; refine seq_k fun _ hK3 => ?_; refine seq_k fun _ hK4 => ?_; refine region_k ga_ok fun _ hK5 => ?_
 refine sS1 ?_
 refine sS fun _ hS => ?_; (repeat refine aI qSh0 ?_); apply hS; clear hS
 refine sS fun _ hS => ?_; (repeat refine aI qSh0 ?_); apply hS; clear hS; refine s_nil ?_; apply hK5; apply hK4
 refine WP_cond (b := _) rfl (fun h_t8 => ?_) (fun h_t8 => ?_)
 ·try simp only [dQ] at h_t8
  refine seq_k fun _ hK6 => ?_; refine region_k ga_ok fun _ hK7 => ?_
  refine s_stepA rfl (by decide) rfl fun _ hS => ?_
  repeat refine aI qSh0 ?_
  refine hS _ (pieceV noPiece) _ _ (zero_as) ?_
  clear hS
  refine sS0 fun _ hS => ?_; (repeat refine aI qSh0 ?_); (first | apply hS | (refine splice_full qSh0 ?_; apply hS)); clear hS
  refine sS1 ?_
  refine s_nil ?_; apply hK7; apply hK6
  rw [atV_none (by exact rec_short0 (by first | exact h_t8 | omega))]
  refine WP_ret (Done_data ga_ok (fun _ _ h => h) (atV_low0 _ _) [] [.cell 2 42, .tmp 3] rfl ?_)
  repeat' (first | exact trivial | refine aI ?_ ?_ | exact cC0 | refine low_cons' ?_ ?_ | exact cC1 | fail)
  all_goals first | exact piece_to _ | (simp; done) | skip
 ·try simp only [dQ] at h_t8
  refine WP_skip ?_; apply hK3; refine seq_k fun _ hK8 => ?_
  obtain ⟨v, hvd⟩ : ∃ v, v = val4 l := ⟨_, rfl⟩
  refine region_k ga_ok fun _ hK9 => ?_
  refine sS1 ?_
  refine sS fun _ hS => ?_; (repeat first | refine aI qSh0 ?_ | refine whole_yes qSh0 ?_ | refine whole_sub ?_); refine ⟨l, rfl, ⟨by omega, by omega⟩, ?_⟩; (repeat refine aI qSh0 ?_); (first | apply hS | (intro cap1 hcap1; apply hS)); clear hS
  refine s_stepA rfl (by decide) rfl fun _ hS => ?_
  refine hS _ (.c (.int .i64 ((v : Nat) : Int))) _ _ (hvd ▸ SV.as_refl _) ?_
  clear hS; refine s_nil ?_; apply hK9; apply hK8; refine seq_k fun _ hK10 => ?_; refine seq_k fun _ hK11 => ?_; refine region_k ga_ok fun _ hK12 => ?_
  refine sS1 ?_
  refine sS fun _ hS => ?_; (repeat refine aI qSh0 ?_); apply hS; clear hS
  refine sS fun _ hS => ?_
  refine s_split hS (fun hb2 => ?_) (fun hb2 => ?_)
  ·clear hS
   try simp only [dQ] at hb2
   refine sN ?_; refine sN ?_; refine sN ?_; refine sN ?_; refine sN ?_
   refine sS1 ?_
   refine s_nil ?_; apply hK12; apply hK11
   refine WP_cond (b := _) rfl (fun _ => ?_) (fun h_t20 => ?_)
   rotate_left 1
   ·exfalso; simp at h_t20
   refine seq_k fun _ hK13 => ?_; refine region_k ga_ok fun _ hK14 => ?_
   refine s_stepA rfl (by decide) rfl fun _ hS => ?_
   repeat refine aI qSh0 ?_
   refine hS _ (pieceV noPiece) _ _ (zero_as) ?_
   clear hS
   refine sS0 fun _ hS => ?_; (repeat refine aI qSh0 ?_); (first | apply hS | (refine splice_full qSh0 ?_; apply hS)); clear hS
   refine sS1 ?_
   refine s_nil ?_; apply hK14; apply hK13
   rw [atV_none (by exact rec_big0 (by omega))]
   refine WP_ret (Done_data ga_ok (fun _ _ h => h) (atV_low0 _ _) [] [.cell 2 42, .tmp 3] rfl ?_)
   repeat' (first | exact trivial | refine aI ?_ ?_ | exact cC0 | refine low_cons' ?_ ?_ | exact cC1 | fail)
   all_goals first | exact piece_to _ | (simp; done) | skip
  ·clear hS
   try simp only [dQ] at hb2
   refine sT fun _ hS => ?_; apply hS; clear hS
   refine sT fun _ hS => ?_; (repeat refine aI qSh0 ?_); apply hS; clear hS
   refine sT fun _ hS => ?_; apply hS; clear hS
   refine sT fun _ hS => ?_; (repeat refine aI qSh0 ?_); apply hS; clear hS
   refine sT fun _ hS => ?_; (repeat refine aI qSh0 ?_); apply hS; clear hS
   refine sS1 ?_
   refine s_nil ?_; apply hK12; apply hK11
   refine WP_cond (b := _) rfl (fun h_t20 => ?_) (fun h_t20 => ?_)
   ·try simp only [dQ, if_false] at h_t20
    refine seq_k fun _ hK15 => ?_; refine region_k ga_ok fun _ hK16 => ?_
    refine s_stepA rfl (by decide) rfl fun _ hS => ?_
    repeat refine aI qSh0 ?_
    refine hS _ (pieceV noPiece) _ _ (zero_as) ?_
    clear hS
    refine sS0 fun _ hS => ?_; (repeat refine aI qSh0 ?_); (first | apply hS | (refine splice_full qSh0 ?_; apply hS)); clear hS
    refine sS1 ?_
    refine s_nil ?_; apply hK16; apply hK15
    rw [atV_none (by exact rec_len0 (by omega))]
    refine WP_ret (Done_data ga_ok (fun _ _ h => h) (atV_low0 _ _) [] [.cell 2 42, .tmp 3] rfl ?_)
    repeat' (first | exact trivial | refine aI ?_ ?_ | exact cC0 | refine low_cons' ?_ ?_ | exact cC1 | fail)
    all_goals first | exact piece_to _ | (simp; done) | skip
   ·try simp only [dQ, if_false] at h_t20
    have hv1 : v ≤ 65536 := by omega
    have hv2 : 76 + v ≤ l.length := by omega
    obtain ⟨b, hbd⟩ : ∃ b, b = (l.drop 8).take 32 := ⟨_, rfl⟩
    obtain ⟨m, hmd⟩ : ∃ m, m = (l.drop 40).take v := ⟨_, rfl⟩
    obtain ⟨c, hcd⟩ : ∃ c, c = (l.drop (40 + v)).take 32 := ⟨_, rfl⟩
    have hbl : b.length = 32 := by rw [hbd, List.length_take, List.length_drop]; omega
    have hml : m.length = v := by rw [hmd, List.length_take, List.length_drop]; omega
    have hcl : c.length = 32 := by rw [hcd, List.length_take, List.length_drop]; omega
    have hw : Piece.wf ⟨b, m, c⟩ := ⟨hbl, hcl⟩
    refine WP_skip ?_; apply hK10
    refine WP_cut (α := Unit) (fun _ => [(0, bytesV l), (2, .c (.ptr 0 0)), (3, .c (.int .i64 0)), (4, .c (.int .i64 ((v : Nat) : Int))), (5, .c (.ptr 1 0))]) (fun _ => [(0, .own 42 zeroP 65), (1, .own 42 (pieceC ⟨b, m, c⟩) 65)]) 2 (fun _ => True) ?_ ?_
    ·skip
     refine tree_k ga_ok ?_
     refine WB_run ga_ok (g := 7) (by kernel_rfl) [(0, true), (1, true), (4, true), (5, true), (6, true), (7, true), (9, true), (10, true), (11, true), (12, true), (13, true), (14, true)] (by kernel_rfl) fun _ hK18 => ?_
     refine dD1 ?_
     refine d_readA rfl rfl (by decide) rfl fun _ hS => ?_
     repeat refine aI qSh1 ?_
     first | refine hS _ (bytesV b) (hbd ▸ sl1_as (by omega)) ?_ | (refine ite_yes qSh1 ?_; (repeat refine aI qSh1 ?_); refine hS _ (bytesV b) (hbd ▸ sl1_as (by omega)) ?_)
     clear hS
     iterate 2 refine dD1 ?_
     refine dR fun _ hS => ?_; (repeat refine aI qSh1 ?_); apply hS; clear hS
     refine d_readA rfl rfl (by decide) rfl fun _ hS => ?_
     repeat refine aI qSh1 ?_
     first | refine hS _ (bytesV m) (hmd ▸ sl2_as hv2) ?_ | (refine ite_yes qSh1 ?_; (repeat refine aI qSh1 ?_); refine hS _ (bytesV m) (hmd ▸ sl2_as hv2) ?_)
     clear hS
     iterate 2 refine dD1 ?_
     refine dR fun _ hS => ?_; (repeat refine aI qSh1 ?_); apply hS; clear hS
     refine dD1 ?_
     refine dR fun _ hS => ?_; (repeat refine aI qSh1 ?_); apply hS; clear hS
     refine d_readA rfl rfl (by decide) rfl fun _ hS => ?_
     repeat refine aI qSh1 ?_
     first | refine hS _ (bytesV c) (hcd ▸ sl3_as hv2) ?_ | (refine ite_yes qSh1 ?_; (repeat refine aI qSh1 ?_); refine hS _ (bytesV c) (hcd ▸ sl3_as hv2) ?_)
     clear hS; refine d_nil ?_; apply hK18
     refine WB_all [2, 3, 17] (by kernel_rfl) (by decide) (List.forall_mem_cons.2 ⟨?_, List.forall_mem_cons.2 ⟨?_, List.forall_mem_cons.2 ⟨?_, fun _ h => by cases h⟩⟩⟩)
     ·refine WB_force ga_ok rfl rfl (by decide) rfl fun _ hS => ?_
      repeat first | refine aI qSh1 ?_ | refine whole_yes qSh1 ?_ | refine whole_sub ?_
      refine ⟨b, rfl, hbl, ?_⟩
      repeat refine aI qSh1 ?_
      first | apply hS | (intro cap2 hcap2; apply hS)
      clear hS
      refine WB_all [3, 17] (by kernel_rfl) (by decide) (List.forall_mem_cons.2 ⟨?_, List.forall_mem_cons.2 ⟨?_, fun _ h => by cases h⟩⟩)
      ·refine WB_force ga_ok rfl rfl (by decide) rfl fun _ hS => ?_
       repeat refine aI qSh1 ?_
       apply hS
       clear hS
       refine WB_all [8, 17] (by kernel_rfl) (by decide) (List.forall_mem_cons.2 ⟨?_, List.forall_mem_cons.2 ⟨?_, fun _ h => by cases h⟩⟩)
       ·refine WB_force ga_ok rfl rfl (by decide) rfl fun _ hS => ?_
        repeat first | refine aI qSh1 ?_ | refine whole_yes qSh1 ?_ | refine whole_sub ?_
        intro cap8 hcap8; apply hS
        clear hS
        refine WB_all [15, 17] (by kernel_rfl) (by decide) (List.forall_mem_cons.2 ⟨?_, List.forall_mem_cons.2 ⟨?_, fun _ h => by cases h⟩⟩)
        ·refine WB_force ga_ok rfl rfl (by decide) rfl fun _ hS => ?_
         repeat first | refine aI qSh1 ?_ | refine whole_yes qSh1 ?_ | refine whole_sub ?_
         refine ⟨c, rfl, hcl, ?_⟩
         repeat refine aI qSh1 ?_
         first | apply hS | (intro cap15 hcap15; apply hS)
         clear hS
         refine WB_run ga_ok (g := 0) (by kernel_rfl) [(16, true), (17, false), (18, false)] (by kernel_rfl) fun _ hK19 => ?_
         refine d_readA rfl rfl (by decide) rfl fun _ hS => ?_
         repeat refine aI qSh1 ?_
         refine hS _ (.agg (.cells (b.map Cell.u8 ++ [.slice 2 0 (0 + m.length) cap8] ++ c.map Cell.u8))) (as_eq (congrArg (fun x => SV.agg (.cells x)) (build_eq _ b c _))) ?_
         clear hS
         refine dG fun _ hS => ?_; (repeat refine aI qSh1 ?_); apply hS; clear hS
         refine d_grow0 rfl rfl rfl fun _ hS => ?_
         repeat refine aI qSh1 ?_
         first | apply hS | (refine splice_full qSh1 ?_; apply hS)
         clear hS; refine d_nil ?_; apply hK19
         refine WB_done (by kernel_rfl) ?_
         refine dnS [2] (fun i => if i = 1 then 3 else 0) () trivial [0, 3] ?_ ?_ ?_ ?_
         ·exact uSh0
         ·exact uSh0
         ·exact uSh0
         ·exact uSh0
        ·refine WB_force ga_ok rfl rfl (by decide) rfl fun _ hS => ?_
         repeat refine aI qSh1 ?_
         apply hS
         clear hS
         refine WB_run ga_ok (g := 0) (by kernel_rfl) [(15, false), (16, true), (18, false)] (by kernel_rfl) fun _ hK20 => ?_
         refine dG fun _ hS => ?_; (repeat first | refine aI qSh1 ?_ | refine whole_yes qSh1 ?_ | refine whole_sub ?_); refine ⟨c, rfl, hcl, ?_⟩; (repeat refine aI qSh1 ?_); (first | apply hS | (intro cap15 hcap15; apply hS)); clear hS
         refine d_readA rfl rfl (by decide) rfl fun _ hS => ?_
         repeat refine aI qSh1 ?_
         refine hS _ (.agg (.cells (b.map Cell.u8 ++ [.slice 2 0 (0 + m.length) cap8] ++ c.map Cell.u8))) (as_eq (congrArg (fun x => SV.agg (.cells x)) (build_eq _ b c _))) ?_
         clear hS
         refine d_grow0 rfl rfl rfl fun _ hS => ?_
         repeat refine aI qSh1 ?_
         first | apply hS | (refine splice_full qSh1 ?_; apply hS)
         clear hS; refine d_nil ?_; apply hK20
         refine WB_done (by kernel_rfl) ?_
         refine dnS [2] (fun i => if i = 1 then 3 else 0) () trivial [0, 3] ?_ ?_ ?_ ?_
         ·exact uSh0
         ·exact uSh0
         ·exact uSh0
         ·exact uSh0
       ·refine WB_force ga_ok rfl rfl (by decide) rfl fun _ hS => ?_
        repeat refine aI qSh1 ?_
        apply hS
        clear hS
        refine WB_run ga_ok (g := 0) (by kernel_rfl) [(8, false), (15, false), (16, true), (18, false)] (by kernel_rfl) fun _ hK21 => ?_
        refine dG fun _ hS => ?_; (repeat first | refine aI qSh1 ?_ | refine whole_yes qSh1 ?_ | refine whole_sub ?_); (intro cap8 hcap8; apply hS); clear hS
        refine dG fun _ hS => ?_; (repeat first | refine aI qSh1 ?_ | refine whole_yes qSh1 ?_ | refine whole_sub ?_); refine ⟨c, rfl, hcl, ?_⟩; (repeat refine aI qSh1 ?_); (first | apply hS | (intro cap15 hcap15; apply hS)); clear hS
        refine d_readA rfl rfl (by decide) rfl fun _ hS => ?_
        repeat refine aI qSh1 ?_
        refine hS _ (.agg (.cells (b.map Cell.u8 ++ [.slice 3 0 (0 + m.length) cap8] ++ c.map Cell.u8))) (as_eq (congrArg (fun x => SV.agg (.cells x)) (build_eq _ b c _))) ?_
        clear hS
        refine d_grow0 rfl rfl rfl fun _ hS => ?_
        repeat refine aI qSh1 ?_
        first | apply hS | (refine splice_full qSh1 ?_; apply hS)
        clear hS; refine d_nil ?_; apply hK21
        refine WB_done (by kernel_rfl) ?_
        refine dnS [3] (fun i => if i = 1 then 2 else 0) () trivial [0, 2] ?_ ?_ ?_ ?_
        ·exact uSh0
        ·exact uSh0
        ·exact uSh0
        ·exact uSh0
      ·refine WB_force ga_ok rfl rfl (by decide) rfl fun _ hS => ?_
       repeat refine aI qSh1 ?_
       apply hS
       clear hS
       refine WB_run ga_ok (g := 0) (by kernel_rfl) [(3, false), (8, false), (15, false), (16, true), (18, false)] (by kernel_rfl) fun _ hK22 => ?_
       refine dG fun _ hS => ?_; (repeat refine aI qSh1 ?_); apply hS; clear hS
       refine dG fun _ hS => ?_; (repeat first | refine aI qSh1 ?_ | refine whole_yes qSh1 ?_ | refine whole_sub ?_); (intro cap8 hcap8; apply hS); clear hS
       refine dG fun _ hS => ?_; (repeat first | refine aI qSh1 ?_ | refine whole_yes qSh1 ?_ | refine whole_sub ?_); refine ⟨c, rfl, hcl, ?_⟩; (repeat refine aI qSh1 ?_); (first | apply hS | (intro cap15 hcap15; apply hS)); clear hS
       refine d_readA rfl rfl (by decide) rfl fun _ hS => ?_
       repeat refine aI qSh1 ?_
       refine hS _ (.agg (.cells (b.map Cell.u8 ++ [.slice 3 0 (0 + m.length) cap8] ++ c.map Cell.u8))) (as_eq (congrArg (fun x => SV.agg (.cells x)) (build_eq _ b c _))) ?_
       clear hS
       refine d_grow0 rfl rfl rfl fun _ hS => ?_
       repeat refine aI qSh1 ?_
       first | apply hS | (refine splice_full qSh1 ?_; apply hS)
       clear hS; refine d_nil ?_; apply hK22
       refine WB_done (by kernel_rfl) ?_
       refine dnS [3] (fun i => if i = 1 then 1 else 0) () trivial [0, 1] ?_ ?_ ?_ ?_
       ·exact uSh0
       ·exact uSh0
       ·exact uSh0
       ·exact uSh0
     ·refine WB_force ga_ok rfl rfl (by decide) rfl fun _ hS => ?_
      repeat refine aI qSh1 ?_
      apply hS
      clear hS
      refine WB_all [2, 17] (by kernel_rfl) (by decide) (List.forall_mem_cons.2 ⟨?_, List.forall_mem_cons.2 ⟨?_, fun _ h => by cases h⟩⟩)
      ·refine WB_force ga_ok rfl rfl (by decide) rfl fun _ hS => ?_
       repeat first | refine aI qSh1 ?_ | refine whole_yes qSh1 ?_ | refine whole_sub ?_
       refine ⟨b, rfl, hbl, ?_⟩
       repeat refine aI qSh1 ?_
       first | apply hS | (intro cap2 hcap2; apply hS)
       clear hS
       refine WB_all [8, 17] (by kernel_rfl) (by decide) (List.forall_mem_cons.2 ⟨?_, List.forall_mem_cons.2 ⟨?_, fun _ h => by cases h⟩⟩)
       ·refine WB_force ga_ok rfl rfl (by decide) rfl fun _ hS => ?_
        repeat first | refine aI qSh1 ?_ | refine whole_yes qSh1 ?_ | refine whole_sub ?_
        intro cap8 hcap8; apply hS
        clear hS
        refine WB_all [15, 17] (by kernel_rfl) (by decide) (List.forall_mem_cons.2 ⟨?_, List.forall_mem_cons.2 ⟨?_, fun _ h => by cases h⟩⟩)
        ·refine WB_force ga_ok rfl rfl (by decide) rfl fun _ hS => ?_
         repeat first | refine aI qSh1 ?_ | refine whole_yes qSh1 ?_ | refine whole_sub ?_
         refine ⟨c, rfl, hcl, ?_⟩
         repeat refine aI qSh1 ?_
         first | apply hS | (intro cap15 hcap15; apply hS)
         clear hS
         refine WB_run ga_ok (g := 0) (by kernel_rfl) [(16, true), (17, false), (18, false)] (by kernel_rfl) fun _ hK23 => ?_
         refine d_readA rfl rfl (by decide) rfl fun _ hS => ?_
         repeat refine aI qSh1 ?_
         refine hS _ (.agg (.cells (b.map Cell.u8 ++ [.slice 2 0 (0 + m.length) cap8] ++ c.map Cell.u8))) (as_eq (congrArg (fun x => SV.agg (.cells x)) (build_eq _ b c _))) ?_
         clear hS
         refine dG fun _ hS => ?_; (repeat refine aI qSh1 ?_); apply hS; clear hS
         refine d_grow0 rfl rfl rfl fun _ hS => ?_
         repeat refine aI qSh1 ?_
         first | apply hS | (refine splice_full qSh1 ?_; apply hS)
         clear hS; refine d_nil ?_; apply hK23
         refine WB_done (by kernel_rfl) ?_
         refine dnS [2] (fun i => if i = 1 then 3 else 0) () trivial [0, 3] ?_ ?_ ?_ ?_
         ·exact uSh0
         ·exact uSh0
         ·exact uSh0
         ·exact uSh0
        ·refine WB_force ga_ok rfl rfl (by decide) rfl fun _ hS => ?_
         repeat refine aI qSh1 ?_
         apply hS
         clear hS
         refine WB_run ga_ok (g := 0) (by kernel_rfl) [(15, false), (16, true), (18, false)] (by kernel_rfl) fun _ hK24 => ?_
         refine dG fun _ hS => ?_; (repeat first | refine aI qSh1 ?_ | refine whole_yes qSh1 ?_ | refine whole_sub ?_); refine ⟨c, rfl, hcl, ?_⟩; (repeat refine aI qSh1 ?_); (first | apply hS | (intro cap15 hcap15; apply hS)); clear hS
         refine d_readA rfl rfl (by decide) rfl fun _ hS => ?_
         repeat refine aI qSh1 ?_
         refine hS _ (.agg (.cells (b.map Cell.u8 ++ [.slice 2 0 (0 + m.length) cap8] ++ c.map Cell.u8))) (as_eq (congrArg (fun x => SV.agg (.cells x)) (build_eq _ b c _))) ?_
         clear hS
         refine d_grow0 rfl rfl rfl fun _ hS => ?_
         repeat refine aI qSh1 ?_
         first | apply hS | (refine splice_full qSh1 ?_; apply hS)
         clear hS; refine d_nil ?_; apply hK24
         refine WB_done (by kernel_rfl) ?_
         refine dnS [2] (fun i => if i = 1 then 3 else 0) () trivial [0, 3] ?_ ?_ ?_ ?_
         ·exact uSh0
         ·exact uSh0
         ·exact uSh0
         ·exact uSh0
       ·refine WB_force ga_ok rfl rfl (by decide) rfl fun _ hS => ?_
        repeat refine aI qSh1 ?_
        apply hS
        clear hS
        refine WB_run ga_ok (g := 0) (by kernel_rfl) [(8, false), (15, false), (16, true), (18, false)] (by kernel_rfl) fun _ hK25 => ?_
        refine dG fun _ hS => ?_; (repeat first | refine aI qSh1 ?_ | refine whole_yes qSh1 ?_ | refine whole_sub ?_); (intro cap8 hcap8; apply hS); clear hS
        refine dG fun _ hS => ?_; (repeat first | refine aI qSh1 ?_ | refine whole_yes qSh1 ?_ | refine whole_sub ?_); refine ⟨c, rfl, hcl, ?_⟩; (repeat refine aI qSh1 ?_); (first | apply hS | (intro cap15 hcap15; apply hS)); clear hS
        refine d_readA rfl rfl (by decide) rfl fun _ hS => ?_
        repeat refine aI qSh1 ?_
        refine hS _ (.agg (.cells (b.map Cell.u8 ++ [.slice 3 0 (0 + m.length) cap8] ++ c.map Cell.u8))) (as_eq (congrArg (fun x => SV.agg (.cells x)) (build_eq _ b c _))) ?_
        clear hS
        refine d_grow0 rfl rfl rfl fun _ hS => ?_
        repeat refine aI qSh1 ?_
        first | apply hS | (refine splice_full qSh1 ?_; apply hS)
        clear hS; refine d_nil ?_; apply hK25
        refine WB_done (by kernel_rfl) ?_
        refine dnS [3] (fun i => if i = 1 then 2 else 0) () trivial [0, 2] ?_ ?_ ?_ ?_
        ·exact uSh0
        ·exact uSh0
        ·exact uSh0
        ·exact uSh0
      ·refine WB_force ga_ok rfl rfl (by decide) rfl fun _ hS => ?_
       repeat refine aI qSh1 ?_
       apply hS
       clear hS
       refine WB_run ga_ok (g := 0) (by kernel_rfl) [(2, false), (8, false), (15, false), (16, true), (18, false)] (by kernel_rfl) fun _ hK26 => ?_
       refine dG fun _ hS => ?_; (repeat first | refine aI qSh1 ?_ | refine whole_yes qSh1 ?_ | refine whole_sub ?_); refine ⟨b, rfl, hbl, ?_⟩; (repeat refine aI qSh1 ?_); (first | apply hS | (intro cap2 hcap2; apply hS)); clear hS
       refine dG fun _ hS => ?_; (repeat first | refine aI qSh1 ?_ | refine whole_yes qSh1 ?_ | refine whole_sub ?_); (intro cap8 hcap8; apply hS); clear hS
       refine dG fun _ hS => ?_; (repeat first | refine aI qSh1 ?_ | refine whole_yes qSh1 ?_ | refine whole_sub ?_); refine ⟨c, rfl, hcl, ?_⟩; (repeat refine aI qSh1 ?_); (first | apply hS | (intro cap15 hcap15; apply hS)); clear hS
       refine d_readA rfl rfl (by decide) rfl fun _ hS => ?_
       repeat refine aI qSh1 ?_
       refine hS _ (.agg (.cells (b.map Cell.u8 ++ [.slice 3 0 (0 + m.length) cap8] ++ c.map Cell.u8))) (as_eq (congrArg (fun x => SV.agg (.cells x)) (build_eq _ b c _))) ?_
       clear hS
       refine d_grow0 rfl rfl rfl fun _ hS => ?_
       repeat refine aI qSh1 ?_
       first | apply hS | (refine splice_full qSh1 ?_; apply hS)
       clear hS; refine d_nil ?_; apply hK26
       refine WB_done (by kernel_rfl) ?_
       refine dnS [3] (fun i => if i = 1 then 2 else 0) () trivial [0, 2] ?_ ?_ ?_ ?_
       ·exact uSh0
       ·exact uSh0
       ·exact uSh0
       ·exact uSh0
     ·refine WB_force ga_ok rfl rfl (by decide) rfl fun _ hS => ?_
      repeat refine aI qSh1 ?_
      apply hS
      clear hS
      refine WB_all [2, 3] (by kernel_rfl) (by decide) (List.forall_mem_cons.2 ⟨?_, List.forall_mem_cons.2 ⟨?_, fun _ h => by cases h⟩⟩)
      ·refine WB_force ga_ok rfl rfl (by decide) rfl fun _ hS => ?_
       repeat first | refine aI qSh1 ?_ | refine whole_yes qSh1 ?_ | refine whole_sub ?_
       refine ⟨b, rfl, hbl, ?_⟩
       repeat refine aI qSh1 ?_
       first | apply hS | (intro cap2 hcap2; apply hS)
       clear hS
       refine WB_run ga_ok (g := 0) (by kernel_rfl) [(3, false), (8, false), (15, false), (16, true), (18, false)] (by kernel_rfl) fun _ hK27 => ?_
       refine dG fun _ hS => ?_; (repeat refine aI qSh1 ?_); apply hS; clear hS
       refine dG fun _ hS => ?_; (repeat first | refine aI qSh1 ?_ | refine whole_yes qSh1 ?_ | refine whole_sub ?_); (intro cap8 hcap8; apply hS); clear hS
       refine dG fun _ hS => ?_; (repeat first | refine aI qSh1 ?_ | refine whole_yes qSh1 ?_ | refine whole_sub ?_); refine ⟨c, rfl, hcl, ?_⟩; (repeat refine aI qSh1 ?_); (first | apply hS | (intro cap15 hcap15; apply hS)); clear hS
       refine d_readA rfl rfl (by decide) rfl fun _ hS => ?_
       repeat refine aI qSh1 ?_
       refine hS _ (.agg (.cells (b.map Cell.u8 ++ [.slice 3 0 (0 + m.length) cap8] ++ c.map Cell.u8))) (as_eq (congrArg (fun x => SV.agg (.cells x)) (build_eq _ b c _))) ?_
       clear hS
       refine d_grow0 rfl rfl rfl fun _ hS => ?_
       repeat refine aI qSh1 ?_
       first | apply hS | (refine splice_full qSh1 ?_; apply hS)
       clear hS; refine d_nil ?_; apply hK27
       refine WB_done (by kernel_rfl) ?_
       refine dnS [3] (fun i => if i = 1 then 1 else 0) () trivial [0, 1] ?_ ?_ ?_ ?_
       ·exact uSh0
       ·exact uSh0
       ·exact uSh0
       ·exact uSh0
      ·refine WB_force ga_ok rfl rfl (by decide) rfl fun _ hS => ?_
       repeat refine aI qSh1 ?_
       apply hS
       clear hS
       refine WB_run ga_ok (g := 0) (by kernel_rfl) [(2, false), (8, false), (15, false), (16, true), (18, false)] (by kernel_rfl) fun _ hK28 => ?_
       refine dG fun _ hS => ?_; (repeat first | refine aI qSh1 ?_ | refine whole_yes qSh1 ?_ | refine whole_sub ?_); refine ⟨b, rfl, hbl, ?_⟩; (repeat refine aI qSh1 ?_); (first | apply hS | (intro cap2 hcap2; apply hS)); clear hS
       refine dG fun _ hS => ?_; (repeat first | refine aI qSh1 ?_ | refine whole_yes qSh1 ?_ | refine whole_sub ?_); (intro cap8 hcap8; apply hS); clear hS
       refine dG fun _ hS => ?_; (repeat first | refine aI qSh1 ?_ | refine whole_yes qSh1 ?_ | refine whole_sub ?_); refine ⟨c, rfl, hcl, ?_⟩; (repeat refine aI qSh1 ?_); (first | apply hS | (intro cap15 hcap15; apply hS)); clear hS
       refine d_readA rfl rfl (by decide) rfl fun _ hS => ?_
       repeat refine aI qSh1 ?_
       refine hS _ (.agg (.cells (b.map Cell.u8 ++ [.slice 3 0 (0 + m.length) cap8] ++ c.map Cell.u8))) (as_eq (congrArg (fun x => SV.agg (.cells x)) (build_eq _ b c _))) ?_
       clear hS
       refine d_grow0 rfl rfl rfl fun _ hS => ?_
       repeat refine aI qSh1 ?_
       first | apply hS | (refine splice_full qSh1 ?_; apply hS)
       clear hS; refine d_nil ?_; apply hK28
       refine WB_done (by kernel_rfl) ?_
       refine dnS [3] (fun i => if i = 1 then 1 else 0) () trivial [0, 1] ?_ ?_ ?_ ?_
       ·exact uSh0
       ·exact uSh0
       ·exact uSh0
       ·exact uSh0
    ·intro _ _
     refine seq_k fun _ hK29 => ?_; refine seq_k fun _ hK30 => ?_
     refine tree_k ga_ok ?_
     refine WB_run ga_ok (g := 4) (by kernel_rfl) [(0, true), (3, true), (4, true), (5, true), (6, true)] (by kernel_rfl) fun _ hK32 => ?_
     refine dR fun _ hS => ?_; (repeat refine aI qSh2 ?_); (first | apply hS | (refine whole_yes qSh2 ?_; apply hS) | (refine whole_sub ?_; apply hS)); clear hS
     iterate 2 refine dD1 ?_
     refine dR fun _ hS => ?_; (repeat refine aI qSh2 ?_); apply hS; clear hS
     refine d_readA rfl rfl (by decide) rfl fun _ hS => ?_
     repeat refine aI qSh2 ?_
     first | refine hS _ (bytesV (l.take (76 + v))) (sl4_as hv2) ?_ | (refine ite_yes qSh2 ?_; (repeat refine aI qSh2 ?_); refine hS _ (bytesV (l.take (76 + v))) (sl4_as hv2) ?_)
     clear hS; refine d_nil ?_; apply hK32
     refine WB_all [1, 7] (by kernel_rfl) (by decide) (List.forall_mem_cons.2 ⟨?_, List.forall_mem_cons.2 ⟨?_, fun _ h => by cases h⟩⟩)
     ·refine WB_force ga_ok rfl rfl (by decide) rfl fun _ hS => ?_
      repeat first | refine aI qSh2 ?_ | refine whole_yes qSh2 ?_ | refine whole_sub ?_
      refine aI (piece_noclo _) ?_
      refine viewL_flat (piece_flat _) ?_
      refine ⟨⟨b, m, c⟩, rfl, ⟨hw, by show m.length ≤ _; omega⟩, ?_⟩
      repeat refine aI qSh2 ?_
      first | apply hS | (intro cap1 hcap1; apply hS)
      clear hS
      refine WB_run ga_ok (g := 0) (by kernel_rfl) [(2, true), (7, true), (8, true)] (by kernel_rfl) fun _ hK33 => ?_
      refine dR fun _ hS => ?_; (repeat first | refine aI qSh2 ?_ | refine whole_yes qSh2 ?_ | refine whole_sub ?_); apply hS; clear hS
      refine dR fun _ hS => ?_; (repeat first | refine aI qSh2 ?_ | refine whole_yes qSh2 ?_ | refine whole_sub ?_); apply hS; clear hS
      refine dR fun _ hS => ?_; (repeat refine aI qSh2 ?_); apply hS; clear hS; refine d_nil ?_; apply hK33
      refine WB_done (by kernel_rfl) ?_
      apply hK30
      refine WP_cond (b := _) rfl (fun h_t47 => ?_) (fun h_t47 => ?_)
      ·try simp only [dQ] at h_t47
       refine seq_k fun _ hK34 => ?_; refine region_k ga_ok fun _ hK35 => ?_
       refine s_stepA rfl (by decide) rfl fun _ hS => ?_
       repeat refine aI qSh0 ?_
       refine hS _ (pieceV noPiece) _ _ (zero_as) ?_
       clear hS
       refine sS0 fun _ hS => ?_; (repeat refine aI qSh0 ?_); (first | apply hS | (refine splice_full qSh0 ?_; apply hS)); clear hS
       refine sS1 ?_
       refine s_nil ?_; apply hK35; apply hK34
       rw [atV_none (by exact at_no hvd hbd hmd hcd hv2 (by simpa using h_t47))]
       refine WP_ret (Done_data ga_ok (fun _ _ h => h) (atV_low0 _ _) [] [.cell 2 42, .tmp 3] rfl ?_)
       repeat' (first | exact trivial | refine aI ?_ ?_ | exact cC0 | refine low_cons' ?_ ?_ | exact cC1 | fail)
       all_goals first | exact piece_to _ | (simp; done) | skip
      ·try simp only [dQ] at h_t47
       refine WP_skip ?_; apply hK29; refine seq_k fun _ hK36 => ?_; refine region_k ga_ok fun _ hK37 => ?_
       refine sS fun _ hS => ?_; (repeat refine aI qSh3 ?_); (first | apply hS | (refine whole_yes qSh3 ?_; apply hS) | (refine whole_sub ?_; apply hS)); clear hS
       refine sS1 ?_
       refine sS fun _ hS => ?_; (repeat refine aI qSh3 ?_); apply hS; clear hS
       refine sS0 fun _ hS => ?_; (repeat refine aI qSh3 ?_); (first | apply hS | (refine splice_full qSh3 ?_; apply hS)); clear hS
       refine sS1 ?_
       refine s_nil ?_; apply hK37; apply hK36
       rw [atV_some (at_yes hbl hml hcl hv1 hv2 (by simpa using h_t47))]
       refine WP_ret (Done_data ga_ok (fun _ _ h => h) (atV_low0 _ _) [] [.cell 2 42, .tmp 3] rfl ?_)
       repeat refine aI (by first | decide | (rw [pieceC_len hw]; omega)) ?_
       refine whole_yes (pieceC_len hw) ?_
       repeat' (first | exact trivial | refine aI ?_ ?_ | exact cC0 | refine low_cons' ?_ ?_ | exact cC1 | fail)
       all_goals first | exact piece_to _ | (simp; done) | skip
     ·refine WB_force ga_ok rfl rfl (by decide) rfl fun _ hS => ?_
      repeat first | refine aI qSh2 ?_ | refine whole_yes qSh2 ?_ | refine whole_sub ?_
      apply hS
      clear hS
      refine WB_run ga_ok (g := 0) (by kernel_rfl) [(1, false), (2, true), (8, true)] (by kernel_rfl) fun _ hK38 => ?_
      refine dG fun _ hS => ?_; (repeat first | refine aI qSh2 ?_ | refine whole_yes qSh2 ?_ | refine whole_sub ?_); refine aI (piece_noclo _) ?_; refine viewL_flat (piece_flat _) ?_; refine ⟨⟨b, m, c⟩, rfl, ⟨hw, by show m.length ≤ _; omega⟩, ?_⟩; (repeat refine aI qSh2 ?_); (first | apply hS | (intro cap1 hcap1; apply hS)); clear hS
      refine dR fun _ hS => ?_; (repeat first | refine aI qSh2 ?_ | refine whole_yes qSh2 ?_ | refine whole_sub ?_); apply hS; clear hS
      refine dR fun _ hS => ?_; (repeat refine aI qSh2 ?_); apply hS; clear hS; refine d_nil ?_; apply hK38
      refine WB_done (by kernel_rfl) ?_
      apply hK30
      refine WP_cond (b := _) rfl (fun h_t47 => ?_) (fun h_t47 => ?_)
      ·try simp only [dQ] at h_t47
       refine seq_k fun _ hK39 => ?_; refine region_k ga_ok fun _ hK40 => ?_
       refine s_stepA rfl (by decide) rfl fun _ hS => ?_
       repeat refine aI qSh0 ?_
       refine hS _ (pieceV noPiece) _ _ (zero_as) ?_
       clear hS
       refine sS0 fun _ hS => ?_; (repeat refine aI qSh0 ?_); (first | apply hS | (refine splice_full qSh0 ?_; apply hS)); clear hS
       refine sS1 ?_
       refine s_nil ?_; apply hK40; apply hK39
       rw [atV_none (by exact at_no hvd hbd hmd hcd hv2 (by simpa using h_t47))]
       refine WP_ret (Done_data ga_ok (fun _ _ h => h) (atV_low0 _ _) [] [.cell 2 42, .tmp 3] rfl ?_)
       repeat' (first | exact trivial | refine aI ?_ ?_ | exact cC0 | refine low_cons' ?_ ?_ | exact cC1 | fail)
       all_goals first | exact piece_to _ | (simp; done) | skip
      ·try simp only [dQ] at h_t47
       refine WP_skip ?_; apply hK29; refine seq_k fun _ hK41 => ?_; refine region_k ga_ok fun _ hK42 => ?_
       refine sS fun _ hS => ?_; (repeat refine aI qSh3 ?_); (first | apply hS | (refine whole_yes qSh3 ?_; apply hS) | (refine whole_sub ?_; apply hS)); clear hS
       refine sS1 ?_
       refine sS fun _ hS => ?_; (repeat refine aI qSh3 ?_); apply hS; clear hS
       refine sS0 fun _ hS => ?_; (repeat refine aI qSh3 ?_); (first | apply hS | (refine splice_full qSh3 ?_; apply hS)); clear hS
       refine sS1 ?_
       refine s_nil ?_; apply hK42; apply hK41
       rw [atV_some (at_yes hbl hml hcl hv1 hv2 (by simpa using h_t47))]
       refine WP_ret (Done_data ga_ok (fun _ _ h => h) (atV_low0 _ _) [] [.cell 2 42, .tmp 3] rfl ?_)
       repeat refine aI (by first | decide | (rw [pieceC_len hw]; omega)) ?_
       refine whole_yes (pieceC_len hw) ?_
       repeat' (first | exact trivial | refine aI ?_ ?_ | exact cC0 | refine low_cons' ?_ ?_ | exact cC1 | fail)
       all_goals first | exact piece_to _ | (simp; done) | skip


end Go.Proofs.YtnhmglhbhnhnhaaDoor

namespace Go.Proofs.YtnhmglhbhnhnhaaDoor
set_option linter.unusedVariables false
open Go.Ab Go.RowKit

theorem qSi0 {a : Prop} (h : a := by first | exact vcA | (simp <;> omega) | exact vcB) : a := h
theorem qSi1 {a : Prop} (h : a := by first | exact vcA | (simp <;> omega) | exact (pieceC_len hs).symm | exact (pieceC_len ht).symm | exact pieceC_len hs | exact pieceC_len ht | exact pieceC_solid _ | (rw [pieceC_len hs]; omega) | (rw [pieceC_len ht]; omega) | exact hs.1 | exact hs.2 | exact ht.1 | exact ht.2 | exact hs.1.trans ht.1.symm | exact hs.2.trans ht.2.symm | exact vcB) : a := h
theorem qSi2 {a : Prop} (h : a := by first | exact vcA | (simp <;> omega) | (show 0 < (_ : Nat); omega) | exact hl1 | exact hl2 | exact hl1.symm | exact hl2.symm | (show _ ≤ (pcl ps).length; omega) | (show _ ≤ (pcl qs).length; omega) | (show _ < (pcl ps).length; omega) | (show _ < (pcl qs).length; omega) | exact vcB) : a := h
theorem uSi0 {a : Prop} (h : a := by
    repeat' (first | exact trivial | refine aI ?_ ?_ | exact cC0 | refine low_cons' ?_ ?_ | exact cC1 | fail)) : a := h

open Go.Sto
theorem piece_ext {s t : Piece} : s = t ↔ s.key = t.key ∧ s.seal' = t.seal' ∧ s.b = t.b := by
  constructor
  · rintro rfl; exact ⟨rfl, rfl, rfl⟩
  · rintro ⟨h1, h2, h3⟩
    cases s; cases t
    simp only at h1 h2 h3
    subst h1; subst h2; subst h3
    rfl
instance : DecidableEq Piece := fun s t => decidable_of_iff _ piece_ext.symm
theorem disk0_as : SV.as (.agg (.cells [.nils, .int .i64 0])) (diskV ([], 0)) := as_mid (A := []) (B := [.int .i64 0]) Cell.as_nil
theorem disk_low {n : Nat} (d : Disk) : (diskV d).low n := fun y hy => by
  rcases List.mem_cons.1 hy with rfl | hy
  · trivial
  · rw [List.mem_singleton.1 hy]; trivial
def pieceL (s : Piece) : List Cell := s.key.map Cell.u8 ++ [.ds s.b.length (.u8s s.b)] ++ s.seal'.map Cell.u8
def pcl (ps : List Piece) : List Cell := (ps.map pieceL).flatten
abbrev pcells (ps : List Piece) : Cont := .cells (pcl ps)
abbrev psV (ps : List Piece) : SV := .c (.ds ps.length (pcells ps))
def allWf (ps : List Piece) : Prop := ∀ s ∈ ps, Piece.wf s
theorem pieceL_len {s : Piece} (h : Piece.wf s) : (pieceL s).length = 65 := pieceC_len h
theorem pcl_len : ∀ {ps : List Piece}, allWf ps → (pcl ps).length = ps.length * 65
  | [], _ => rfl
  | s :: ps, h => by
    rw [pcl, List.map_cons, List.flatten_cons, List.length_append, pieceL_len (h s List.mem_cons_self), ← pcl, pcl_len fun x hx => h x (List.mem_cons_of_mem _ hx), List.length_cons]
    omega
theorem pcl_app (a b : List Piece) : pcl (a ++ b) = pcl a ++ pcl b := by simp [pcl]
theorem pcl_one (s : Piece) : pcl [s] = pieceL s := by simp [pcl]
theorem pcl_at : ∀ {ps : List Piece}, allWf ps → ∀ {i : Nat} {s : Piece}, ps[i]? = some s → ((pcl ps).drop (i * 65)).take 65 = pieceL s
  | [], _, i, s, e => by simp at e
  | t :: ps, h, 0, s, e => by
    obtain rfl : t = s := by simpa using e
    have hl := pieceL_len (h t List.mem_cons_self)
    rw [Nat.zero_mul, List.drop_zero, pcl, List.map_cons, List.flatten_cons, List.take_left' hl]
  | t :: ps, h, i + 1, s, e => by
    have hl := pieceL_len (h t List.mem_cons_self)
    rw [pcl, List.map_cons, List.flatten_cons, show (i + 1) * 65 = (pieceL t).length + i * 65 by omega, List.drop_length_add_append]
    exact pcl_at (fun x hx => h x (List.mem_cons_of_mem _ hx)) (by simpa using e)
theorem pcl_sub {ps : List Piece} (h : allWf ps) {i : Nat} {s : Piece} (e : ps[i]? = some s) : SV.as (.agg ((pcells ps).sub (i * 65) 65)) (pieceV s) := as_eq (congrArg (fun x => SV.agg (.cells x)) (pcl_at h e))
theorem pcl_low {ps : List Piece} {n : Nat} : (pcells ps).low n := fun x hx => by
  obtain ⟨l, hl, hx⟩ := List.mem_flatten.1 hx
  obtain ⟨s, _, rfl⟩ := List.mem_map.1 hl
  exact pieceC_low (s := s) x hx
theorem pcl_isD : ∀ ps : List Piece, (pcells ps).isD
  | [] => trivial
  | s :: ps => allD_app (pieceC_isD s) (pcl_isD ps)
theorem pcl_solid : ∀ ps : List Piece, (pcells ps).solid
  | [] => trivial
  | s :: ps => solid_app (pieceC_solid s) (pcl_solid ps)
theorem pcl_to {tf : Nat → Ty} {H : Heap} {is : List Nat} {ρ : Nat → Nat} : ∀ ps : List Piece, (pcells ps).to tf H is ρ (pcells ps)
  | [] => trivial
  | s :: ps => allTo_app (piece_to s) (pcl_to ps)
def sameS : QSpec := fun vs K => ∃ d e : Disk, vs = [diskV d, diskV e] ∧ (d.1.length ≤ 9223372036854775807 ∧ e.1.length ≤ 9223372036854775807) ∧ K (.c (.bool (decide (d = e))))
theorem same_ok : FlatOK Tryd.prog gl 20 sameS := by
 refine flat_of (Γ := g0) (N := 19) Tryd.func20 rfl rfl fun vs K h => ?_
 obtain ⟨d, e, rfl, ⟨hd, he⟩, h⟩ := h
 refine ⟨_, h, rfl, by simp, fun w I => ?_⟩
 refine seq_k fun _ hK1 => ?_; refine region_k g0_ok fun _ hK2 => ?_
 refine sS fun _ hS => ?_; (repeat refine aI qSi0 ?_); apply hS; clear hS
 refine sS fun _ hS => ?_; (repeat refine aI qSi0 ?_); apply hS; clear hS
 refine sS1 ?_
 refine s_nil ?_; apply hK2; apply hK1; refine seq_k fun _ hK3 => ?_; refine region_k g0_ok fun _ hK4 => ?_
 refine sS fun _ hS => ?_; (repeat refine aI qSi0 ?_); apply hS; clear hS
 refine sS fun _ hS => ?_; (repeat refine aI qSi0 ?_); (first | apply hS | (refine whole_yes qSi0 ?_; apply hS) | (refine whole_sub ?_; apply hS)); clear hS
 refine sS fun _ hS => ?_; (repeat first | refine aI qSi0 ?_ | refine whole_yes qSi0 ?_ | refine whole_sub ?_); apply hS; clear hS
 refine sS fun _ hS => ?_; (repeat refine aI qSi0 ?_); apply hS; clear hS
 refine sS fun _ hS => ?_; (repeat refine aI qSi0 ?_); (first | apply hS | (refine whole_yes qSi0 ?_; apply hS) | (refine whole_sub ?_; apply hS)); clear hS
 refine sS fun _ hS => ?_; (repeat first | refine aI qSi0 ?_ | refine whole_yes qSi0 ?_ | refine whole_sub ?_); apply hS; clear hS
 refine sS fun _ hS => ?_; (repeat refine aI qSi0 ?_); apply hS; clear hS
 refine sS fun _ hS => ?_
 refine s_split hS (fun hb7 => ?_) (fun hb7 => ?_)
 ·clear hS
  try simp only [dQ] at hb7
  refine sT fun _ hS => ?_; (repeat refine aI qSi0 ?_); apply hS; clear hS
  refine sT fun _ hS => ?_; (repeat refine aI qSi0 ?_); (first | apply hS | (refine whole_yes qSi0 ?_; apply hS) | (refine whole_sub ?_; apply hS)); clear hS
  refine sT fun _ hS => ?_; (repeat refine aI qSi0 ?_); apply hS; clear hS
  refine sT fun _ hS => ?_; (repeat refine aI qSi0 ?_); (first | apply hS | (refine whole_yes qSi0 ?_; apply hS) | (refine whole_sub ?_; apply hS)); clear hS
  refine sT fun _ hS => ?_; (repeat refine aI qSi0 ?_); apply hS; clear hS
  iterate 2 refine sS1 ?_
  refine s_nil ?_; apply hK4; apply hK3
  refine WP_ret (Done_flat g0_ok (fun _ _ h => h) (by first | rfl | assumption) [.tmp 4] rfl ?_)
  repeat refine aI (by first | omega | exact trivial | rfl | (simp <;> omega)) ?_
  try refine ite_yes (by first | omega | exact trivial | rfl | (simp <;> omega)) ?_
  show SV.c (.bool _) = SV.c (.bool _)
  congr 2
  obtain ⟨d1, d2⟩ := d
  obtain ⟨e1, e2⟩ := e
  rw [show decide ((d1, d2) = (e1, e2)) = (decide (d1 = e1) && decide (d2 = e2)) by simp]
  first | (rw [if_pos rfl, decide_eq_true (show d1 = e1 from hb7), Bool.true_and]) | (rw [decide_eq_false (show ¬ d1 = e1 from hb7), Bool.false_and])
 ·clear hS
  try simp only [dQ] at hb7
  refine sN ?_; refine sN ?_; refine sN ?_; refine sN ?_; refine sN ?_
  iterate 2 refine sS1 ?_
  refine s_nil ?_; apply hK4; apply hK3
  refine WP_ret (Done_flat g0_ok (fun _ _ h => h) (by first | rfl | assumption) [.tmp 4] rfl ?_)
  repeat refine aI (by first | omega | exact trivial | rfl | (simp <;> omega)) ?_
  try refine ite_yes (by first | omega | exact trivial | rfl | (simp <;> omega)) ?_
  show SV.c (.bool _) = SV.c (.bool _)
  congr 2
  obtain ⟨d1, d2⟩ := d
  obtain ⟨e1, e2⟩ := e
  rw [show decide ((d1, d2) = (e1, e2)) = (decide (d1 = e1) && decide (d2 = e2)) by simp]
  first | (rw [if_pos rfl, decide_eq_true (show d1 = e1 from hb7), Bool.true_and]) | (rw [decide_eq_false (show ¬ d1 = e1 from hb7), Bool.false_and])

def samePieceS : QSpec := fun vs K => ∃ s t : Piece, vs = [pieceV s, pieceV t] ∧ (Piece.wf s ∧ Piece.wf t ∧ s.b.length ≤ 9223372036854775807 ∧ t.b.length ≤ 9223372036854775807) ∧ K (.c (.bool (decide (s = t))))
set_option maxHeartbeats 1000000 in
theorem samePiece_ok : FlatOK Tryd.prog gl 21 samePieceS := by
 refine flat_of (Γ := g0) (N := 26) Tryd.func21 rfl rfl fun vs K h => ?_
 obtain ⟨s, t, rfl, ⟨hs, ht, hbs, hbt⟩, h⟩ := h
 refine ⟨_, h, rfl, by simp, fun w I => ?_⟩
 refine seq_k fun _ hK1 => ?_; refine region_k g0_ok fun _ hK2 => ?_
 refine sS fun _ hS => ?_; (repeat refine aI qSi1 ?_); apply hS; clear hS
 refine sS fun _ hS => ?_; (repeat refine aI qSi1 ?_); apply hS; clear hS
 refine sS1 ?_
 refine s_nil ?_; apply hK2; apply hK1; refine seq_k fun _ hK3 => ?_; refine region_k g0_ok fun _ hK4 => ?_
 refine sS fun _ hS => ?_; (repeat refine aI qSi1 ?_); apply hS; clear hS
 refine s_stepA rfl (by decide) rfl fun _ hS => ?_
 repeat refine aI qSi1 ?_
 first | refine hS _ (.agg (.u8s s.key)) _ _ (SV.as_agg (piece_key hs)) ?_ | (refine whole_yes qSi1 ?_; refine hS _ (.agg (.u8s s.key)) _ _ (SV.as_agg (piece_key hs)) ?_) | (refine whole_sub ?_; refine hS _ (.agg (.u8s s.key)) _ _ (SV.as_agg (piece_key hs)) ?_)
 clear hS
 refine sS fun _ hS => ?_; (repeat refine aI qSi1 ?_); apply hS; clear hS
 refine s_stepA rfl (by decide) rfl fun _ hS => ?_
 repeat refine aI qSi1 ?_
 first | refine hS _ (.agg (.u8s t.key)) _ _ (SV.as_agg (piece_key ht)) ?_ | (refine whole_yes qSi1 ?_; refine hS _ (.agg (.u8s t.key)) _ _ (SV.as_agg (piece_key ht)) ?_) | (refine whole_sub ?_; refine hS _ (.agg (.u8s t.key)) _ _ (SV.as_agg (piece_key ht)) ?_)
 clear hS
 refine sS fun _ hS => ?_; (repeat refine aI qSi1 ?_); apply hS; clear hS
 refine sS fun _ hS => ?_
 refine s_split hS (fun hb5 => ?_) (fun hb5 => ?_)
 ·clear hS
  try simp only [dQ] at hb5
  refine sT fun _ hS => ?_; (repeat refine aI qSi1 ?_); apply hS; clear hS
  refine s_guardA (b := true) rfl (by decide) rfl rfl (fun _ _ hS => ?_) (fun e => absurd e (by decide))
  repeat refine aI qSi1 ?_
  first | refine hS _ (.agg (.u8s s.seal')) _ _ (SV.as_agg (piece_seal hs)) ?_ | (refine whole_yes qSi1 ?_; refine hS _ (.agg (.u8s s.seal')) _ _ (SV.as_agg (piece_seal hs)) ?_) | (refine whole_sub ?_; refine hS _ (.agg (.u8s s.seal')) _ _ (SV.as_agg (piece_seal hs)) ?_)
  clear hS
  refine sT fun _ hS => ?_; (repeat refine aI qSi1 ?_); apply hS; clear hS
  refine s_guardA (b := true) rfl (by decide) rfl rfl (fun _ _ hS => ?_) (fun e => absurd e (by decide))
  repeat refine aI qSi1 ?_
  first | refine hS _ (.agg (.u8s t.seal')) _ _ (SV.as_agg (piece_seal ht)) ?_ | (refine whole_yes qSi1 ?_; refine hS _ (.agg (.u8s t.seal')) _ _ (SV.as_agg (piece_seal ht)) ?_) | (refine whole_sub ?_; refine hS _ (.agg (.u8s t.seal')) _ _ (SV.as_agg (piece_seal ht)) ?_)
  clear hS
  refine sT fun _ hS => ?_; (repeat refine aI qSi1 ?_); apply hS; clear hS
  refine sS1 ?_
  refine sS fun _ hS => ?_
  refine s_split hS (fun hb12 => ?_) (fun hb12 => ?_)
  ·clear hS
   try simp only [dQ, if_true] at hb12
   refine sT fun _ hS => ?_; (repeat refine aI qSi1 ?_); apply hS; clear hS
   refine s_guardA (b := true) rfl (by decide) rfl rfl (fun _ _ hS => ?_) (fun e => absurd e (by decide))
   repeat refine aI qSi1 ?_
   first | refine hS _ (bytesV s.b) _ _ (as_eq (congrArg SV.c (piece_b hs))) ?_ | (refine whole_yes qSi1 ?_; refine hS _ (bytesV s.b) _ _ (as_eq (congrArg SV.c (piece_b hs))) ?_) | (refine whole_sub ?_; refine hS _ (bytesV s.b) _ _ (as_eq (congrArg SV.c (piece_b hs))) ?_)
   clear hS
   refine sT fun _ hS => ?_; (repeat first | refine aI qSi1 ?_ | refine whole_yes qSi1 ?_ | refine whole_sub ?_); apply hS; clear hS
   refine sT fun _ hS => ?_; (repeat refine aI qSi1 ?_); apply hS; clear hS
   refine s_guardA (b := true) rfl (by decide) rfl rfl (fun _ _ hS => ?_) (fun e => absurd e (by decide))
   repeat refine aI qSi1 ?_
   first | refine hS _ (bytesV t.b) _ _ (as_eq (congrArg SV.c (piece_b ht))) ?_ | (refine whole_yes qSi1 ?_; refine hS _ (bytesV t.b) _ _ (as_eq (congrArg SV.c (piece_b ht))) ?_) | (refine whole_sub ?_; refine hS _ (bytesV t.b) _ _ (as_eq (congrArg SV.c (piece_b ht))) ?_)
   clear hS
   refine sT fun _ hS => ?_; (repeat first | refine aI qSi1 ?_ | refine whole_yes qSi1 ?_ | refine whole_sub ?_); apply hS; clear hS
   refine sT fun _ hS => ?_; (repeat refine aI qSi1 ?_); apply hS; clear hS
   iterate 2 refine sS1 ?_
   refine s_nil ?_; apply hK4; apply hK3
   refine WP_ret (Done_flat g0_ok (fun _ _ h => h) (by first | rfl | assumption) [.tmp 4] rfl ?_)
   repeat refine aI (by first | omega | exact trivial | rfl | (simp <;> omega)) ?_
   try refine ite_yes (by first | omega | exact trivial | rfl | (simp <;> omega)) ?_
   show SV.c (.bool _) = SV.c (.bool _)
   congr 2
   rw [show decide (s = t) = (decide (s.key = t.key) && (decide (s.seal' = t.seal') && decide (s.b = t.b))) by rw [Bool.eq_iff_iff]; simp [piece_ext]]
   first | (rw [if_pos rfl, decide_eq_true hb5, decide_eq_true hb12, Bool.true_and, Bool.true_and]) | (rw [decide_eq_true hb5, decide_eq_false hb12]; rfl) | (rw [decide_eq_false hb5]; rfl)
  ·clear hS
   try simp only [dQ, if_true] at hb12
   refine sN ?_; refine sN ?_; refine sN ?_; refine sN ?_; refine sN ?_; refine sN ?_; refine sN ?_
   iterate 2 refine sS1 ?_
   refine s_nil ?_; apply hK4; apply hK3
   refine WP_ret (Done_flat g0_ok (fun _ _ h => h) (by first | rfl | assumption) [.tmp 4] rfl ?_)
   repeat refine aI (by first | omega | exact trivial | rfl | (simp <;> omega)) ?_
   try refine ite_yes (by first | omega | exact trivial | rfl | (simp <;> omega)) ?_
   show SV.c (.bool _) = SV.c (.bool _)
   congr 2
   rw [show decide (s = t) = (decide (s.key = t.key) && (decide (s.seal' = t.seal') && decide (s.b = t.b))) by rw [Bool.eq_iff_iff]; simp [piece_ext]]
   first | (rw [if_pos rfl, decide_eq_true hb5, decide_eq_true hb12, Bool.true_and, Bool.true_and]) | (rw [decide_eq_true hb5, decide_eq_false hb12]; rfl) | (rw [decide_eq_false hb5]; rfl)
 ·clear hS
  try simp only [dQ] at hb5
  refine sN ?_; refine sN ?_; refine sN ?_; refine sN ?_; refine sN ?_
  refine sS1 ?_
  refine sS fun _ hS => ?_
  refine s_split hS (fun hb12 => ?_) (fun hb12 => ?_)
  ·exfalso; simp at hb12
  clear hS; refine sN ?_; refine sN ?_; refine sN ?_; refine sN ?_; refine sN ?_; refine sN ?_; refine sN ?_
  iterate 2 refine sS1 ?_
  refine s_nil ?_; apply hK4; apply hK3
  refine WP_ret (Done_flat g0_ok (fun _ _ h => h) (by first | rfl | assumption) [.tmp 4] rfl ?_)
  repeat refine aI (by first | omega | exact trivial | rfl | (simp <;> omega)) ?_
  try refine ite_yes (by first | omega | exact trivial | rfl | (simp <;> omega)) ?_
  show SV.c (.bool _) = SV.c (.bool _)
  congr 2
  rw [show decide (s = t) = (decide (s.key = t.key) && (decide (s.seal' = t.seal') && decide (s.b = t.b))) by rw [Bool.eq_iff_iff]; simp [piece_ext]]
  first | (rw [if_pos rfl, decide_eq_true hb5, decide_eq_true hb12, Bool.true_and, Bool.true_and]) | (rw [decide_eq_true hb5, decide_eq_false hb12]; rfl) | (rw [decide_eq_false hb5]; rfl)

noncomputable def gt : Ctx := { P := Tryd.prog, ty := ty, glob := gl, fs := [(21, .flat samePieceS)] }
theorem gt_ok : gt.OK := ⟨tyOK, ⟨⟨enters_mk Tryd.func21 (by kernel_rfl) rfl, samePiece_ok⟩, trivial⟩, mixed⟩
@[simp] theorem gt_ty : gt.ty = ty := rfl

def samePiecesS : QSpec := fun vs K => ∃ ps qs : List Piece, vs = [psV ps, psV qs] ∧ (allWf ps ∧ allWf qs ∧ ps.length ≤ 1000000 ∧ qs.length ≤ 1000000 ∧ (∀ s ∈ ps, s.b.length ≤ 9223372036854775807) ∧ ∀ s ∈ qs, s.b.length ≤ 9223372036854775807) ∧ K (.c (.bool (decide (ps = qs))))
set_option maxHeartbeats 1000000 in
theorem samePieces_ok : FlatOK Tryd.prog gl 22 samePiecesS := by
 refine flat_of (Γ := gt) (N := 27) Tryd.func22 rfl rfl fun vs K h => ?_
 obtain ⟨ps, qs, rfl, ⟨hps, hqs, hn, hm, hbs, hbt⟩, h⟩ := h
 refine ⟨_, h, rfl, by simp, fun w I => ?_⟩
 refine seq_k fun _ hK1 => ?_; refine region_k gt_ok fun _ hK2 => ?_
 refine sS1 ?_
 refine s_nil ?_; apply hK2; apply hK1; refine seq_k fun _ hK3 => ?_; refine seq_k fun _ hK4 => ?_; refine region_k gt_ok fun _ hK5 => ?_
 refine sS1 ?_
 refine sS fun _ hS => ?_; (repeat refine aI qSi0 ?_); apply hS; clear hS
 refine sS1 ?_
 refine sS fun _ hS => ?_; (repeat refine aI qSi0 ?_); apply hS; clear hS
 refine sS fun _ hS => ?_; (repeat refine aI qSi0 ?_); apply hS; clear hS; refine s_nil ?_; apply hK5; apply hK4
 refine WP_cond (b := _) rfl (fun h_t10 => ?_) (fun h_t10 => ?_)
 ·try simp only [dQ] at h_t10
  refine seq_k fun _ hK6 => ?_; refine region_k gt_ok fun _ hK7 => ?_
  refine sS1 ?_
  refine s_nil ?_; apply hK7; apply hK6
  refine WP_ret (Done_flat gt_ok (fun _ _ h => h) (by first | rfl | assumption) [.tmp 4] rfl ?_)
  repeat refine aI (by first | omega | exact trivial | rfl | (simp <;> omega)) ?_
  try refine ite_yes (by first | omega | exact trivial | rfl | (simp <;> omega)) ?_
  show SV.c (.bool false) = _
  rw [decide_eq_false (fun e => h_t10 (by rw [e]))]
 ·try simp only [dQ] at h_t10
  refine WP_skip ?_; apply hK3; refine seq_k fun _ hK8 => ?_; refine seq_k fun _ hK9 => ?_; refine region_k gt_ok fun _ hK10 => ?_
  refine sS1 ?_
  refine s_nil ?_; apply hK10; apply hK9; refine WP_block ?_
  have hl : ps.length = qs.length := by omega
  refine WP_loop (α := Nat) (fun k => [(0, psV ps), (1, psV qs), (5, .c (.int .i64 k))]) (fun k => []) 0 (fun k => k ≤ ps.length ∧ ps.take k = qs.take k) (fun k => ps.length - k) ?_ ?_
  ·refine dnS [] id 0 ⟨Nat.zero_le _, rfl⟩ [] ?_ ?_ ?_ ?_
   ·exact uSi0
   ·exact uSi0
   ·exact uSi0
   ·exact uSi0
  ·intro k hk
   refine seq_k fun _ hK11 => ?_; refine seq_k fun _ hK12 => ?_; refine region_k gt_ok fun _ hK13 => ?_
   iterate 2 refine sS1 ?_
   refine sS fun _ hS => ?_; (repeat refine aI qSi0 ?_); apply hS; clear hS
   refine sS fun _ hS => ?_; (repeat refine aI qSi0 ?_); apply hS; clear hS; refine s_nil ?_; apply hK13; apply hK12
   refine WP_cond (b := _) rfl (fun h_t14 => ?_) (fun h_t14 => ?_)
   ·try simp only [dQ] at h_t14
    refine WP_skip ?_; apply hK11; refine seq_k fun _ hK14 => ?_; refine WP_block ?_; refine seq_k fun _ hK15 => ?_
    have hkl : k < ps.length := by omega
    obtain ⟨s, hks⟩ : ∃ s, ps[k]? = some s := ⟨_, List.getElem?_eq_getElem hkl⟩
    obtain ⟨t, hkt⟩ : ∃ t, qs[k]? = some t := ⟨_, List.getElem?_eq_getElem (by omega)⟩
    have hs := hps s (List.mem_of_getElem? hks)
    have ht := hqs t (List.mem_of_getElem? hkt)
    have hl1 := pcl_len hps
    have hl2 := pcl_len hqs
    refine quiet_k gt_ok (by kernel_rfl) fun _ hK16 => ?_
    iterate 2 refine qQ1 ?_
    refine qS fun _ hS => ?_; (repeat refine aI qSi2 ?_); apply hS; clear hS
    refine q_stepA rfl (by decide) rfl fun _ hS => ?_
    repeat refine aI qSi2 ?_
    first | refine hS _ (pieceV s) (pcl_sub hps hks) ?_ | (refine whole_yes qSi2 ?_; refine hS _ (pieceV s) (pcl_sub hps hks) ?_) | (refine whole_sub ?_; refine hS _ (pieceV s) (pcl_sub hps hks) ?_)
    clear hS
    iterate 2 refine qQ1 ?_
    refine qS fun _ hS => ?_; (repeat refine aI qSi2 ?_); apply hS; clear hS
    refine q_stepA rfl (by decide) rfl fun _ hS => ?_
    repeat refine aI qSi2 ?_
    first | refine hS _ (pieceV t) (pcl_sub hqs hkt) ?_ | (refine whole_yes qSi2 ?_; refine hS _ (pieceV t) (pcl_sub hqs hkt) ?_) | (refine whole_sub ?_; refine hS _ (pieceV t) (pcl_sub hqs hkt) ?_)
    clear hS
    refine qS fun _ hS => ?_; (repeat first | refine aI qSi2 ?_ | refine whole_yes qSi2 ?_ | refine whole_sub ?_); refine aI (piece_noclo _) ?_; refine viewL_flat (piece_flat _) ?_; refine aI (piece_noclo _) ?_; refine viewL_flat (piece_flat _) ?_; refine ⟨s, t, rfl, ⟨hs, ht, hbs s (List.mem_of_getElem? hks), hbt t (List.mem_of_getElem? hkt)⟩, ?_⟩; (repeat refine aI qSi2 ?_); (first | apply hS | (intro cap8 hcap8; apply hS)); clear hS
    refine qQ1 ?_
    refine q_nil ?_; apply hK16; apply hK15
    refine WP_cond (b := _) rfl (fun h_t26 => ?_) (fun h_t26 => ?_)
    ·simp only [Bool.not_eq_true', decide_eq_false_iff_not] at h_t26
     refine seq_k fun _ hK17 => ?_; refine region_k gt_ok fun _ hK18 => ?_
     refine sS1 ?_
     refine s_nil ?_; apply hK18; apply hK17
     refine WP_ret (Done_flat gt_ok (fun _ _ h => h) (by first | rfl | assumption) [.tmp 4] rfl ?_)
     repeat refine aI (by first | omega | exact trivial | rfl | (simp <;> omega)) ?_
     try refine ite_yes (by first | omega | exact trivial | rfl | (simp <;> omega)) ?_
     show SV.c (.bool false) = _
     rw [decide_eq_false (fun e => h_t26 (by subst e; rw [hks] at hkt; exact Option.some.inj hkt))]
    ·simp only [Bool.not_eq_false', decide_eq_true_eq] at h_t26
     refine WP_skip ?_; refine done_block ?_; apply hK14; refine region_k gt_ok fun _ hK19 => ?_
     refine sS1 ?_
     refine sS fun _ hS => ?_; (repeat refine aI qSi0 ?_); apply hS; clear hS
     refine sS1 ?_
     refine s_nil ?_; apply hK19
     refine dnS [] id (k + 1) ⟨⟨by omega, by rw [List.take_add_one, List.take_add_one, hks, hkt, hk.2, h_t26]⟩, by omega⟩ [] ?_ ?_ ?_ ?_
     ·exact uSi0
     ·exact uSi0
     ·exact uSi0
     ·exact uSi0
   ·try simp only [dQ] at h_t14
    refine WP_exit ?_; refine done_thenx ?_; refine done_thenx ?_
    refine Done_hit ?_
    apply hK8; refine seq_k fun _ hK20 => ?_; refine region_k gt_ok fun _ hK21 => ?_
    refine sS1 ?_
    refine s_nil ?_; apply hK21; apply hK20
    refine WP_ret (Done_flat gt_ok (fun _ _ h => h) (by first | rfl | assumption) [.tmp 4] rfl ?_)
    repeat refine aI (by first | omega | exact trivial | rfl | (simp <;> omega)) ?_
    try refine ite_yes (by first | omega | exact trivial | rfl | (simp <;> omega)) ?_
    obtain rfl : k = ps.length := by omega
    show SV.c (.bool true) = _
    rw [decide_eq_true (take_eq_all hk.2 (Nat.le_refl _) (by omega))]


end Go.Proofs.YtnhmglhbhnhnhaaDoor

namespace Go.Proofs.YtnhmglhbhnhnhaaDoor
set_option linter.unusedVariables false
open Go.Ab Go.RowKit

theorem qSj0 {a : Prop} (h : a := by first | exact vcA | (simp <;> omega) | exact vcB) : a := h
theorem qSj1 {a : Prop} (h : a := by first | exact vcA | (simp <;> omega) | exact inR_i64.mpr ⟨by omega, by omega⟩ | exact ⟨by omega, by omega, trivial⟩ | (show _ < List.length _; rw [List.length_take]; omega) | exact ⟨by omega, by rw [List.length_take]; omega⟩ | exact vcB) : a := h

open Go.Sto
def dok (d : Disk) : Prop := d.1.length ≤ 900000 ∧ -9223372036854775808 ≤ d.2 ∧ d.2 ≤ 9223372036854775807
theorem sync_no {d : Disk} (h : dvalid d = false) : syncL d = ([], 0) := by rw [syncL, if_neg (by rw [h]; decide)]
theorem sync_yes {d : Disk} (h : dvalid d = true) : syncL d = (d.1, ((d.1.length : Nat) : Int)) := by rw [syncL, if_pos h]
theorem dvalid_iff {d : Disk} (h : dvalid d = true) : 0 ≤ d.2 ∧ d.2 ≤ d.1.length := by simpa [dvalid] using h
theorem crash_no {d : Disk} {k a : Int} {b : UInt8} (h : dvalid d = false) : crashL d k a b = ([], 0) := by rw [crashL, if_neg (by rw [h]; decide)]
theorem crash_yes {d : Disk} {k a : Int} {b : UInt8} (h : dvalid d = true) (h0 : 0 ≤ a) (h1 : a < keepN d k) : crashL d k a b = ((d.1.take (d.2 + keepN d k).toNat).set (d.2 + a).toNat b, ((((d.1.take (d.2 + keepN d k).toNat).set (d.2 + a).toNat b).length : Nat) : Int)) := by
  rw [crashL, if_pos h, crashB, if_pos ⟨h0, h1⟩]
theorem crash_plain {d : Disk} {k a : Int} {b : UInt8} (h : dvalid d = true) (h1 : ¬ (0 ≤ a ∧ a < keepN d k)) : crashL d k a b = (d.1.take (d.2 + keepN d k).toNat, (((d.1.take (d.2 + keepN d k).toNat).length : Nat) : Int)) := by
  rw [crashL, if_pos h, crashB, if_neg h1]
theorem keep_bounds {d : Disk} {k : Int} (h : dvalid d = true) : 0 ≤ keepN d k ∧ d.2 + keepN d k ≤ d.1.length := by
  have := dvalid_iff h
  simp only [keepN]; omega
theorem max_as (k : Int) : SV.as (.c (.int .i64 (if k < 0 then 0 else k))) (.c (.int .i64 (max k 0))) := as_eq (by congr 2; split <;> omega)
theorem min_as {d : Disk} {k : Int} : SV.as (.c (.int .i64 (if (d.1.length : Int) - d.2 < max k 0 then (d.1.length : Int) - d.2 else max k 0))) (.c (.int .i64 (keepN d k))) := as_eq (by congr 2; simp only [keepN]; split <;> omega)
theorem takeI_as {l : List UInt8} {t : Int} (h0 : 0 ≤ t) (h : t ≤ l.length) : SV.as (.c (.ds t.toNat ((Cont.u8s l).take (t.toNat * 1)))) (bytesV (l.take t.toNat)) := by
  refine as_dsE (a := l.take (t.toNat * 1)) ?_ ?_
  · rw [List.length_take]; omega
  · rw [Nat.mul_one]
abbrev crV (k a : Int) (b : UInt8) : SV := .agg (.cells [.int .i64 k, .int .i64 a, .u8 b])
def newS : QSpec := fun vs K => vs = [] ∧ K (diskV ([], 0))
theorem new_ok : DataOK Tryd.prog gl 32 newS := by
 refine data_of (Γ := g0) (N := 2) Tryd.func32 rfl rfl fun vs K h => ?_
 obtain ⟨rfl, h⟩ := h
 refine ⟨_, h, disk_low _, by simp, fun w I => ?_⟩
 refine seq_k fun _ hK1 => ?_; refine region_k g0_ok fun _ hK2 => ?_
 refine sS fun _ hS => ?_; (repeat refine aI qSj0 ?_); apply hS; clear hS; refine s_nil ?_; apply hK2; apply hK1; refine seq_k fun _ hK3 => ?_; refine region_k g0_ok fun _ hK4 => ?_
 refine s_stepA rfl (by decide) rfl fun _ hS => ?_
 repeat refine aI qSj0 ?_
 refine hS _ (diskV ([], 0)) _ _ (disk0_as) ?_
 clear hS
 refine sS0 fun _ hS => ?_; (repeat refine aI qSj0 ?_); (first | apply hS | (refine splice_full qSj0 ?_; apply hS)); clear hS; refine s_nil ?_; apply hK4; apply hK3
 refine WP_ret (Done_data g0_ok (fun _ _ h => h) (disk_low _) [] [.cell 0 37] rfl ?_)
 repeat' (first | exact trivial | refine aI ?_ ?_ | exact cC0 | refine low_cons' ?_ ?_ | exact cC1 | fail)
 all_goals first | (show 0 + _ * 1 ≤ List.length _; simp; done) | exact (if_pos ⟨rfl, (by show List.length _ = _; simp)⟩).symm | exact Nat.one_pos | (simp; done) | (simp; omega) | skip

noncomputable def gd : Ctx := { P := Tryd.prog, ty := ty, glob := gl, fs := [(34, .flat validS), (43, .own cloneS)] }
theorem gd_ok : gd.OK := ⟨tyOK, ⟨⟨enters_mk Tryd.func34 (by kernel_rfl) rfl, valid_ok⟩, ⟨enters_mk Tryd.func43 (by kernel_rfl) rfl, clone_ok⟩, trivial⟩, mixed⟩
@[simp] theorem gd_ty : gd.ty = ty := rfl

noncomputable def ge : Ctx := { P := Tryd.prog, ty := ty, glob := gl, fs := [(39, .flat validRS)] }
theorem ge_ok : ge.OK := ⟨tyOK, ⟨⟨enters_mk Tryd.func39 (by kernel_rfl) rfl, validR_ok⟩, trivial⟩, mixed⟩
@[simp] theorem ge_ty : ge.ty = ty := rfl

def syncS : QSpec := fun vs K => ∃ d : Disk, vs = [diskV d] ∧ dok d ∧ K (diskV (syncL d))
set_option maxHeartbeats 400000 in
theorem sync_ok : DataOK Tryd.prog gl 23 syncS := by
 refine data_of (Γ := gd) (N := 14) Tryd.func23 rfl rfl fun vs K h => ?_
 obtain ⟨d, rfl, ⟨hd, hd1, hd2⟩, h⟩ := h
 refine ⟨_, h, disk_low _, by simp, fun w I => ?_⟩
 refine seq_k fun _ hK1 => ?_; refine region_k gd_ok fun _ hK2 => ?_
 refine sS fun _ hS => ?_; (repeat refine aI qSj0 ?_); apply hS; clear hS
 refine sS fun _ hS => ?_; (repeat refine aI qSj0 ?_); apply hS; clear hS; refine s_nil ?_; apply hK2; apply hK1; refine seq_k fun _ hK3 => ?_; refine seq_k fun _ hK4 => ?_; refine region_k gd_ok fun _ hK5 => ?_
 refine sS fun _ hS => ?_; (repeat refine aI qSj0 ?_); (first | apply hS | (refine whole_yes qSj0 ?_; apply hS) | (refine whole_sub ?_; apply hS)); clear hS
 refine sS fun _ hS => ?_; (repeat first | refine aI qSj0 ?_ | refine whole_yes qSj0 ?_ | refine whole_sub ?_); refine ⟨d, rfl, ⟨by omega, by omega, by omega⟩, ?_⟩; (repeat refine aI qSj0 ?_); (first | apply hS | (intro cap1 hcap1; apply hS)); clear hS
 refine sS1 ?_
 refine s_nil ?_; apply hK5; apply hK4
 refine WP_cond (b := _) rfl (fun h_t5 => ?_) (fun h_t5 => ?_)
 ·simp only [Bool.not_eq_true'] at h_t5
  refine seq_k fun _ hK6 => ?_; refine region_k gd_ok fun _ hK7 => ?_
  refine s_stepA rfl (by decide) rfl fun _ hS => ?_
  repeat refine aI qSj0 ?_
  refine hS _ (diskV ([], 0)) _ _ (disk0_as) ?_
  clear hS
  refine sS0 fun _ hS => ?_; (repeat refine aI qSj0 ?_); (first | apply hS | (refine splice_full qSj0 ?_; apply hS)); clear hS; refine s_nil ?_; apply hK7; apply hK6
  rw [sync_no h_t5]
  refine WP_ret (Done_data gd_ok (fun _ _ h => h) (disk_low _) [] [.cell 2 37] rfl ?_)
  repeat' (first | exact trivial | refine aI ?_ ?_ | exact cC0 | refine low_cons' ?_ ?_ | exact cC1 | fail)
  all_goals first | (show 0 + _ * 1 ≤ List.length _; simp; done) | exact (if_pos ⟨rfl, (by show List.length _ = _; simp)⟩).symm | exact Nat.one_pos | (simp; done) | (simp; omega) | skip
 ·simp only [Bool.not_eq_false'] at h_t5
  refine WP_skip ?_; apply hK3; refine seq_k fun _ hK8 => ?_
  refine sched_k gd_ok [(0, true), (1, true), (3, true), (4, true), (5, true), (2, false), (6, true), (7, false)] rfl (by kernel_rfl) (by kernel_rfl) fun _ hK9 => ?_
  refine dR fun _ hS => ?_; (repeat refine aI qSj0 ?_); apply hS; clear hS
  refine dR fun _ hS => ?_; (repeat refine aI qSj0 ?_); (first | apply hS | (refine whole_yes qSj0 ?_; apply hS) | (refine whole_sub ?_; apply hS)); clear hS
  refine dR fun _ hS => ?_; (repeat refine aI qSj0 ?_); apply hS; clear hS
  refine dR fun _ hS => ?_; (repeat refine aI qSj0 ?_); (first | apply hS | (refine whole_yes qSj0 ?_; apply hS) | (refine whole_sub ?_; apply hS)); clear hS
  refine dR fun _ hS => ?_; (repeat refine aI qSj0 ?_); apply hS; clear hS
  refine dG fun _ hS => ?_; (repeat first | refine aI qSj0 ?_ | refine whole_yes qSj0 ?_ | refine whole_sub ?_); refine ⟨d.1, rfl, by omega, ?_⟩; (repeat refine aI qSj0 ?_); (first | apply hS | (intro cap2 hcap2; apply hS)); clear hS
  refine dR fun _ hS => ?_; (repeat refine aI qSj0 ?_); apply hS; clear hS
  refine d_grow0 rfl rfl rfl fun _ hS => ?_
  repeat refine aI qSj0 ?_
  first | apply hS | (refine splice_full qSj0 ?_; apply hS)
  clear hS; refine d_nil ?_; apply hK9; apply hK8
  rw [sync_yes h_t5]
  refine WP_ret (Done_data gd_ok (fun _ _ h => h) (disk_low _) [2] [.cell 2 37] rfl ?_)
  repeat' (first | exact trivial | refine aI ?_ ?_ | exact cC0 | refine low_cons' ?_ ?_ | exact cC1 | fail)
  all_goals first | (show 0 + _ * 1 ≤ List.length _; simp; done) | exact (if_pos ⟨rfl, (by show List.length _ = _; simp)⟩).symm | exact Nat.one_pos | (simp; done) | (simp; omega) | skip

def syncRS : QSpec := fun vs K => ∃ d : Disk, vs = [diskV d] ∧ dok d ∧ K (diskV (syncL d))
set_option maxHeartbeats 400000 in
theorem syncR_ok : DataOK Tryd.prog gl 24 syncRS := by
 refine data_of (Γ := ge) (N := 13) Tryd.func24 rfl rfl fun vs K h => ?_
 obtain ⟨d, rfl, ⟨hd, hd1, hd2⟩, h⟩ := h
 refine ⟨_, h, disk_low _, by simp, fun w I => ?_⟩
 refine seq_k fun _ hK1 => ?_; refine region_k ge_ok fun _ hK2 => ?_
 refine sS fun _ hS => ?_; (repeat refine aI qSj0 ?_); apply hS; clear hS
 refine sS fun _ hS => ?_; (repeat refine aI qSj0 ?_); apply hS; clear hS; refine s_nil ?_; apply hK2; apply hK1; refine seq_k fun _ hK3 => ?_; refine seq_k fun _ hK4 => ?_; refine region_k ge_ok fun _ hK5 => ?_
 refine sS fun _ hS => ?_; (repeat refine aI qSj0 ?_); (first | apply hS | (refine whole_yes qSj0 ?_; apply hS) | (refine whole_sub ?_; apply hS)); clear hS
 refine sS fun _ hS => ?_; (repeat first | refine aI qSj0 ?_ | refine whole_yes qSj0 ?_ | refine whole_sub ?_); refine ⟨d, rfl, ⟨by omega, by omega, by omega⟩, ?_⟩; (repeat refine aI qSj0 ?_); (first | apply hS | (intro cap1 hcap1; apply hS)); clear hS
 refine sS1 ?_
 refine s_nil ?_; apply hK5; apply hK4
 refine WP_cond (b := _) rfl (fun h_t5 => ?_) (fun h_t5 => ?_)
 ·simp only [Bool.not_eq_true'] at h_t5
  refine seq_k fun _ hK6 => ?_; refine region_k ge_ok fun _ hK7 => ?_
  refine s_stepA rfl (by decide) rfl fun _ hS => ?_
  repeat refine aI qSj0 ?_
  refine hS _ (diskV ([], 0)) _ _ (disk0_as) ?_
  clear hS
  refine sS0 fun _ hS => ?_; (repeat refine aI qSj0 ?_); (first | apply hS | (refine splice_full qSj0 ?_; apply hS)); clear hS; refine s_nil ?_; apply hK7; apply hK6
  rw [sync_no h_t5]
  refine WP_ret (Done_data ge_ok (fun _ _ h => h) (disk_low _) [] [.cell 2 37] rfl ?_)
  repeat' (first | exact trivial | refine aI ?_ ?_ | exact cC0 | refine low_cons' ?_ ?_ | exact cC1 | fail)
  all_goals first | (show 0 + _ * 1 ≤ List.length _; simp; done) | exact (if_pos ⟨rfl, (by show List.length _ = _; simp)⟩).symm | exact Nat.one_pos | (simp; done) | (simp; omega) | skip
 ·simp only [Bool.not_eq_false'] at h_t5
  refine WP_skip ?_; apply hK3; refine seq_k fun _ hK8 => ?_; refine region_k ge_ok fun _ hK9 => ?_
  refine sS fun _ hS => ?_; (repeat refine aI qSj0 ?_); apply hS; clear hS
  refine sS fun _ hS => ?_; (repeat refine aI qSj0 ?_); (first | apply hS | (refine whole_yes qSj0 ?_; apply hS) | (refine whole_sub ?_; apply hS)); clear hS
  refine sS fun _ hS => ?_; (repeat refine aI qSj0 ?_); apply hS; clear hS
  refine sS fun _ hS => ?_; (repeat refine aI qSj0 ?_); (first | apply hS | (refine whole_yes qSj0 ?_; apply hS) | (refine whole_sub ?_; apply hS)); clear hS
  refine sS fun _ hS => ?_; (repeat refine aI qSj0 ?_); apply hS; clear hS
  refine sS fun _ hS => ?_; (repeat refine aI qSj0 ?_); apply hS; clear hS
  refine sS0 fun _ hS => ?_; (repeat refine aI qSj0 ?_); (first | apply hS | (refine splice_full qSj0 ?_; apply hS)); clear hS; refine s_nil ?_; apply hK9; apply hK8
  rw [sync_yes h_t5]
  refine WP_ret (Done_data ge_ok (fun _ _ h => h) (disk_low _) [] [.cell 2 37] rfl ?_)
  repeat' (first | exact trivial | refine aI ?_ ?_ | exact cC0 | refine low_cons' ?_ ?_ | exact cC1 | fail)
  all_goals first | (show 0 + _ * 1 ≤ List.length _; simp; done) | exact (if_pos ⟨rfl, (by show List.length _ = _; simp)⟩).symm | exact Nat.one_pos | (simp; done) | (simp; omega) | skip

def crashS : QSpec := fun vs K => ∃ (d : Disk) (kp a : Int) (b : UInt8), vs = [diskV d, crV kp a b] ∧ (dok d ∧ -9223372036854775808 ≤ kp ∧ kp ≤ 9223372036854775807 ∧ -9223372036854775808 ≤ a ∧ a ≤ 9223372036854775807) ∧ K (diskV (crashL d kp a b))
set_option maxHeartbeats 1000000 in
theorem crash_ok : DataOK Tryd.prog gl 25 crashS := by
 refine data_of (Γ := gd) (N := 51) Tryd.func25 rfl rfl fun vs K h => ?_
 obtain ⟨d, kp, a, b, rfl, ⟨⟨hd, hd1, hd2⟩, hk1, hk2, ha1, ha2⟩, h⟩ := h
 refine ⟨_, h, disk_low _, by simp, fun w I => ?_⟩
 refine seq_k fun _ hK1 => ?_; refine region_k gd_ok fun _ hK2 => ?_
 refine sS fun _ hS => ?_; (repeat refine aI qSj1 ?_); apply hS; clear hS
 refine sS fun _ hS => ?_; (repeat refine aI qSj1 ?_); apply hS; clear hS
 refine sS fun _ hS => ?_; (repeat refine aI qSj1 ?_); apply hS; clear hS; refine s_nil ?_; apply hK2; apply hK1; refine seq_k fun _ hK3 => ?_; refine seq_k fun _ hK4 => ?_; refine region_k gd_ok fun _ hK5 => ?_
 refine sS fun _ hS => ?_; (repeat refine aI qSj1 ?_); (first | apply hS | (refine whole_yes qSj1 ?_; apply hS) | (refine whole_sub ?_; apply hS)); clear hS
 refine sS fun _ hS => ?_; (repeat first | refine aI qSj1 ?_ | refine whole_yes qSj1 ?_ | refine whole_sub ?_); refine ⟨d, rfl, ⟨by omega, by omega, by omega⟩, ?_⟩; (repeat refine aI qSj1 ?_); (first | apply hS | (intro cap1 hcap1; apply hS)); clear hS
 refine sS1 ?_
 refine s_nil ?_; apply hK5; apply hK4
 refine WP_cond (b := _) rfl (fun h_t9 => ?_) (fun h_t9 => ?_)
 ·simp only [Bool.not_eq_true'] at h_t9
  refine seq_k fun _ hK6 => ?_; refine region_k gd_ok fun _ hK7 => ?_
  refine s_stepA rfl (by decide) rfl fun _ hS => ?_
  repeat refine aI qSj1 ?_
  refine hS _ (diskV ([], 0)) _ _ (disk0_as) ?_
  clear hS
  refine sS0 fun _ hS => ?_; (repeat refine aI qSj1 ?_); (first | apply hS | (refine splice_full qSj1 ?_; apply hS)); clear hS; refine s_nil ?_; apply hK7; apply hK6
  rw [crash_no h_t9]
  refine WP_ret (Done_data gd_ok (fun _ _ h => h) (disk_low _) [] [.cell 4 37] rfl ?_)
  repeat' (first | exact trivial | refine aI ?_ ?_ | exact cC0 | refine low_cons' ?_ ?_ | exact cC1 | fail)
  all_goals first | (show 0 + _ * 1 ≤ List.length _; simp; done) | exact (if_pos ⟨rfl, (by show List.length _ = _; simp)⟩).symm | exact Nat.one_pos | (simp; done) | (simp; omega) | skip
 ·simp only [Bool.not_eq_false'] at h_t9
  refine WP_skip ?_; apply hK3; refine seq_k fun _ hK8 => ?_
  have hkb := keep_bounds (k := kp) h_t9
  have hvd := dvalid_iff h_t9
  refine region_k gd_ok fun _ hK9 => ?_
  refine sS fun _ hS => ?_; (repeat refine aI qSj1 ?_); apply hS; clear hS
  refine sS fun _ hS => ?_; (repeat refine aI qSj1 ?_); (first | apply hS | (refine whole_yes qSj1 ?_; apply hS) | (refine whole_sub ?_; apply hS)); clear hS
  refine s_stepA rfl (by decide) rfl fun _ hS => ?_
  repeat refine aI qSj1 ?_
  refine hS _ (.c (.int .i64 (max kp 0))) _ _ (max_as kp) ?_
  clear hS
  refine sS fun _ hS => ?_; (repeat refine aI qSj1 ?_); apply hS; clear hS
  refine sS fun _ hS => ?_; (repeat refine aI qSj1 ?_); (first | apply hS | (refine whole_yes qSj1 ?_; apply hS) | (refine whole_sub ?_; apply hS)); clear hS
  refine sS fun _ hS => ?_; (repeat refine aI qSj1 ?_); apply hS; clear hS
  refine sS fun _ hS => ?_; (repeat refine aI qSj1 ?_); apply hS; clear hS
  refine sS fun _ hS => ?_; (repeat refine aI qSj1 ?_); (first | apply hS | (refine whole_yes qSj1 ?_; apply hS) | (refine whole_sub ?_; apply hS)); clear hS
  refine sS fun _ hS => ?_; (repeat refine aI qSj1 ?_); apply hS; clear hS
  refine s_stepA rfl (by decide) rfl fun _ hS => ?_
  repeat refine aI qSj1 ?_
  refine hS _ (.c (.int .i64 (keepN d kp))) _ _ (min_as) ?_
  clear hS
  refine sS1 ?_
  refine s_nil ?_; apply hK9; apply hK8; refine seq_k fun _ hK10 => ?_
  have htl : (d.1.take (d.2 + keepN d kp).toNat).length = (d.2 + keepN d kp).toNat := by rw [List.length_take]; omega
  refine region_k gd_ok fun _ hK11 => ?_
  refine sS fun _ hS => ?_; (repeat refine aI qSj1 ?_); apply hS; clear hS
  refine sS fun _ hS => ?_; (repeat refine aI qSj1 ?_); (first | apply hS | (refine whole_yes qSj1 ?_; apply hS) | (refine whole_sub ?_; apply hS)); clear hS
  refine sS fun _ hS => ?_; (repeat refine aI qSj1 ?_); apply hS; clear hS
  refine sS fun _ hS => ?_; (repeat refine aI qSj1 ?_); (first | apply hS | (refine whole_yes qSj1 ?_; apply hS) | (refine whole_sub ?_; apply hS)); clear hS
  refine sS1 ?_
  refine sS fun _ hS => ?_; (repeat refine aI qSj1 ?_); apply hS; clear hS
  refine s_stepA rfl (by decide) rfl fun _ hS => ?_
  repeat refine aI qSj1 ?_
  first | refine hS _ (bytesV (d.1.take (d.2 + keepN d kp).toNat)) _ _ (takeI_as (by omega) (by omega)) ?_ | (refine ite_yes qSj1 ?_; (repeat refine aI qSj1 ?_); refine hS _ (bytesV (d.1.take (d.2 + keepN d kp).toNat)) _ _ (takeI_as (by omega) (by omega)) ?_)
  clear hS
  refine sS fun _ hS => ?_; (repeat first | refine aI qSj1 ?_ | refine whole_yes qSj1 ?_ | refine whole_sub ?_); refine ⟨(d.1.take (d.2 + keepN d kp).toNat), rfl, by omega, ?_⟩; (repeat refine aI qSj1 ?_); (first | apply hS | (intro cap7 hcap7; apply hS)); clear hS
  refine sS1 ?_
  refine s_nil ?_; apply hK11; apply hK10; refine seq_k fun _ hK12 => ?_; refine seq_k fun _ hK13 => ?_; refine region_k gd_ok fun _ hK14 => ?_
  refine sS fun _ hS => ?_; (repeat refine aI qSj1 ?_); apply hS; clear hS
  refine sS fun _ hS => ?_; (repeat refine aI qSj1 ?_); (first | apply hS | (refine whole_yes qSj1 ?_; apply hS) | (refine whole_sub ?_; apply hS)); clear hS
  refine sS fun _ hS => ?_; (repeat refine aI qSj1 ?_); apply hS; clear hS
  refine sS fun _ hS => ?_
  refine s_split hS (fun hb3 => ?_) (fun hb3 => ?_)
  ·clear hS
   try simp only [dQ] at hb3
   refine sT fun _ hS => ?_; (repeat refine aI qSj1 ?_); apply hS; clear hS
   refine sT fun _ hS => ?_; (repeat refine aI qSj1 ?_); (first | apply hS | (refine whole_yes qSj1 ?_; apply hS) | (refine whole_sub ?_; apply hS)); clear hS
   refine sT fun _ hS => ?_; apply hS; clear hS
   refine sT fun _ hS => ?_; (repeat refine aI qSj1 ?_); apply hS; clear hS
   refine sS1 ?_
   refine s_nil ?_; apply hK14; apply hK13
   refine WP_cond (b := _) rfl (fun h_t37 => ?_) (fun h_t37 => ?_)
   ·try simp only [dQ, if_true] at h_t37
    refine region_k gd_ok fun _ hK15 => ?_
    refine sS1 ?_
    refine sS fun _ hS => ?_; (repeat refine aI qSj1 ?_); apply hS; clear hS
    refine sS fun _ hS => ?_; (repeat refine aI qSj1 ?_); (first | apply hS | (refine whole_yes qSj1 ?_; apply hS) | (refine whole_sub ?_; apply hS)); clear hS
    refine sS fun _ hS => ?_; (repeat refine aI qSj1 ?_); apply hS; clear hS
    refine sS fun _ hS => ?_; (repeat refine aI qSj1 ?_); (first | apply hS | (refine whole_yes qSj1 ?_; apply hS) | (refine whole_sub ?_; apply hS)); clear hS
    refine sS fun _ hS => ?_; (repeat refine aI qSj1 ?_); apply hS; clear hS
    refine sS fun _ hS => ?_; (repeat refine aI qSj1 ?_); apply hS; clear hS
    refine sS fun _ hS => ?_; (repeat refine aI qSj1 ?_); (first | apply hS | (refine whole_yes qSj1 ?_; apply hS) | (refine whole_sub ?_; apply hS)); clear hS
    refine sS fun _ hS => ?_; (repeat refine aI qSj1 ?_); apply hS; clear hS
    refine sS0 fun _ hS => ?_; (repeat refine aI qSj1 ?_); (first | apply hS | (refine splice_full qSj1 ?_; apply hS)); clear hS; refine s_nil ?_; apply hK15; apply hK12; refine seq_k fun _ hK16 => ?_; refine region_k gd_ok fun _ hK17 => ?_
    iterate 2 refine sS1 ?_
    refine sS fun _ hS => ?_; (repeat refine aI qSj1 ?_); apply hS; clear hS
    refine sS fun _ hS => ?_; (repeat refine aI qSj1 ?_); apply hS; clear hS
    refine sS0 fun _ hS => ?_; (repeat refine aI qSj1 ?_); (first | apply hS | (refine splice_full qSj1 ?_; apply hS)); clear hS; refine s_nil ?_; apply hK17; apply hK16
    rw [crash_yes h_t9 (by omega) (by omega)]
    refine WP_ret (Done_data gd_ok (fun _ _ h => h) (disk_low _) [3] [.cell 4 37] rfl ?_)
    repeat' (first | exact trivial | refine aI ?_ ?_ | exact cC0 | refine low_cons' ?_ ?_ | exact cC1 | fail)
    all_goals first | (show 0 + _ * 1 ≤ List.length _; simp; done) | exact (if_pos ⟨rfl, (by show List.length _ = _; simp)⟩).symm | exact Nat.one_pos | (simp; done) | (simp; omega) | skip
   ·try simp only [dQ, if_true] at h_t37
    refine WP_skip ?_; apply hK12; refine seq_k fun _ hK18 => ?_; refine region_k gd_ok fun _ hK19 => ?_
    iterate 2 refine sS1 ?_
    refine sS fun _ hS => ?_; (repeat refine aI qSj1 ?_); apply hS; clear hS
    refine sS fun _ hS => ?_; (repeat refine aI qSj1 ?_); apply hS; clear hS
    refine sS0 fun _ hS => ?_; (repeat refine aI qSj1 ?_); (first | apply hS | (refine splice_full qSj1 ?_; apply hS)); clear hS; refine s_nil ?_; apply hK19; apply hK18
    rw [crash_plain h_t9 (by omega)]
    refine WP_ret (Done_data gd_ok (fun _ _ h => h) (disk_low _) [3] [.cell 4 37] rfl ?_)
    repeat' (first | exact trivial | refine aI ?_ ?_ | exact cC0 | refine low_cons' ?_ ?_ | exact cC1 | fail)
    all_goals first | (show 0 + _ * 1 ≤ List.length _; simp; done) | exact (if_pos ⟨rfl, (by show List.length _ = _; simp)⟩).symm | exact Nat.one_pos | (simp; done) | (simp; omega) | skip
  ·clear hS
   try simp only [dQ] at hb3
   refine sN ?_; refine sN ?_; refine sN ?_; refine sN ?_
   refine sS1 ?_
   refine s_nil ?_; apply hK14; apply hK13
   refine WP_cond (b := _) rfl (fun h_t37 => ?_) (fun _ => ?_)
   ·exfalso; simp at h_t37
   refine WP_skip ?_; apply hK12; refine seq_k fun _ hK20 => ?_; refine region_k gd_ok fun _ hK21 => ?_
   iterate 2 refine sS1 ?_
   refine sS fun _ hS => ?_; (repeat refine aI qSj1 ?_); apply hS; clear hS
   refine sS fun _ hS => ?_; (repeat refine aI qSj1 ?_); apply hS; clear hS
   refine sS0 fun _ hS => ?_; (repeat refine aI qSj1 ?_); (first | apply hS | (refine splice_full qSj1 ?_; apply hS)); clear hS; refine s_nil ?_; apply hK21; apply hK20
   rw [crash_plain h_t9 (by omega)]
   refine WP_ret (Done_data gd_ok (fun _ _ h => h) (disk_low _) [3] [.cell 4 37] rfl ?_)
   repeat' (first | exact trivial | refine aI ?_ ?_ | exact cC0 | refine low_cons' ?_ ?_ | exact cC1 | fail)
   all_goals first | (show 0 + _ * 1 ≤ List.length _; simp; done) | exact (if_pos ⟨rfl, (by show List.length _ = _; simp)⟩).symm | exact Nat.one_pos | (simp; done) | (simp; omega) | skip

def crashRS : QSpec := fun vs K => ∃ (d : Disk) (kp a : Int) (b : UInt8), vs = [diskV d, crV kp a b] ∧ (dok d ∧ -9223372036854775808 ≤ kp ∧ kp ≤ 9223372036854775807 ∧ -9223372036854775808 ≤ a ∧ a ≤ 9223372036854775807) ∧ K (diskV (crashL d kp a b))
set_option maxHeartbeats 1000000 in
theorem crashR_ok : DataOK Tryd.prog gl 26 crashRS := by
 refine data_of (Γ := ge) (N := 52) Tryd.func26 rfl rfl fun vs K h => ?_
 obtain ⟨d, kp, a, b, rfl, ⟨⟨hd, hd1, hd2⟩, hk1, hk2, ha1, ha2⟩, h⟩ := h
 refine ⟨_, h, disk_low _, by simp, fun w I => ?_⟩
 refine seq_k fun _ hK1 => ?_; refine region_k ge_ok fun _ hK2 => ?_
 refine sS fun _ hS => ?_; (repeat refine aI qSj1 ?_); apply hS; clear hS
 refine sS fun _ hS => ?_; (repeat refine aI qSj1 ?_); apply hS; clear hS
 refine sS fun _ hS => ?_; (repeat refine aI qSj1 ?_); apply hS; clear hS; refine s_nil ?_; apply hK2; apply hK1; refine seq_k fun _ hK3 => ?_; refine seq_k fun _ hK4 => ?_; refine region_k ge_ok fun _ hK5 => ?_
 refine sS fun _ hS => ?_; (repeat refine aI qSj1 ?_); (first | apply hS | (refine whole_yes qSj1 ?_; apply hS) | (refine whole_sub ?_; apply hS)); clear hS
 refine sS fun _ hS => ?_; (repeat first | refine aI qSj1 ?_ | refine whole_yes qSj1 ?_ | refine whole_sub ?_); refine ⟨d, rfl, ⟨by omega, by omega, by omega⟩, ?_⟩; (repeat refine aI qSj1 ?_); (first | apply hS | (intro cap1 hcap1; apply hS)); clear hS
 refine sS1 ?_
 refine s_nil ?_; apply hK5; apply hK4
 refine WP_cond (b := _) rfl (fun h_t9 => ?_) (fun h_t9 => ?_)
 ·simp only [Bool.not_eq_true'] at h_t9
  refine seq_k fun _ hK6 => ?_; refine region_k ge_ok fun _ hK7 => ?_
  refine s_stepA rfl (by decide) rfl fun _ hS => ?_
  repeat refine aI qSj1 ?_
  refine hS _ (diskV ([], 0)) _ _ (disk0_as) ?_
  clear hS
  refine sS0 fun _ hS => ?_; (repeat refine aI qSj1 ?_); (first | apply hS | (refine splice_full qSj1 ?_; apply hS)); clear hS; refine s_nil ?_; apply hK7; apply hK6
  rw [crash_no h_t9]
  refine WP_ret (Done_data ge_ok (fun _ _ h => h) (disk_low _) [] [.cell 4 37] rfl ?_)
  repeat' (first | exact trivial | refine aI ?_ ?_ | exact cC0 | refine low_cons' ?_ ?_ | exact cC1 | fail)
  all_goals first | (show 0 + _ * 1 ≤ List.length _; simp; done) | exact (if_pos ⟨rfl, (by show List.length _ = _; simp)⟩).symm | exact Nat.one_pos | (simp; done) | (simp; omega) | skip
 ·simp only [Bool.not_eq_false'] at h_t9
  refine WP_skip ?_; apply hK3; refine seq_k fun _ hK8 => ?_
  have hkb := keep_bounds (k := kp) h_t9
  have hvd := dvalid_iff h_t9
  refine region_k ge_ok fun _ hK9 => ?_
  refine sS fun _ hS => ?_; (repeat refine aI qSj1 ?_); apply hS; clear hS
  refine sS fun _ hS => ?_; (repeat refine aI qSj1 ?_); (first | apply hS | (refine whole_yes qSj1 ?_; apply hS) | (refine whole_sub ?_; apply hS)); clear hS
  refine s_stepA rfl (by decide) rfl fun _ hS => ?_
  repeat refine aI qSj1 ?_
  refine hS _ (.c (.int .i64 (max kp 0))) _ _ (max_as kp) ?_
  clear hS
  refine sS fun _ hS => ?_; (repeat refine aI qSj1 ?_); apply hS; clear hS
  refine sS fun _ hS => ?_; (repeat refine aI qSj1 ?_); (first | apply hS | (refine whole_yes qSj1 ?_; apply hS) | (refine whole_sub ?_; apply hS)); clear hS
  refine sS fun _ hS => ?_; (repeat refine aI qSj1 ?_); apply hS; clear hS
  refine sS fun _ hS => ?_; (repeat refine aI qSj1 ?_); apply hS; clear hS
  refine sS fun _ hS => ?_; (repeat refine aI qSj1 ?_); (first | apply hS | (refine whole_yes qSj1 ?_; apply hS) | (refine whole_sub ?_; apply hS)); clear hS
  refine sS fun _ hS => ?_; (repeat refine aI qSj1 ?_); apply hS; clear hS
  refine s_stepA rfl (by decide) rfl fun _ hS => ?_
  repeat refine aI qSj1 ?_
  refine hS _ (.c (.int .i64 (keepN d kp))) _ _ (min_as) ?_
  clear hS
  refine sS1 ?_
  refine s_nil ?_; apply hK9; apply hK8; refine seq_k fun _ hK10 => ?_
  have htl : (d.1.take (d.2 + keepN d kp).toNat).length = (d.2 + keepN d kp).toNat := by rw [List.length_take]; omega
  refine region_k ge_ok fun _ hK11 => ?_
  refine sS fun _ hS => ?_; (repeat refine aI qSj1 ?_); apply hS; clear hS
  refine sS fun _ hS => ?_; (repeat refine aI qSj1 ?_); apply hS; clear hS
  refine sS fun _ hS => ?_; (repeat refine aI qSj1 ?_); (first | apply hS | (refine whole_yes qSj1 ?_; apply hS) | (refine whole_sub ?_; apply hS)); clear hS
  refine sS fun _ hS => ?_; (repeat refine aI qSj1 ?_); apply hS; clear hS
  refine sS fun _ hS => ?_; (repeat refine aI qSj1 ?_); (first | apply hS | (refine whole_yes qSj1 ?_; apply hS) | (refine whole_sub ?_; apply hS)); clear hS
  refine sS1 ?_
  refine sS fun _ hS => ?_; (repeat refine aI qSj1 ?_); apply hS; clear hS
  refine s_stepA rfl (by decide) rfl fun _ hS => ?_
  repeat refine aI qSj1 ?_
  first | refine hS _ (bytesV (d.1.take (d.2 + keepN d kp).toNat)) _ _ (takeI_as (by omega) (by omega)) ?_ | (refine ite_yes qSj1 ?_; (repeat refine aI qSj1 ?_); refine hS _ (bytesV (d.1.take (d.2 + keepN d kp).toNat)) _ _ (takeI_as (by omega) (by omega)) ?_)
  clear hS
  refine sS fun _ hS => ?_; (repeat first | refine aI qSj1 ?_ | refine whole_yes qSj1 ?_ | refine whole_sub ?_); (intro cap8 hcap8; apply hS); clear hS
  refine sS1 ?_
  refine s_nil ?_; apply hK11; apply hK10; refine seq_k fun _ hK12 => ?_; refine seq_k fun _ hK13 => ?_; refine region_k ge_ok fun _ hK14 => ?_
  refine sS fun _ hS => ?_; (repeat refine aI qSj1 ?_); apply hS; clear hS
  refine sS fun _ hS => ?_; (repeat refine aI qSj1 ?_); (first | apply hS | (refine whole_yes qSj1 ?_; apply hS) | (refine whole_sub ?_; apply hS)); clear hS
  refine sS fun _ hS => ?_; (repeat refine aI qSj1 ?_); apply hS; clear hS
  refine sS fun _ hS => ?_
  refine s_split hS (fun hb3 => ?_) (fun hb3 => ?_)
  ·clear hS
   try simp only [dQ] at hb3
   refine sT fun _ hS => ?_; (repeat refine aI qSj1 ?_); apply hS; clear hS
   refine sT fun _ hS => ?_; (repeat refine aI qSj1 ?_); (first | apply hS | (refine whole_yes qSj1 ?_; apply hS) | (refine whole_sub ?_; apply hS)); clear hS
   refine sT fun _ hS => ?_; apply hS; clear hS
   refine sT fun _ hS => ?_; (repeat refine aI qSj1 ?_); apply hS; clear hS
   refine sS1 ?_
   refine s_nil ?_; apply hK14; apply hK13
   refine WP_cond (b := _) rfl (fun h_t38 => ?_) (fun h_t38 => ?_)
   ·try simp only [dQ, if_true] at h_t38
    refine region_k ge_ok fun _ hK15 => ?_
    refine sS1 ?_
    refine sS fun _ hS => ?_; (repeat refine aI qSj1 ?_); apply hS; clear hS
    refine sS fun _ hS => ?_; (repeat refine aI qSj1 ?_); (first | apply hS | (refine whole_yes qSj1 ?_; apply hS) | (refine whole_sub ?_; apply hS)); clear hS
    refine sS fun _ hS => ?_; (repeat refine aI qSj1 ?_); apply hS; clear hS
    refine sS fun _ hS => ?_; (repeat refine aI qSj1 ?_); (first | apply hS | (refine whole_yes qSj1 ?_; apply hS) | (refine whole_sub ?_; apply hS)); clear hS
    refine sS fun _ hS => ?_; (repeat refine aI qSj1 ?_); apply hS; clear hS
    refine sS fun _ hS => ?_; (repeat refine aI qSj1 ?_); apply hS; clear hS
    refine sS fun _ hS => ?_; (repeat refine aI qSj1 ?_); (first | apply hS | (refine whole_yes qSj1 ?_; apply hS) | (refine whole_sub ?_; apply hS)); clear hS
    refine sS fun _ hS => ?_; (repeat refine aI qSj1 ?_); apply hS; clear hS
    refine sS0 fun _ hS => ?_; (repeat refine aI qSj1 ?_); (first | apply hS | (refine splice_full qSj1 ?_; apply hS)); clear hS; refine s_nil ?_; apply hK15; apply hK12; refine seq_k fun _ hK16 => ?_; refine region_k ge_ok fun _ hK17 => ?_
    iterate 2 refine sS1 ?_
    refine sS fun _ hS => ?_; (repeat refine aI qSj1 ?_); apply hS; clear hS
    refine sS fun _ hS => ?_; (repeat refine aI qSj1 ?_); apply hS; clear hS
    refine sS0 fun _ hS => ?_; (repeat refine aI qSj1 ?_); (first | apply hS | (refine splice_full qSj1 ?_; apply hS)); clear hS; refine s_nil ?_; apply hK17; apply hK16
    rw [crash_yes h_t9 (by omega) (by omega)]
    refine WP_ret (Done_data ge_ok (fun _ _ h => h) (disk_low _) [4] [.cell 4 37] rfl ?_)
    repeat' (first | exact trivial | refine aI ?_ ?_ | exact cC0 | refine low_cons' ?_ ?_ | exact cC1 | fail)
    all_goals first | (show 0 + _ * 1 ≤ List.length _; simp; done) | exact (if_pos ⟨rfl, (by show List.length _ = _; simp)⟩).symm | exact Nat.one_pos | (simp; done) | (simp; omega) | skip
   ·try simp only [dQ, if_true] at h_t38
    refine WP_skip ?_; apply hK12; refine seq_k fun _ hK18 => ?_; refine region_k ge_ok fun _ hK19 => ?_
    iterate 2 refine sS1 ?_
    refine sS fun _ hS => ?_; (repeat refine aI qSj1 ?_); apply hS; clear hS
    refine sS fun _ hS => ?_; (repeat refine aI qSj1 ?_); apply hS; clear hS
    refine sS0 fun _ hS => ?_; (repeat refine aI qSj1 ?_); (first | apply hS | (refine splice_full qSj1 ?_; apply hS)); clear hS; refine s_nil ?_; apply hK19; apply hK18
    rw [crash_plain h_t9 (by omega)]
    refine WP_ret (Done_data ge_ok (fun _ _ h => h) (disk_low _) [4] [.cell 4 37] rfl ?_)
    repeat' (first | exact trivial | refine aI ?_ ?_ | exact cC0 | refine low_cons' ?_ ?_ | exact cC1 | fail)
    all_goals first | (show 0 + _ * 1 ≤ List.length _; simp; done) | exact (if_pos ⟨rfl, (by show List.length _ = _; simp)⟩).symm | exact Nat.one_pos | (simp; done) | (simp; omega) | skip
  ·clear hS
   try simp only [dQ] at hb3
   refine sN ?_; refine sN ?_; refine sN ?_; refine sN ?_
   refine sS1 ?_
   refine s_nil ?_; apply hK14; apply hK13
   refine WP_cond (b := _) rfl (fun h_t38 => ?_) (fun _ => ?_)
   ·exfalso; simp at h_t38
   refine WP_skip ?_; apply hK12; refine seq_k fun _ hK20 => ?_; refine region_k ge_ok fun _ hK21 => ?_
   iterate 2 refine sS1 ?_
   refine sS fun _ hS => ?_; (repeat refine aI qSj1 ?_); apply hS; clear hS
   refine sS fun _ hS => ?_; (repeat refine aI qSj1 ?_); apply hS; clear hS
   refine sS0 fun _ hS => ?_; (repeat refine aI qSj1 ?_); (first | apply hS | (refine splice_full qSj1 ?_; apply hS)); clear hS; refine s_nil ?_; apply hK21; apply hK20
   rw [crash_plain h_t9 (by omega)]
   refine WP_ret (Done_data ge_ok (fun _ _ h => h) (disk_low _) [4] [.cell 4 37] rfl ?_)
   repeat' (first | exact trivial | refine aI ?_ ?_ | exact cC0 | refine low_cons' ?_ ?_ | exact cC1 | fail)
   all_goals first | (show 0 + _ * 1 ≤ List.length _; simp; done) | exact (if_pos ⟨rfl, (by show List.length _ = _; simp)⟩).symm | exact Nat.one_pos | (simp; done) | (simp; omega) | skip


end Go.Proofs.YtnhmglhbhnhnhaaDoor

namespace Go.Proofs.YtnhmglhbhnhnhaaDoor
set_option linter.unusedVariables false
open Go.Ab Go.RowKit

theorem qSk0 {a : Prop} (h : a := by first | exact vcA | (simp <;> omega) | exact (pieceC_len hw).symm | exact pieceC_len hw | (rw [pieceC_len hw]; decide) | (rw [pieceC_len hw]; omega) | exact pieceC_solid _ | exact inR_i64.mpr ⟨by omega, by omega⟩ | exact ⟨by omega, by omega, pcl_solid _⟩ | exact And.intro (by omega) (And.intro (by omega) (pieceC_solid s)) | (show _ ≤ (pieceL s).length; have := pieceL_len hw; omega) | (show (pieceL s).length = _; rw [pieceL_len hw]) | (show 0 < (65 : Nat); omega) | exact vcB) : a := h
theorem uSk0 {a : Prop} (h : a := by
    repeat' (first | exact trivial | refine aI ?_ ?_ | exact cC0 | refine low_cons' ?_ ?_ | exact cC1 | fail)
    all_goals first | omega | (show (total (ps.take k.1) : Int) + (nn : Int) = ((total (ps.take (k.1 + 1)) : Nat) : Int); omega) | (show Cont.to _ _ _ _ (Cont.cells (_ ++ _)) (Cont.cells (pcl (ps.take (k.1 + 1)))); rw [pcl_succ hks]; exact to_app (pcl_to _) (piece_to s)) | exact pcl_low | (rw [pcl_succ hks]; exact to_app (pcl_to _) (piece_to s)) | (rw [total_zero]; rfl) | exact pcl_to _ | (simp [total_zero]; done) | skip) : a := h

open Go.Sto
theorem pcl_succ {ps : List Piece} {k : Nat} {s : Piece} (h : ps[k]? = some s) : pcl (ps.take (k + 1)) = pcl (ps.take k) ++ pieceL s := by
  rw [List.take_add_one, h, pcl_app, Option.toList_some, pcl_one]
theorem wf_pieces (l : List UInt8) : allWf (Go.Sto.pieces l) := fun s hs => ⟨(pieces_ok l s hs).1, (pieces_ok l s hs).2.1⟩
theorem wf_take {ps : List Piece} (h : allWf ps) (k : Nat) : allWf (ps.take k) := fun s hs => h s (List.mem_of_mem_take hs)
theorem total_ge : ∀ ps : List Piece, 76 * ps.length ≤ total ps
  | [] => Nat.le_refl _
  | s :: ps => by
    have := total_ge ps
    rw [total_cons, List.length_cons, Piece.size]; omega
theorem pieces_few (l : List UInt8) : (Go.Sto.pieces l).length ≤ l.length := by
  have h1 := total_ge (Go.Sto.pieces l)
  have h2 := total_le l
  omega
theorem recT_zero {x : List UInt8} {s : Piece} {ok : Bool} (h : recT x = (s, 0, ok)) : recordL x = none := by
  cases hr : recordL x with
  | none => rfl
  | some p =>
    obtain ⟨t, n⟩ := p
    obtain ⟨_, h2, _⟩ := Go.Sto.record_ok hr
    rw [recT_some hr] at h
    simp only [Prod.mk.injEq] at h
    have := h.2.1
    rw [Piece.size] at h2
    omega
theorem recT_pos {x : List UInt8} {s : Piece} {n : Nat} {ok : Bool} (h : recT x = (s, n, ok)) (hn : n ≠ 0) : recordL x = some (s, n) := by
  cases hr : recordL x with
  | none => rw [recT_none hr] at h; simp only [Prod.mk.injEq] at h; exact absurd h.2.1.symm hn
  | some p =>
    obtain ⟨t, m⟩ := p
    rw [recT_some hr] at h
    simp only [Prod.mk.injEq] at h
    rw [h.1, h.2.1]
theorem log_step {bs x : List UInt8} {ps : List Piece} {k nn : Nat} {s : Piece} {ok : Bool} (hps : ps = Go.Sto.pieces bs) (hk : k ≤ ps.length) (hx : x = bs.drop (total (ps.take k))) (hr : recT x = (s, nn, ok)) : (nn = 0 → k = ps.length) ∧ (nn ≠ 0 → ps[k]? = some s ∧ nn = s.size ∧ total (ps.take (k + 1)) = total (ps.take k) + nn) := by
  have hstep := pieces_step (l := bs) (k := k) (by rw [← hps]; exact hk)
  rw [← hps, ← hx] at hstep
  constructor
  · rintro rfl
    rw [recT_zero hr] at hstep
    cases hg : ps[k]? with
    | none => have := List.getElem?_eq_none_iff.1 hg; omega
    | some t => rw [hg] at hstep; cases hstep
  · intro hn
    rw [recT_pos hr hn] at hstep
    cases hg : ps[k]? with
    | none => rw [hg] at hstep; cases hstep
    | some t =>
      rw [hg] at hstep
      simp only [Option.some.injEq, Prod.mk.injEq] at hstep
      obtain ⟨rfl, rfl⟩ := hstep
      exact ⟨rfl, rfl, total_succ hg⟩
abbrev psP (ps : List Piece) : Part := .c (.ds ps.length (pcells ps))
theorem to_app {tf : Nat → Ty} {H : Heap} {is : List Nat} {ρ : Nat → Nat} {a a' b b' : List Cell} (h : (Cont.cells a).to tf H is ρ (.cells a')) (k : (Cont.cells b).to tf H is ρ (.cells b')) : (Cont.cells (a ++ b)).to tf H is ρ (.cells (a' ++ b')) := allTo_app h k
def piecesV (l : List UInt8) : SV := .tup [psP (Go.Sto.pieces l), .c (.int .i64 (total (Go.Sto.pieces l) : Nat))]
theorem tup_low2 {n : Nat} {c : Cell} {d : Cell} (h : c.low n) (k : d.low n) : SV.low n (.tup [.c c, .c d]) := fun p hp => by
  rcases List.mem_cons.1 hp with rfl | hp
  · exact h
  · rw [List.mem_singleton.1 hp]; exact k
theorem piecesV_low (l : List UInt8) : (piecesV l).low 0 := tup_low2 (by trivial) (by trivial)
noncomputable def gp : Ctx := { P := Tryd.prog, ty := ty, glob := gl, fs := [(44, .data atS)] }
theorem gp_ok : gp.OK := ⟨tyOK, ⟨⟨enters_mk Tryd.func44 (by kernel_rfl) rfl, at_ok⟩, trivial⟩, mixed⟩
@[simp] theorem gp_ty : gp.ty = ty := rfl

def piecesS : QSpec := fun vs K => ∃ bs : List UInt8, vs = [bytesV bs] ∧ bs.length ≤ 900000 ∧ K (piecesV bs)
set_option maxHeartbeats 1000000 in
theorem pieces_ok : DataOK Tryd.prog gl 40 piecesS := by
 refine data_of (Γ := gp) (N := 27) Tryd.func40 rfl rfl fun vs K h => ?_
 obtain ⟨bs, rfl, hb, h⟩ := h
 refine ⟨_, h, piecesV_low bs, by simp, fun w I => ?_⟩
 refine seq_k fun _ hK1 => ?_; refine region_k gp_ok fun _ hK2 => ?_
 iterate 2 refine sS1 ?_
 refine s_nil ?_; apply hK2; apply hK1; refine seq_k fun _ hK3 => ?_; refine region_k gp_ok fun _ hK4 => ?_
 refine sS fun _ hS => ?_; (repeat refine aI qSk0 ?_); apply hS; clear hS
 iterate 2 refine sS1 ?_
 refine s_nil ?_; apply hK4; apply hK3; refine WP_block ?_
 obtain ⟨ps, hps⟩ : ∃ ps, ps = Go.Sto.pieces bs := ⟨_, rfl⟩
 have hfew := pieces_few bs
 rw [← hps] at hfew
 have hwf : allWf ps := hps ▸ wf_pieces bs
 refine WP_loop (α := Nat × Nat) (fun k => [(0, bytesV bs), (4, .c (.slice 0 0 k.1 k.2)), (5, .c (.int .i64 (total (ps.take k.1) : Nat)))]) (fun k => [(0, .own 42 (pcells (ps.take k.1)) (k.2 * 65))]) 1 (fun k => k.1 ≤ ps.length) (fun k => ps.length - k.1) ?_ ?_
 ·refine dnS [] id (0, 0) (Nat.zero_le _) [0] ?_ ?_ ?_ ?_
  ·exact uSk0
  ·exact uSk0
  ·exact uSk0
  ·exact uSk0
 ·intro k hk
  obtain ⟨x, hx⟩ : ∃ x, x = bs.drop (total (ps.take k.1)) := ⟨_, rfl⟩
  have hTl : total (ps.take k.1) ≤ bs.length := by rw [hps]; exact Nat.le_trans (total_take_le _ _) (total_le _)
  have hxl : x.length = bs.length - total (ps.take k.1) := by rw [hx, List.length_drop]
  obtain ⟨s, nn, ok, hr⟩ : ∃ s nn ok, recT x = (s, nn, ok) := ⟨_, _, _, rfl⟩
  have hle := recT_le x
  rw [hr] at hle
  obtain ⟨hnl, hw, hsb⟩ := hle
  replace hnl : nn ≤ x.length := hnl
  replace hsb : s.b.length ≤ 65536 := hsb
  replace hw : Piece.wf s := hw
  refine WP_block ?_; refine seq_k fun _ hK5 => ?_; refine region_k gp_ok fun _ hK6 => ?_
  iterate 2 refine sS1 ?_
  refine s_stepA rfl (by decide) rfl fun _ hS => ?_
  repeat refine aI qSk0 ?_
  first | refine hS _ (bytesV x) _ _ (drop_as hx hTl) ?_ | (refine ite_yes qSk0 ?_; (repeat refine aI qSk0 ?_); refine hS _ (bytesV x) _ _ (drop_as hx hTl) ?_)
  clear hS
  refine s_stepA rfl (by decide) rfl fun _ hS => ?_
  repeat first | refine aI qSk0 ?_ | refine whole_yes qSk0 ?_ | refine whole_sub ?_
  refine ⟨x, rfl, by omega, ?_⟩
  repeat refine aI qSk0 ?_
  first | refine hS _ (.tup [.agg (pieceC s), .c (.int .i64 (nn : Nat))]) _ _ (as_eq (by rw [atV, hr])) ?_ | (intro cap3 hcap3; refine hS _ (.tup [.agg (pieceC s), .c (.int .i64 (nn : Nat))]) _ _ (as_eq (by rw [atV, hr])) ?_)
  clear hS
  refine sS1 ?_
  refine sS fun _ hS => ?_; (repeat refine aI qSk0 ?_); apply hS; clear hS
  refine sS fun _ hS => ?_; (repeat refine aI qSk0 ?_); apply hS; clear hS
  refine sS fun _ hS => ?_; (repeat refine aI qSk0 ?_); apply hS; clear hS
  refine sS0 fun _ hS => ?_; (repeat refine aI qSk0 ?_); (first | apply hS | (refine splice_full qSk0 ?_; apply hS)); clear hS
  refine sS1 ?_
  refine s_nil ?_; apply hK6; apply hK5; refine seq_k fun _ hK7 => ?_; refine seq_k fun _ hK8 => ?_; refine region_k gp_ok fun _ hK9 => ?_
  refine sS1 ?_
  refine sS fun _ hS => ?_; (repeat refine aI qSk0 ?_); apply hS; clear hS; refine s_nil ?_; apply hK9; apply hK8
  refine WP_cond (b := _) rfl (fun h_t17 => ?_) (fun h_t17 => ?_)
  ·try simp only [dQ] at h_t17
   refine seq_k fun _ hK10 => ?_; refine region_k gp_ok fun _ hK11 => ?_
   iterate 4 refine sS1 ?_
   refine s_nil ?_; apply hK11; apply hK10
   obtain ⟨k, cap⟩ := k
   obtain rfl : k = ps.length := (log_step hps hk hx hr).1 (by omega)
   have hpl : (pcl (ps.take ps.length)).length = ps.length * 65 := by rw [pcl_len (wf_take hwf _), List.length_take, Nat.min_self]
   rw [show piecesV bs = .tup [psP (ps.take ps.length), .c (.int .i64 (total (ps.take ps.length) : Nat))] by rw [piecesV, ← hps, List.take_length]]
   refine WP_ret (Done_data gp_ok (fun _ _ h => h) (tup_low2 (by trivial) (by trivial)) [0] [.tmp 2, .tmp 3] rfl ?_)
   repeat' (first | exact trivial | refine aI ?_ ?_ | exact cC0 | refine low_cons' ?_ ?_ | exact cC1 | fail)
   all_goals first | exact pcl_isD _ | (show 0 + ps.length * 65 ≤ (pcl (ps.take ps.length)).length; omega) | (show (0 : Nat) < 65; omega) | exact (if_pos ⟨rfl, hpl⟩).symm | (rw [List.length_take]; omega) | (simp; done) | skip
  ·try simp only [dQ] at h_t17
   refine WP_skip ?_; apply hK7; refine seq_k fun _ hK12 => ?_
   obtain ⟨hks, hnn, hT⟩ := (log_step hps hk hx hr).2 (by omega)
   have hkl : k.1 < ps.length := (List.getElem?_eq_some_iff.1 hks).1
   have hpl : (pcl (ps.take k.1)).length = k.1 * 65 := by rw [pcl_len (wf_take hwf _), List.length_take]; omega
   refine region_k gp_ok fun _ hK13 => ?_
   refine sS1 ?_
   refine sS fun _ hS => ?_; (repeat refine aI qSk0 ?_); (first | apply hS | (refine whole_yes qSk0 ?_; apply hS) | (refine whole_sub ?_; apply hS)); clear hS
   refine sS fun _ hS => ?_; (repeat refine aI qSk0 ?_); apply hS; clear hS
   refine sS fun _ hS => ?_; (repeat first | refine aI qSk0 ?_ | refine whole_yes qSk0 ?_ | refine whole_sub ?_); (intro cap3 hcap3; apply hS); clear hS
   refine sS1 ?_
   refine s_nil ?_; apply hK13; apply hK12; refine region_k gp_ok fun _ hK14 => ?_
   iterate 2 refine sS1 ?_
   refine sS fun _ hS => ?_; (repeat refine aI qSk0 ?_); apply hS; clear hS
   refine sS1 ?_
   refine s_nil ?_; apply hK14; refine done_block ?_
   refine dnS [] (fun _ => 3) (k.1 + 1, cap3) ⟨by omega, by omega⟩ [3] ?_ ?_ ?_ ?_
   ·exact uSk0
   ·exact uSk0
   ·exact uSk0
   ·exact uSk0


end Go.Proofs.YtnhmglhbhnhnhaaDoor

namespace Go.Proofs.YtnhmglhbhnhnhaaDoor
set_option linter.unusedVariables false
open Go.Ab Go.RowKit

theorem qSl0 {a : Prop} (h : a := by first | exact vcA | (simp <;> omega) | exact (pieceC_len hw).symm | exact pieceC_len hw | (rw [pieceC_len hw]; decide) | (rw [pieceC_len hw]; omega) | exact pieceC_solid _ | exact hsec.symm | exact hsec | (show (0 : Nat) < List.length _; omega) | (show _ ≤ List.length _; omega) | (show List.length _ = _; omega) | exact inR_i64.mpr ⟨by omega, by omega⟩ | exact vcB) : a := h
theorem uSl0 {a : Prop} (h : a := by
    repeat' (first | exact trivial | refine aI ?_ ?_ | exact cC0 | refine low_cons' ?_ ?_ | exact cC1 | fail)
    all_goals first | omega | (show (0 : Nat) < List.length _; omega) | (show (total (ps.take k) : Int) + (nn : Int) = ((total (ps.take (k + 1)) : Nat) : Int); omega) | (rw [total_zero]; rfl) | (simp [total_zero]; done) | skip) : a := h

open Go.Sto
theorem repair_no {cor : Piece → Bool} {d : Disk} (h : dvalid d = false) : repairL cor d = ([], 0) := by rw [repairL, if_neg (by rw [h]; decide)]
theorem repair_yes {cor : Piece → Bool} {d : Disk} (h : dvalid d = true) {t : Nat} (ht : repairN cor d.1 = t) : repairL cor d = (d.1.take t, min d.2 (t : Int)) := by rw [repairL, if_pos h, ht]
theorem while_take {cor : Piece → Bool} : ∀ {ps : List Piece} {k : Nat}, k ≤ ps.length → (∀ s ∈ ps.take k, cor s = true) → (k = ps.length ∨ ∃ s, ps[k]? = some s ∧ cor s = false) → ps.takeWhile cor = ps.take k
  | [], k, _, _, _ => by simp
  | t :: ps, 0, _, _, h => by
    rcases h with h | ⟨s, hs, hc⟩
    · simp at h
    · obtain rfl : t = s := by simpa using hs
      rw [List.takeWhile_cons, if_neg (by rw [hc]; decide), List.take_zero]
  | t :: ps, k + 1, hk, ha, h => by
    have ht := ha t (by rw [List.take_succ_cons]; exact List.mem_cons_self)
    rw [List.takeWhile_cons, if_pos ht, List.take_succ_cons, while_take (ps := ps) (k := k) (by simpa using hk) (fun s hs => ha s (by rw [List.take_succ_cons]; exact List.mem_cons_of_mem _ hs)) (by
      rcases h with h | ⟨s, hs, hc⟩
      · exact .inl (by simpa using h)
      · exact .inr ⟨s, by simpa using hs, hc⟩)]
theorem minT_as (x : Int) (t : Nat) : SV.as (.c (.int .i64 (if (t : Int) < x then (t : Int) else x))) (.c (.int .i64 (min x (t : Int)))) := as_eq (by congr 2; split <;> omega)
theorem takeN_as {l : List UInt8} {t : Nat} (h : t ≤ l.length) : SV.as (.c (.ds (t : Int).toNat ((Cont.u8s l).take ((t : Int).toNat * 1)))) (bytesV (l.take t)) := takeI_as (t := (t : Int)) (by omega) (by omega)
def loadV (o : (List Piece × Nat) × Nat) : SV := .tup [psP o.1.1, .c (.int .i64 (o.1.2 : Nat)), .c (.int .i64 (o.2 : Nat))]
theorem loadV_low0 (ps : List Piece) (a b : Int) : SV.low 0 (.tup [psP ps, .c (.int .i64 a), .c (.int .i64 b)]) := fun p hp => by
  rcases List.mem_cons.1 hp with rfl | hp
  · trivial
  · rcases List.mem_cons.1 hp with rfl | hp
    · trivial
    · rw [List.mem_singleton.1 hp]; trivial
theorem load_no {cor : Piece → Bool} {d : Disk} (h : dvalid d = false) : loadL cor d = (([], 0), 1) := by rw [loadL, if_neg (by rw [h]; decide)]
theorem load_yes {cor : Piece → Bool} {d : Disk} (h : dvalid d = true) : loadL cor d = (((Go.Sto.pieces d.1).filter cor, total (Go.Sto.pieces d.1)), 0) := by rw [loadL, if_pos h]
def corK (cor : Piece → Bool) (ps : List Piece) (k : Nat) : List Piece := (ps.take k).filter cor
theorem corK_yes {cor : Piece → Bool} {ps : List Piece} {k : Nat} {s : Piece} (h : ps[k]? = some s) (hc : cor s = true) : corK cor ps (k + 1) = corK cor ps k ++ [s] := by rw [corK, corK, List.take_add_one, h, List.filter_append]; simp [hc]
theorem corK_no {cor : Piece → Bool} {ps : List Piece} {k : Nat} {s : Piece} (h : ps[k]? = some s) (hc : cor s = false) : corK cor ps (k + 1) = corK cor ps k := by rw [corK, corK, List.take_add_one, h, List.filter_append]; simp [hc]
theorem corK_len (cor : Piece → Bool) (ps : List Piece) (k : Nat) : (corK cor ps k).length ≤ k := Nat.le_trans (List.length_filter_le _ _) (by rw [List.length_take]; omega)
theorem corK_wf {cor : Piece → Bool} {ps : List Piece} (h : allWf ps) (k : Nat) : allWf (corK cor ps k) := fun s hs => wf_take h k s ((List.mem_filter.1 hs).1)
theorem corK_full (cor : Piece → Bool) (ps : List Piece) : corK cor ps ps.length = ps.filter cor := by rw [corK, List.take_length]
noncomputable def gl_ : Ctx := { P := Tryd.prog, ty := ty, glob := gl, fs := [(39, .flat validRS), (44, .data atS), (31, .flat correctRS), (40, .data piecesS)] }
theorem gl__ok : gl_.OK := ⟨tyOK, ⟨⟨enters_mk Tryd.func39 (by kernel_rfl) rfl, validR_ok⟩, ⟨enters_mk Tryd.func44 (by kernel_rfl) rfl, at_ok⟩, ⟨enters_mk Tryd.func31 (by kernel_rfl) rfl, correctR_ok⟩, ⟨enters_mk Tryd.func40 (by kernel_rfl) rfl, pieces_ok⟩, trivial⟩, mixed⟩
@[simp] theorem gl__ty : gl_.ty = ty := rfl

def repairRS : QSpec := fun vs K => ∃ (d : Disk) (secret : List UInt8), vs = [diskV d, .agg (.u8s secret)] ∧ (dok d ∧ secret.length = 32) ∧ K (diskV (repairL (corF secret) d))
set_option maxHeartbeats 1000000 in
theorem repairR_ok : DataOK Tryd.prog gl 28 repairRS := by
 refine data_of (Γ := gl_) (N := 40) Tryd.func28 rfl rfl fun vs K h => ?_
 obtain ⟨d, secret, rfl, ⟨⟨hd, hd1, hd2⟩, hsec⟩, h⟩ := h
 refine ⟨_, h, disk_low _, by simp, fun w I => ?_⟩
 refine seq_k fun _ hK1 => ?_; refine region_k gl__ok fun _ hK2 => ?_
 refine sS fun _ hS => ?_; (repeat refine aI qSl0 ?_); apply hS; clear hS
 refine sS fun _ hS => ?_; (repeat refine aI qSl0 ?_); apply hS; clear hS
 refine sS fun _ hS => ?_; (repeat refine aI qSl0 ?_); apply hS; clear hS; refine s_nil ?_; apply hK2; apply hK1; refine seq_k fun _ hK3 => ?_; refine seq_k fun _ hK4 => ?_; refine region_k gl__ok fun _ hK5 => ?_
 refine sS fun _ hS => ?_; (repeat refine aI qSl0 ?_); (first | apply hS | (refine whole_yes qSl0 ?_; apply hS) | (refine whole_sub ?_; apply hS)); clear hS
 refine sS fun _ hS => ?_; (repeat first | refine aI qSl0 ?_ | refine whole_yes qSl0 ?_ | refine whole_sub ?_); refine ⟨d, rfl, ⟨by omega, by omega, by omega⟩, ?_⟩; (repeat refine aI qSl0 ?_); (first | apply hS | (intro cap1 hcap1; apply hS)); clear hS
 refine sS1 ?_
 refine s_nil ?_; apply hK5; apply hK4
 refine WP_cond (b := _) rfl (fun h_t10 => ?_) (fun h_t10 => ?_)
 ·simp only [Bool.not_eq_true'] at h_t10
  refine seq_k fun _ hK6 => ?_; refine region_k gl__ok fun _ hK7 => ?_
  refine s_stepA rfl (by decide) rfl fun _ hS => ?_
  repeat refine aI qSl0 ?_
  refine hS _ (diskV ([], 0)) _ _ (disk0_as) ?_
  clear hS
  refine sS0 fun _ hS => ?_; (repeat refine aI qSl0 ?_); (first | apply hS | (refine splice_full qSl0 ?_; apply hS)); clear hS; refine s_nil ?_; apply hK7; apply hK6
  rw [repair_no h_t10]
  refine WP_ret (Done_data gl__ok (fun _ _ h => h) (disk_low _) [] [.cell 4 37] rfl ?_)
  repeat' (first | exact trivial | refine aI ?_ ?_ | exact cC0 | refine low_cons' ?_ ?_ | exact cC1 | fail)
  all_goals first | (show 0 + _ * 1 ≤ List.length _; simp; done) | exact (if_pos ⟨rfl, (by show List.length _ = _; simp)⟩).symm | exact Nat.one_pos | (simp; done) | (simp; omega) | skip
 ·simp only [Bool.not_eq_false'] at h_t10
  refine WP_skip ?_; apply hK3; refine seq_k fun _ hK8 => ?_; refine region_k gl__ok fun _ hK9 => ?_
  refine sS1 ?_
  refine s_nil ?_; apply hK9; apply hK8; refine WP_block ?_
  obtain ⟨ps, hps⟩ : ∃ ps, ps = Go.Sto.pieces d.1 := ⟨_, rfl⟩
  refine WP_loop (α := Nat) (fun k => [(2, .c (.dp (.cells [.ds d.1.length (.u8s d.1), .int .i64 d.2]) 0)), (3, .c (.dp (.u8s secret) 0)), (4, .c (.ptr 0 0)), (5, .c (.int .i64 (total (ps.take k) : Nat)))]) (fun k => [(0, .own 37 (.cells ([.nils] ++ [.int .i64 0])) 2)]) 1 (fun k => k ≤ ps.length ∧ ∀ s ∈ ps.take k, corF secret s = true) (fun k => ps.length - k) ?_ ?_
  ·refine dnS [0, 1] (fun _ => 2) 0 ⟨Nat.zero_le _, fun s hs => by simp at hs⟩ [2] ?_ ?_ ?_ ?_
   ·exact uSl0
   ·exact uSl0
   ·exact uSl0
   ·exact uSl0
  ·intro k hk
   obtain ⟨x, hx⟩ : ∃ x, x = d.1.drop (total (ps.take k)) := ⟨_, rfl⟩
   have hTl : total (ps.take k) ≤ d.1.length := by rw [hps]; exact Nat.le_trans (total_take_le _ _) (total_le _)
   have hxl : x.length = d.1.length - total (ps.take k) := by rw [hx, List.length_drop]
   obtain ⟨s, nn, ok, hr⟩ : ∃ s nn ok, recT x = (s, nn, ok) := ⟨_, _, _, rfl⟩
   have hle := recT_le x
   rw [hr] at hle
   obtain ⟨hnl, hw, hsb⟩ := hle
   replace hnl : nn ≤ x.length := hnl
   replace hsb : s.b.length ≤ 65536 := hsb
   replace hw : Piece.wf s := hw
   refine WP_block ?_; refine seq_k fun _ hK10 => ?_; refine region_k gl__ok fun _ hK11 => ?_
   refine sS fun _ hS => ?_; (repeat refine aI qSl0 ?_); apply hS; clear hS
   refine sS fun _ hS => ?_; (repeat refine aI qSl0 ?_); (first | apply hS | (refine whole_yes qSl0 ?_; apply hS) | (refine whole_sub ?_; apply hS)); clear hS
   refine sS1 ?_
   refine s_stepA rfl (by decide) rfl fun _ hS => ?_
   repeat refine aI qSl0 ?_
   first | refine hS _ (bytesV x) _ _ (drop_as hx hTl) ?_ | (refine ite_yes qSl0 ?_; (repeat refine aI qSl0 ?_); refine hS _ (bytesV x) _ _ (drop_as hx hTl) ?_)
   clear hS
   refine s_stepA rfl (by decide) rfl fun _ hS => ?_
   repeat first | refine aI qSl0 ?_ | refine whole_yes qSl0 ?_ | refine whole_sub ?_
   refine ⟨x, rfl, by omega, ?_⟩
   repeat refine aI qSl0 ?_
   first | refine hS _ (.tup [.agg (pieceC s), .c (.int .i64 (nn : Nat))]) _ _ (as_eq (by rw [atV, hr])) ?_ | (intro cap4 hcap4; refine hS _ (.tup [.agg (pieceC s), .c (.int .i64 (nn : Nat))]) _ _ (as_eq (by rw [atV, hr])) ?_)
   clear hS
   refine sS1 ?_
   refine sS fun _ hS => ?_; (repeat refine aI qSl0 ?_); apply hS; clear hS
   refine sS fun _ hS => ?_; (repeat refine aI qSl0 ?_); apply hS; clear hS
   refine sS fun _ hS => ?_; (repeat refine aI qSl0 ?_); apply hS; clear hS
   refine sS0 fun _ hS => ?_; (repeat refine aI qSl0 ?_); (first | apply hS | (refine splice_full qSl0 ?_; apply hS)); clear hS
   refine sS1 ?_
   refine s_nil ?_; apply hK11; apply hK10; refine seq_k fun _ hK12 => ?_; refine seq_k fun _ hK13 => ?_; refine region_k gl__ok fun _ hK14 => ?_
   refine sS1 ?_
   refine sS fun _ hS => ?_; (repeat refine aI qSl0 ?_); apply hS; clear hS
   refine sS fun _ hS => ?_
   refine s_split hS (fun hb2 => ?_) (fun hb2 => ?_)
   ·clear hS
    try simp only [dQ] at hb2
    refine sN ?_; refine sN ?_; refine sN ?_; refine sN ?_
    refine sS1 ?_
    refine s_nil ?_; apply hK14; apply hK13
    refine WP_cond (b := _) rfl (fun _ => ?_) (fun h_t27 => ?_)
    rotate_left 1
    ·exfalso; simp at h_t27
    refine seq_k fun _ hK15 => ?_
    refine tail_k gl__ok 8 (by kernel_rfl) fun _ hK16 => ?_
    simp only [List.take_succ_cons, List.take_zero, List.drop_succ_cons, List.drop_zero]
    refine qS fun _ hS => ?_; (repeat refine aI qSl0 ?_); apply hS; clear hS
    refine qS fun _ hS => ?_; (repeat refine aI qSl0 ?_); (first | apply hS | (refine whole_yes qSl0 ?_; apply hS) | (refine whole_sub ?_; apply hS)); clear hS
    refine qQ1 ?_
    refine q_stepA rfl (by decide) rfl fun _ hS => ?_
    repeat refine aI qSl0 ?_
    first | refine hS _ (bytesV (d.1.take (total (ps.take k)))) (takeN_as hTl) ?_ | (refine ite_yes qSl0 ?_; (repeat refine aI qSl0 ?_); refine hS _ (bytesV (d.1.take (total (ps.take k)))) (takeN_as hTl) ?_)
    clear hS
    refine qS fun _ hS => ?_; (repeat refine aI qSl0 ?_); apply hS; clear hS
    refine qS fun _ hS => ?_; (repeat refine aI qSl0 ?_); (first | apply hS | (refine whole_yes qSl0 ?_; apply hS) | (refine whole_sub ?_; apply hS)); clear hS
    refine qQ1 ?_
    refine q_stepA rfl (by decide) rfl fun _ hS => ?_
    repeat refine aI qSl0 ?_
    refine hS _ (.c (.int .i64 (min d.2 ((total (ps.take k) : Nat) : Int)))) (minT_as _ _) ?_
    clear hS; refine q_nil ?_
    refine sS fun _ hS => ?_; (repeat refine aI qSl0 ?_); apply hS; clear hS
    refine sS0 fun _ hS => ?_; (repeat refine aI qSl0 ?_); (first | apply hS | (refine splice_full qSl0 ?_; apply hS)); clear hS; refine s_nil ?_; apply hK16; apply hK15
    obtain ⟨e1, e2⟩ := log_step hps hk.1 hx hr
    have hN : repairN (corF secret) d.1 = total (ps.take k) := by
     rw [repairN, ← hps]
     congr 1
     refine while_take hk.1 hk.2 ?_
     first | exact .inl (e1 (by omega)) | exact .inr ⟨s, (e2 (by omega)).1, by simpa using h_t27⟩
    rw [repair_yes h_t10 hN]
    refine WP_ret (Done_data gl__ok (fun _ _ h => h) (disk_low _) [] [.cell 4 37] rfl ?_)
    repeat' (first | exact trivial | refine aI ?_ ?_ | exact cC0 | refine low_cons' ?_ ?_ | exact cC1 | fail)
    all_goals first | (show 0 + _ * 1 ≤ List.length _; simp; done) | exact (if_pos ⟨rfl, (by show List.length _ = _; simp)⟩).symm | exact Nat.one_pos | (simp; done) | (simp; omega) | skip
   ·clear hS
    try simp only [dQ] at hb2
    refine sT fun _ hS => ?_; (repeat refine aI qSl0 ?_); (first | apply hS | (refine whole_yes qSl0 ?_; apply hS) | (refine whole_sub ?_; apply hS)); clear hS
    refine sT fun _ hS => ?_; (repeat refine aI qSl0 ?_); (first | apply hS | (refine whole_yes qSl0 ?_; apply hS) | (refine whole_sub ?_; apply hS)); clear hS
    refine sT fun _ hS => ?_; (repeat first | refine aI qSl0 ?_ | refine whole_yes qSl0 ?_ | refine whole_sub ?_); refine aI (piece_noclo _) ?_; refine viewL_flat (piece_flat _) ?_; refine ⟨s, secret, rfl, ⟨hw, hsec, by omega⟩, ?_⟩; (repeat refine aI qSl0 ?_); (first | apply hS | (intro cap5 hcap5; apply hS)); clear hS
    refine sT fun _ hS => ?_; apply hS; clear hS
    refine sS1 ?_
    refine s_nil ?_; apply hK14; apply hK13
    refine WP_cond (b := _) rfl (fun h_t27 => ?_) (fun h_t27 => ?_)
    ·try simp only [dQ, if_false] at h_t27
     refine seq_k fun _ hK17 => ?_
     refine tail_k gl__ok 8 (by kernel_rfl) fun _ hK18 => ?_
     simp only [List.take_succ_cons, List.take_zero, List.drop_succ_cons, List.drop_zero]
     refine qS fun _ hS => ?_; (repeat refine aI qSl0 ?_); apply hS; clear hS
     refine qS fun _ hS => ?_; (repeat refine aI qSl0 ?_); (first | apply hS | (refine whole_yes qSl0 ?_; apply hS) | (refine whole_sub ?_; apply hS)); clear hS
     refine qQ1 ?_
     refine q_stepA rfl (by decide) rfl fun _ hS => ?_
     repeat refine aI qSl0 ?_
     first | refine hS _ (bytesV (d.1.take (total (ps.take k)))) (takeN_as hTl) ?_ | (refine ite_yes qSl0 ?_; (repeat refine aI qSl0 ?_); refine hS _ (bytesV (d.1.take (total (ps.take k)))) (takeN_as hTl) ?_)
     clear hS
     refine qS fun _ hS => ?_; (repeat refine aI qSl0 ?_); apply hS; clear hS
     refine qS fun _ hS => ?_; (repeat refine aI qSl0 ?_); (first | apply hS | (refine whole_yes qSl0 ?_; apply hS) | (refine whole_sub ?_; apply hS)); clear hS
     refine qQ1 ?_
     refine q_stepA rfl (by decide) rfl fun _ hS => ?_
     repeat refine aI qSl0 ?_
     refine hS _ (.c (.int .i64 (min d.2 ((total (ps.take k) : Nat) : Int)))) (minT_as _ _) ?_
     clear hS; refine q_nil ?_
     refine sS fun _ hS => ?_; (repeat refine aI qSl0 ?_); apply hS; clear hS
     refine sS0 fun _ hS => ?_; (repeat refine aI qSl0 ?_); (first | apply hS | (refine splice_full qSl0 ?_; apply hS)); clear hS; refine s_nil ?_; apply hK18; apply hK17
     obtain ⟨e1, e2⟩ := log_step hps hk.1 hx hr
     have hN : repairN (corF secret) d.1 = total (ps.take k) := by
      rw [repairN, ← hps]
      congr 1
      refine while_take hk.1 hk.2 ?_
      first | exact .inl (e1 (by omega)) | exact .inr ⟨s, (e2 (by omega)).1, by simpa using h_t27⟩
     rw [repair_yes h_t10 hN]
     refine WP_ret (Done_data gl__ok (fun _ _ h => h) (disk_low _) [] [.cell 4 37] rfl ?_)
     repeat' (first | exact trivial | refine aI ?_ ?_ | exact cC0 | refine low_cons' ?_ ?_ | exact cC1 | fail)
     all_goals first | (show 0 + _ * 1 ≤ List.length _; simp; done) | exact (if_pos ⟨rfl, (by show List.length _ = _; simp)⟩).symm | exact Nat.one_pos | (simp; done) | (simp; omega) | skip
    ·try simp only [dQ, if_false] at h_t27
     refine WP_skip ?_; apply hK12
     obtain ⟨hks, hnn, hT⟩ := (log_step hps hk.1 hx hr).2 (by omega)
     have hkl : k < ps.length := (List.getElem?_eq_some_iff.1 hks).1
     have hco : corF secret s = true := by simpa using h_t27
     refine region_k gl__ok fun _ hK19 => ?_
     iterate 2 refine sS1 ?_
     refine sS fun _ hS => ?_; (repeat refine aI qSl0 ?_); apply hS; clear hS
     refine sS1 ?_
     refine s_nil ?_; apply hK19; refine done_block ?_
     refine dnS [] id (k + 1) ⟨⟨by omega, fun t ht => by
       rw [List.take_add_one, hks, Option.toList_some] at ht
       rcases List.mem_append.1 ht with ht | ht
       ·exact hk.2 t ht
       ·rw [List.mem_singleton.1 ht]; exact hco⟩, by omega⟩ [0] ?_ ?_ ?_ ?_
     ·exact uSl0
     ·exact uSl0
     ·exact uSl0
     ·exact uSl0


end Go.Proofs.YtnhmglhbhnhnhaaDoor

namespace Go.Proofs.YtnhmglhbhnhnhaaDoor
set_option linter.unusedVariables false
open Go.Ab Go.RowKit

theorem qSm0 {a : Prop} (h : a := by first | exact vcA | (simp <;> omega) | exact hl1 | exact hl1.symm | (show _ ≤ (pcl ps).length; omega) | (show _ < (pcl ps).length; omega) | exact (pieceC_len hw).symm | exact pieceC_len hw | (rw [pieceC_len hw]; decide) | (rw [pieceC_len hw]; omega) | exact pieceC_solid _ | exact hsec.symm | exact hsec | (show (0 : Nat) < List.length _; omega) | (show _ ≤ List.length _; omega) | (show List.length _ = _; omega) | exact inR_i64.mpr ⟨by omega, by omega⟩ | exact ⟨by omega, by omega, pcl_solid _⟩ | exact And.intro (by omega) (And.intro (by omega) (pieceC_solid s)) | (show _ ≤ (pieceL s).length; have := pieceL_len hw; omega) | (show (pieceL s).length = _; rw [pieceL_len hw]) | (show 0 < (65 : Nat); omega) | exact vcB) : a := h
theorem uSm0 {a : Prop} (h : a := by
    repeat' (first | exact trivial | refine aI ?_ ?_ | exact cC0 | refine low_cons' ?_ ?_ | exact cC1 | fail)
    all_goals first | omega | (show (0 : Nat) < List.length _; omega) | (show Cont.to _ _ _ _ (Cont.cells (_ ++ _)) (Cont.cells (pcl (corK (corF secret) ps (k.1 + 1)))); rw [corK_yes hks h_tt, pcl_app, pcl_one]; exact to_app (pcl_to _) (piece_to s)) | (show _ = (corK (corF secret) ps (k.1 + 1)).length; rw [corK_yes hks h_tt, List.length_append]; rfl) | (show _ = (corK (corF secret) ps (k.1 + 1)).length; rw [corK_no hks h_tt]) | (show Cont.to _ _ _ _ _ (Cont.cells (pcl (corK (corF secret) ps (k.1 + 1)))); rw [corK_no hks h_tt]; exact pcl_to _) | exact pcl_to _ | exact pcl_low | exact pcl_isD _ | (rw [corK_no hks h_tt]; done) | (simp [corK]; done) | skip) : a := h

open Go.Sto
def getV (o : Piece × Nat) : SV := .tup [.agg (pieceC o.1), .c (.int .i64 (o.2 : Nat))]
theorem getV_eq {o : Piece × Nat} {s : Piece} {c : Nat} (h : o = (s, c)) : getV o = .tup [.agg (pieceC s), .c (.int .i64 (c : Nat))] := by rw [h]; rfl
theorem get_no {cor : Piece → Bool} {d : Disk} {key : List UInt8} (h : dvalid d = false) : getL cor d key = (noPiece, 1) := by rw [getL, if_neg (by rw [h]; decide)]
theorem get_yes {cor : Piece → Bool} {d : Disk} {key : List UInt8} (h : dvalid d = true) : getL cor d key = getB cor key (Go.Sto.pieces d.1).reverse 3 := by rw [getL, if_pos h, getB_eq]
theorem take_rev {ps : List Piece} {k : Nat} {s : Piece} (h : ps[k]? = some s) : (ps.take (k + 1)).reverse = s :: (ps.take k).reverse := by rw [List.take_add_one, h]; simp
theorem loadV_eq {o : (List Piece × Nat) × Nat} {ps : List Piece} {a b : Nat} (h : o = ((ps, a), b)) : loadV o = .tup [psP ps, .c (.int .i64 (a : Nat)), .c (.int .i64 (b : Nat))] := by rw [h]; rfl
def loadRS : QSpec := fun vs K => ∃ (d : Disk) (secret : List UInt8), vs = [diskV d, .agg (.u8s secret)] ∧ (dok d ∧ secret.length = 32) ∧ K (loadV (loadL (corF secret) d))
set_option maxHeartbeats 1000000 in
theorem loadR_ok : DataOK Tryd.prog gl 19 loadRS := by
 refine data_of (Γ := gl_) (N := 42) Tryd.func19 rfl rfl fun vs K h => ?_
 obtain ⟨d, secret, rfl, ⟨⟨hd, hd1, hd2⟩, hsec⟩, h⟩ := h
 refine ⟨_, h, loadV_low0 _ _ _, by simp, fun w I => ?_⟩
 refine seq_k fun _ hK1 => ?_; refine region_k gl__ok fun _ hK2 => ?_
 refine sS fun _ hS => ?_; (repeat refine aI qSm0 ?_); apply hS; clear hS
 refine sS fun _ hS => ?_; (repeat refine aI qSm0 ?_); apply hS; clear hS
 iterate 3 refine sS1 ?_
 refine s_nil ?_; apply hK2; apply hK1; refine seq_k fun _ hK3 => ?_; refine seq_k fun _ hK4 => ?_; refine region_k gl__ok fun _ hK5 => ?_
 refine sS fun _ hS => ?_; (repeat refine aI qSm0 ?_); (first | apply hS | (refine whole_yes qSm0 ?_; apply hS) | (refine whole_sub ?_; apply hS)); clear hS
 refine sS fun _ hS => ?_; (repeat first | refine aI qSm0 ?_ | refine whole_yes qSm0 ?_ | refine whole_sub ?_); refine ⟨d, rfl, ⟨by omega, by omega, by omega⟩, ?_⟩; (repeat refine aI qSm0 ?_); (first | apply hS | (intro cap1 hcap1; apply hS)); clear hS
 refine sS1 ?_
 refine s_nil ?_; apply hK5; apply hK4
 refine WP_cond (b := _) rfl (fun h_t13 => ?_) (fun h_t13 => ?_)
 ·simp only [Bool.not_eq_true'] at h_t13
  refine seq_k fun _ hK6 => ?_; refine region_k gl__ok fun _ hK7 => ?_
  iterate 3 refine sS1 ?_
  refine s_nil ?_; apply hK7; apply hK6
  rw [loadV_eq (load_no h_t13)]
  refine WP_ret (Done_data gl__ok (fun _ _ h => h) (loadV_low0 _ _ _) [] [.tmp 4, .tmp 5, .tmp 6] rfl ?_)
  repeat' (first | exact trivial | refine aI ?_ ?_ | exact cC0 | refine low_cons' ?_ ?_ | exact cC1 | fail)
  all_goals first | (show 0 + _ * 1 ≤ List.length _; simp; done) | exact (if_pos ⟨rfl, (by show List.length _ = _; simp)⟩).symm | exact Nat.one_pos | (simp; done) | (simp; omega) | skip
 ·simp only [Bool.not_eq_false'] at h_t13
  refine WP_skip ?_; apply hK3; refine seq_k fun _ hK8 => ?_
  obtain ⟨ps, hps⟩ : ∃ ps, ps = Go.Sto.pieces d.1 := ⟨_, rfl⟩
  have hwf : allWf ps := hps ▸ wf_pieces d.1
  have hfew := pieces_few d.1
  rw [← hps] at hfew
  have htot := total_le d.1
  rw [← hps] at htot
  have hsm : ∀ s ∈ ps, s.b.length ≤ 65536 := fun s hs => (Go.Sto.pieces_ok d.1 s (hps ▸ hs)).2.2
  have hpv : piecesV d.1 = .tup [psP ps, .c (.int .i64 (total ps : Nat))] := by rw [piecesV, ← hps]
  refine region_k gl__ok fun _ hK9 => ?_
  refine sS fun _ hS => ?_; (repeat refine aI qSm0 ?_); apply hS; clear hS
  refine sS fun _ hS => ?_; (repeat refine aI qSm0 ?_); (first | apply hS | (refine whole_yes qSm0 ?_; apply hS) | (refine whole_sub ?_; apply hS)); clear hS
  refine s_stepA rfl (by decide) rfl fun _ hS => ?_
  repeat first | refine aI qSm0 ?_ | refine whole_yes qSm0 ?_ | refine whole_sub ?_
  refine ⟨d.1, rfl, hd, ?_⟩
  repeat refine aI qSm0 ?_
  first | refine hS _ (.tup [psP ps, .c (.int .i64 (total ps : Nat))]) _ _ (as_eq hpv) ?_ | (intro cap2 hcap2; refine hS _ (.tup [psP ps, .c (.int .i64 (total ps : Nat))]) _ _ (as_eq hpv) ?_)
  clear hS
  refine sS1 ?_
  refine sS fun _ hS => ?_; (repeat refine aI qSm0 ?_); apply hS; clear hS
  refine sS fun _ hS => ?_; (repeat refine aI qSm0 ?_); apply hS; clear hS
  iterate 2 refine sS1 ?_
  refine s_nil ?_; apply hK9; apply hK8; refine seq_k fun _ hK10 => ?_; refine region_k gl__ok fun _ hK11 => ?_
  refine sS fun _ hS => ?_; (repeat refine aI qSm0 ?_); apply hS; clear hS
  refine sS1 ?_
  refine s_nil ?_; apply hK11; apply hK10; refine seq_k fun _ hK12 => ?_; refine seq_k fun _ hK13 => ?_; refine region_k gl__ok fun _ hK14 => ?_
  refine sS1 ?_
  refine s_nil ?_; apply hK14; apply hK13; refine WP_block ?_
  refine WP_loop (α := Nat × Nat) (fun k => [(3, .c (.dp (.u8s secret) 0)), (7, psV ps), (8, .c (.int .i64 (total ps : Nat))), (9, .c (.slice 0 0 (corK (corF secret) ps k.1).length k.2)), (10, .c (.int .i64 (k.1 : Nat)))]) (fun k => [(0, .own 42 (pcells (corK (corF secret) ps k.1)) (k.2 * 65))]) 1 (fun k => k.1 ≤ ps.length) (fun k => ps.length - k.1) ?_ ?_
  ·refine dnS [0, 1] (fun _ => 2) (0, 0) (Nat.zero_le _) [2] ?_ ?_ ?_ ?_
   ·exact uSm0
   ·exact uSm0
   ·exact uSm0
   ·exact uSm0
  ·intro k hk
   have hcl := pcl_len (corK_wf (cor := corF secret) hwf k.1)
   have hck := corK_len (corF secret) ps k.1
   refine seq_k fun _ hK15 => ?_; refine seq_k fun _ hK16 => ?_; refine region_k gl__ok fun _ hK17 => ?_
   iterate 2 refine sS1 ?_
   refine sS fun _ hS => ?_; (repeat refine aI qSm0 ?_); apply hS; clear hS
   refine sS fun _ hS => ?_; (repeat refine aI qSm0 ?_); apply hS; clear hS; refine s_nil ?_; apply hK17; apply hK16
   refine WP_cond (b := _) rfl (fun h_t24 => ?_) (fun h_t24 => ?_)
   ·try simp only [dQ] at h_t24
    refine WP_skip ?_; apply hK15; refine seq_k fun _ hK18 => ?_; refine WP_block ?_; refine seq_k fun _ hK19 => ?_
    have hkl : k.1 < ps.length := by omega
    obtain ⟨s, hks⟩ : ∃ s, ps[k.1]? = some s := ⟨_, List.getElem?_eq_getElem hkl⟩
    have hw := hwf s (List.mem_of_getElem? hks)
    have hl1 := pcl_len hwf
    refine quiet_k gl__ok (by kernel_rfl) fun _ hK20 => ?_
    iterate 2 refine qQ1 ?_
    refine qS fun _ hS => ?_; (repeat refine aI qSm0 ?_); apply hS; clear hS
    refine q_stepA rfl (by decide) rfl fun _ hS => ?_
    repeat refine aI qSm0 ?_
    first | refine hS _ (pieceV s) (pcl_sub hwf hks) ?_ | (refine whole_yes qSm0 ?_; refine hS _ (pieceV s) (pcl_sub hwf hks) ?_) | (refine whole_sub ?_; refine hS _ (pieceV s) (pcl_sub hwf hks) ?_)
    clear hS
    refine qS fun _ hS => ?_; (repeat refine aI qSm0 ?_); (first | apply hS | (refine whole_yes qSm0 ?_; apply hS) | (refine whole_sub ?_; apply hS)); clear hS
    refine qS fun _ hS => ?_; (repeat first | refine aI qSm0 ?_ | refine whole_yes qSm0 ?_ | refine whole_sub ?_); refine aI (piece_noclo _) ?_; refine viewL_flat (piece_flat _) ?_; refine ⟨s, secret, rfl, ⟨hw, hsec, by have := hsm s (List.mem_of_getElem? hks); omega⟩, ?_⟩; (repeat refine aI qSm0 ?_); (first | apply hS | (intro cap5 hcap5; apply hS)); clear hS; refine q_nil ?_; apply hK20; apply hK19
    refine WP_cond (b := _) rfl (fun h_t32 => ?_) (fun h_t32 => ?_)
    ·skip
     have h_tt := h_t32
     refine region_k gl__ok fun _ hK21 => ?_
     iterate 3 refine sS1 ?_
     refine sS fun _ hS => ?_; (repeat refine aI qSm0 ?_); apply hS; clear hS
     refine s_stepA rfl (by decide) rfl fun _ hS => ?_
     repeat refine aI qSm0 ?_
     first | refine hS _ (pieceV s) _ _ (pcl_sub hwf hks) ?_ | (refine whole_yes qSm0 ?_; refine hS _ (pieceV s) _ _ (pcl_sub hwf hks) ?_) | (refine whole_sub ?_; refine hS _ (pieceV s) _ _ (pcl_sub hwf hks) ?_)
     clear hS
     refine sS fun _ hS => ?_; (repeat refine aI qSm0 ?_); apply hS; clear hS
     refine sS fun _ hS => ?_; (repeat first | refine aI qSm0 ?_ | refine whole_yes qSm0 ?_ | refine whole_sub ?_); (intro cap6 hcap6; apply hS); clear hS
     refine sS1 ?_
     refine s_nil ?_; apply hK21; refine done_block ?_; apply hK18; refine region_k gl__ok fun _ hK22 => ?_
     refine sS1 ?_
     refine sS fun _ hS => ?_; (repeat refine aI qSm0 ?_); apply hS; clear hS
     refine sS1 ?_
     refine s_nil ?_; apply hK22
     refine dnS [] (fun _ => 2) (k.1 + 1, cap6) ⟨by omega, by omega⟩ [2] ?_ ?_ ?_ ?_
     ·exact uSm0
     ·exact uSm0
     ·exact uSm0
     ·exact uSm0
    ·have h_tt := h_t32
     refine WP_skip ?_; refine done_block ?_; apply hK18; refine region_k gl__ok fun _ hK23 => ?_
     refine sS1 ?_
     refine sS fun _ hS => ?_; (repeat refine aI qSm0 ?_); apply hS; clear hS
     refine sS1 ?_
     refine s_nil ?_; apply hK23
     refine dnS [] id (k.1 + 1, k.2) ⟨by omega, by omega⟩ [0] ?_ ?_ ?_ ?_
     ·exact uSm0
     ·exact uSm0
     ·exact uSm0
     ·exact uSm0
   ·try simp only [dQ] at h_t24
    refine WP_exit ?_; refine done_thenx ?_; refine done_thenx ?_
    refine Done_hit ?_
    apply hK12; refine seq_k fun _ hK24 => ?_; refine region_k gl__ok fun _ hK25 => ?_
    iterate 5 refine sS1 ?_
    refine s_nil ?_; apply hK25; apply hK24
    obtain ⟨k, cap⟩ := k
    obtain rfl : k = ps.length := by omega
    simp only at hcl
    rw [loadV_eq (load_yes h_t13), ← hps, ← corK_full]
    refine WP_ret (Done_data gl__ok (fun _ _ h => h) (loadV_low0 _ _ _) [0] [.tmp 4, .tmp 5, .tmp 6] rfl ?_)
    repeat' (first | exact trivial | refine aI ?_ ?_ | exact cC0 | refine low_cons' ?_ ?_ | exact cC1 | fail)
    all_goals first | exact pcl_isD _ | (show 0 + (corK (corF secret) ps ps.length).length * 65 ≤ (pcl (corK (corF secret) ps ps.length)).length; omega) | (show (0 : Nat) < 65; omega) | exact (if_pos ⟨rfl, hcl⟩).symm | (simp; done) | skip


end Go.Proofs.YtnhmglhbhnhnhaaDoor

namespace Go.Proofs.YtnhmglhbhnhnhaaDoor
set_option linter.unusedVariables false
open Go.Ab Go.RowKit

theorem qSn0 {a : Prop} (h : a := by first | exact vcA | (simp <;> omega) | exact hl1 | exact hl1.symm | (show _ ≤ (pcl ps).length; omega) | (show _ < (pcl ps).length; omega) | exact (pieceC_len hw).symm | exact pieceC_len hw | (rw [pieceC_len hw]; decide) | (rw [pieceC_len hw]; omega) | exact pieceC_solid _ | exact hsec.symm | exact hsec | (show (0 : Nat) < List.length _; omega) | (show _ ≤ List.length _; omega) | (show List.length _ = _; omega) | exact inR_i64.mpr ⟨by omega, by omega⟩ | exact ⟨by omega, by omega, pcl_solid _⟩ | exact And.intro (by omega) (And.intro (by omega) (pieceC_solid s)) | (show _ ≤ (pieceL s).length; have := pieceL_len hw; omega) | (show (pieceL s).length = _; rw [pieceL_len hw]) | (show 0 < (65 : Nat); omega) | exact vcB) : a := h
theorem qSn1 {a : Prop} (h : a := by first | exact vcA | (simp <;> omega) | (have hl1 := pcl_len hps; have hl2 := pcl_len hqs; first | exact hl1 | exact hl2 | exact hl1.symm | exact hl2.symm | (show (_ : Nat) = (pcl ps).length; omega) | (show (pcl ps).length = _; omega)) | exact vcB) : a := h
theorem uSn0 {a : Prop} (h : a := by
    repeat' (first | exact trivial | refine aI ?_ ?_ | exact cC0 | refine low_cons' ?_ ?_ | exact cC1 | fail)
    all_goals first | omega | (show (0 : Nat) < List.length _; omega) | (show Cont.to _ _ _ _ (Cont.cells (_ ++ _)) (Cont.cells (pcl (corK (corF secret) ps (k.1 + 1)))); rw [corK_yes hks h_tt, pcl_app, pcl_one]; exact to_app (pcl_to _) (piece_to s)) | (show _ = (corK (corF secret) ps (k.1 + 1)).length; rw [corK_yes hks h_tt, List.length_append]; rfl) | (show _ = (corK (corF secret) ps (k.1 + 1)).length; rw [corK_no hks h_tt]) | (show Cont.to _ _ _ _ _ (Cont.cells (pcl (corK (corF secret) ps (k.1 + 1)))); rw [corK_no hks h_tt]; exact pcl_to _) | exact pcl_to _ | exact pcl_low | exact pcl_isD _ | (rw [corK_no hks h_tt]; done) | (simp [corK]; done) | skip) : a := h

open Go.Sto
theorem pcl_take {ps : List Piece} (h : allWf ps) {n : Nat} (hn : n ≤ ps.length) : (pcl ps).take (n * 65) = pcl (ps.take n) := by
  have e : pcl ps = pcl (ps.take n) ++ pcl (ps.drop n) := by rw [← pcl_app, List.take_append_drop]
  have hl : (pcl (ps.take n)).length = n * 65 := by rw [pcl_len (wf_take h n), List.length_take, Nat.min_eq_left hn]
  rw [e, List.take_left' hl]
theorem psTake_as {ps : List Piece} (h : allWf ps) {n : Nat} (hn : n ≤ ps.length) : SV.as (.c (.ds ((n : Int)).toNat ((pcells ps).take ((n : Int).toNat * 65)))) (psV (ps.take n)) := as_eq (by
  show SV.c (.ds _ (.cells ((pcl ps).take ((n : Int).toNat * 65)))) = _
  show _ = SV.c (.ds (ps.take n).length (.cells (pcl (ps.take n))))
  rw [Int.toNat_natCast, pcl_take h hn, show (ps.take n).length = n by rw [List.length_take]; omega])
theorem pcl_key {ps : List Piece} (h : allWf ps) {i : Nat} {s : Piece} (e : ps[i]? = some s) : SV.as (.agg ((pcells ps).sub (i * 65) 32)) (.agg (.u8s s.key)) := by
  have h1 := pcl_at h e
  have hw := h s (List.mem_of_getElem? e)
  have h2 : ((pcl ps).drop (i * 65)).take 32 = s.key.map Cell.u8 := by
    have := congrArg (List.take 32) h1
    rw [List.take_take, Nat.min_eq_left (by omega)] at this
    rw [this, pieceL, List.append_assoc, List.take_left' (by rw [List.length_map, hw.1])]
  refine SV.as_agg ?_
  show (Cont.cells (((pcl ps).drop (i * 65)).take 32)).eqv _
  rw [h2]; exact eqv_u8s _
def putV (o : Disk × Nat) : SV := .tup [.agg (.cells [.ds o.1.1.length (.u8s o.1.1), .int .i64 o.1.2]), .c (.int .i64 (o.2 : Nat))]
theorem putV_eq {o : Disk × Nat} {d : Disk} {c : Nat} (h : o = (d, c)) : putV o = .tup [.agg (.cells [.ds d.1.length (.u8s d.1), .int .i64 d.2]), .c (.int .i64 (c : Nat))] := by rw [h]; rfl
theorem aggc_low0 {c : Cont} (h : c.low 0) (k : Int) : SV.low 0 (.tup [.agg c, .c (.int .i64 k)]) := fun p hp => by
  rcases List.mem_cons.1 hp with rfl | hp
  · exact h
  · rw [List.mem_singleton.1 hp]; trivial
theorem put_no1 {d : Disk} {s : Piece} (h : dvalid d = false) : putL d s = (([], 0), 1) := by rw [putL, if_neg (by rw [h]; decide)]
theorem put_no2 {d : Disk} {s : Piece} (h : dvalid d = true) (h2 : 65536 < s.b.length) : putL d s = (([], 0), 2) := by rw [putL, if_pos h, if_pos h2]
theorem put_no3 {d : Disk} {s : Piece} (h : dvalid d = true) (h2 : ¬ 65536 < s.b.length) (h3 : total (Go.Sto.pieces d.1) < d.1.length) : putL d s = (([], 0), 290) := by rw [putL, if_pos h, if_neg h2, if_pos h3]
theorem put_no4 {d : Disk} {s : Piece} (h : dvalid d = true) (h2 : ¬ 65536 < s.b.length) (h3 : ¬ total (Go.Sto.pieces d.1) < d.1.length) (h4 : 1048576 < total (Go.Sto.pieces d.1) + 76 + s.b.length) : putL d s = (([], 0), 2) := by rw [putL, if_pos h, if_neg h2, if_neg h3, if_pos h4]
theorem put_yes {d : Disk} {s : Piece} (h : dvalid d = true) (h2 : ¬ 65536 < s.b.length) (h3 : ¬ total (Go.Sto.pieces d.1) < d.1.length) (h4 : ¬ 1048576 < total (Go.Sto.pieces d.1) + 76 + s.b.length) : putL d s = ((d.1 ++ s.rec', d.2), 0) := by rw [putL, if_pos h, if_neg h2, if_neg h3, if_neg h4]
theorem getB_skip {cor : Piece → Bool} {key : List UInt8} {s : Piece} {l : List Piece} {c : Nat} (h : ¬ s.key = key) : getB cor key (s :: l) c = getB cor key l c := by rw [getB, if_neg h]
theorem getB_hit {cor : Piece → Bool} {key : List UInt8} {s : Piece} {l : List Piece} {c : Nat} (h : s.key = key) (hc : cor s = true) : getB cor key (s :: l) c = (s, 0) := by rw [getB, if_pos h, if_pos hc]
theorem getB_miss {cor : Piece → Bool} {key : List UInt8} {s : Piece} {l : List Piece} {c : Nat} (h : s.key = key) (hc : cor s = false) : getB cor key (s :: l) c = getB cor key l 280 := by rw [getB, if_pos h, if_neg (by rw [hc]; decide)]
def corsS : QSpec := fun vs K => ∃ (ps : List Piece) (secret : List UInt8), vs = [psV ps, .agg (.u8s secret)] ∧ (allWf ps ∧ ps.length ≤ 900000 ∧ (∀ s ∈ ps, s.b.length ≤ 65536) ∧ secret.length = 32) ∧ K (psV (ps.filter (corF secret)))
set_option maxHeartbeats 1000000 in
theorem cors_ok : DataOK Tryd.prog gl 29 corsS := by
 refine data_of (Γ := gl_) (N := 28) Tryd.func29 rfl rfl fun vs K h => ?_
 obtain ⟨ps, secret, rfl, ⟨hwf, hfew, hsm, hsec⟩, h⟩ := h
 refine ⟨_, h, trivial, by simp, fun w I => ?_⟩
 refine seq_k fun _ hK1 => ?_; refine region_k gl__ok fun _ hK2 => ?_
 refine sS fun _ hS => ?_; (repeat refine aI qSn0 ?_); apply hS; clear hS
 refine sS1 ?_
 refine s_nil ?_; apply hK2; apply hK1; refine seq_k fun _ hK3 => ?_; refine region_k gl__ok fun _ hK4 => ?_
 refine sS fun _ hS => ?_; (repeat refine aI qSn0 ?_); apply hS; clear hS
 refine sS1 ?_
 refine s_nil ?_; apply hK4; apply hK3; refine seq_k fun _ hK5 => ?_; refine seq_k fun _ hK6 => ?_; refine region_k gl__ok fun _ hK7 => ?_
 refine sS1 ?_
 refine s_nil ?_; apply hK7; apply hK6; refine WP_block ?_
 refine WP_loop (α := Nat × Nat) (fun k => [(0, psV ps), (3, .c (.dp (.u8s secret) 0)), (5, .c (.slice 0 0 (corK (corF secret) ps k.1).length k.2)), (6, .c (.int .i64 (k.1 : Nat)))]) (fun k => [(0, .own 42 (pcells (corK (corF secret) ps k.1)) (k.2 * 65))]) 1 (fun k => k.1 ≤ ps.length) (fun k => ps.length - k.1) ?_ ?_
 ·refine dnS [0] (fun _ => 1) (0, 0) (Nat.zero_le _) [1] ?_ ?_ ?_ ?_
  ·exact uSn0
  ·exact uSn0
  ·exact uSn0
  ·exact uSn0
 ·intro k hk
  have hcl := pcl_len (corK_wf (cor := corF secret) hwf k.1)
  have hck := corK_len (corF secret) ps k.1
  refine seq_k fun _ hK8 => ?_; refine seq_k fun _ hK9 => ?_; refine region_k gl__ok fun _ hK10 => ?_
  iterate 2 refine sS1 ?_
  refine sS fun _ hS => ?_; (repeat refine aI qSn0 ?_); apply hS; clear hS
  refine sS fun _ hS => ?_; (repeat refine aI qSn0 ?_); apply hS; clear hS; refine s_nil ?_; apply hK10; apply hK9
  refine WP_cond (b := _) rfl (fun h_t11 => ?_) (fun h_t11 => ?_)
  ·try simp only [dQ] at h_t11
   refine WP_skip ?_; apply hK8; refine seq_k fun _ hK11 => ?_; refine WP_block ?_; refine seq_k fun _ hK12 => ?_
   have hkl : k.1 < ps.length := by omega
   obtain ⟨s, hks⟩ : ∃ s, ps[k.1]? = some s := ⟨_, List.getElem?_eq_getElem hkl⟩
   have hw := hwf s (List.mem_of_getElem? hks)
   have hl1 := pcl_len hwf
   refine quiet_k gl__ok (by kernel_rfl) fun _ hK13 => ?_
   iterate 2 refine qQ1 ?_
   refine qS fun _ hS => ?_; (repeat refine aI qSn0 ?_); apply hS; clear hS
   refine q_stepA rfl (by decide) rfl fun _ hS => ?_
   repeat refine aI qSn0 ?_
   first | refine hS _ (pieceV s) (pcl_sub hwf hks) ?_ | (refine whole_yes qSn0 ?_; refine hS _ (pieceV s) (pcl_sub hwf hks) ?_) | (refine whole_sub ?_; refine hS _ (pieceV s) (pcl_sub hwf hks) ?_)
   clear hS
   refine qS fun _ hS => ?_; (repeat refine aI qSn0 ?_); (first | apply hS | (refine whole_yes qSn0 ?_; apply hS) | (refine whole_sub ?_; apply hS)); clear hS
   refine qS fun _ hS => ?_; (repeat first | refine aI qSn0 ?_ | refine whole_yes qSn0 ?_ | refine whole_sub ?_); refine aI (piece_noclo _) ?_; refine viewL_flat (piece_flat _) ?_; refine ⟨s, secret, rfl, ⟨hw, hsec, by have := hsm s (List.mem_of_getElem? hks); omega⟩, ?_⟩; (repeat refine aI qSn0 ?_); (first | apply hS | (intro cap5 hcap5; apply hS)); clear hS; refine q_nil ?_; apply hK13; apply hK12
   refine WP_cond (b := _) rfl (fun h_t19 => ?_) (fun h_t19 => ?_)
   ·skip
    have h_tt := h_t19
    refine region_k gl__ok fun _ hK14 => ?_
    iterate 3 refine sS1 ?_
    refine sS fun _ hS => ?_; (repeat refine aI qSn0 ?_); apply hS; clear hS
    refine s_stepA rfl (by decide) rfl fun _ hS => ?_
    repeat refine aI qSn0 ?_
    first | refine hS _ (pieceV s) _ _ (pcl_sub hwf hks) ?_ | (refine whole_yes qSn0 ?_; refine hS _ (pieceV s) _ _ (pcl_sub hwf hks) ?_) | (refine whole_sub ?_; refine hS _ (pieceV s) _ _ (pcl_sub hwf hks) ?_)
    clear hS
    refine sS fun _ hS => ?_; (repeat refine aI qSn0 ?_); apply hS; clear hS
    refine sS fun _ hS => ?_; (repeat first | refine aI qSn0 ?_ | refine whole_yes qSn0 ?_ | refine whole_sub ?_); (intro cap6 hcap6; apply hS); clear hS
    refine sS1 ?_
    refine s_nil ?_; apply hK14; refine done_block ?_; apply hK11; refine region_k gl__ok fun _ hK15 => ?_
    refine sS1 ?_
    refine sS fun _ hS => ?_; (repeat refine aI qSn0 ?_); apply hS; clear hS
    refine sS1 ?_
    refine s_nil ?_; apply hK15
    refine dnS [] (fun _ => 2) (k.1 + 1, cap6) ⟨by omega, by omega⟩ [2] ?_ ?_ ?_ ?_
    ·exact uSn0
    ·exact uSn0
    ·exact uSn0
    ·exact uSn0
   ·have h_tt := h_t19
    refine WP_skip ?_; refine done_block ?_; apply hK11; refine region_k gl__ok fun _ hK16 => ?_
    refine sS1 ?_
    refine sS fun _ hS => ?_; (repeat refine aI qSn0 ?_); apply hS; clear hS
    refine sS1 ?_
    refine s_nil ?_; apply hK16
    refine dnS [] id (k.1 + 1, k.2) ⟨by omega, by omega⟩ [0] ?_ ?_ ?_ ?_
    ·exact uSn0
    ·exact uSn0
    ·exact uSn0
    ·exact uSn0
  ·try simp only [dQ] at h_t11
   refine WP_exit ?_; refine done_thenx ?_; refine done_thenx ?_
   refine Done_hit ?_
   apply hK5; refine seq_k fun _ hK17 => ?_; refine region_k gl__ok fun _ hK18 => ?_
   iterate 2 refine sS1 ?_
   refine s_nil ?_; apply hK18; apply hK17
   obtain ⟨k, cap⟩ := k
   obtain rfl : k = ps.length := by omega
   simp only at hcl
   rw [← corK_full]
   refine WP_ret (Done_data gl__ok (fun _ _ h => h) (trivial) [0] [.tmp 4] rfl ?_)
   repeat' (first | exact trivial | refine aI ?_ ?_ | exact cC0 | refine low_cons' ?_ ?_ | exact cC1 | fail)
   all_goals first | exact pcl_isD _ | (show 0 + (corK (corF secret) ps ps.length).length * 65 ≤ (pcl (corK (corF secret) ps ps.length)).length; omega) | (show (0 : Nat) < 65; omega) | exact (if_pos ⟨rfl, hcl⟩).symm | (simp; done) | skip

noncomputable def gb : Ctx := { P := Tryd.prog, ty := ty, glob := gl, fs := [(22, .flat samePiecesS)] }
theorem gb_ok : gb.OK := ⟨tyOK, ⟨⟨enters_mk Tryd.func22 (by kernel_rfl) rfl, samePieces_ok⟩, trivial⟩, mixed⟩
@[simp] theorem gb_ty : gb.ty = ty := rfl

def begB (ps qs : List Piece) : Bool := decide (ps.take qs.length = qs)
def beginsS : QSpec := fun vs K => ∃ ps qs : List Piece, vs = [psV ps, psV qs] ∧ (allWf ps ∧ allWf qs ∧ ps.length ≤ 900000 ∧ qs.length ≤ 900000 ∧ (∀ s ∈ ps, s.b.length ≤ 9223372036854775807) ∧ ∀ s ∈ qs, s.b.length ≤ 9223372036854775807) ∧ K (.c (.bool (begB ps qs)))
set_option maxHeartbeats 400000 in
theorem begins_ok : FlatOK Tryd.prog gl 30 beginsS := by
 refine flat_of (Γ := gb) (N := 18) Tryd.func30 rfl rfl fun vs K h => ?_
 obtain ⟨ps, qs, rfl, ⟨hps, hqs, hn, hm, hbs, hbt⟩, h⟩ := h
 refine ⟨_, h, rfl, by simp, fun w I => ?_⟩
 refine seq_k fun _ hK1 => ?_; refine region_k gb_ok fun _ hK2 => ?_
 refine sS1 ?_
 refine s_nil ?_; apply hK2; apply hK1; refine seq_k fun _ hK3 => ?_; refine region_k gb_ok fun _ hK4 => ?_
 refine sS1 ?_
 refine sS fun _ hS => ?_; (repeat refine aI qSn1 ?_); apply hS; clear hS
 refine sS1 ?_
 refine sS fun _ hS => ?_; (repeat refine aI qSn1 ?_); apply hS; clear hS
 refine sS fun _ hS => ?_; (repeat refine aI qSn1 ?_); apply hS; clear hS
 refine sS fun _ hS => ?_
 refine s_split hS (fun hb5 => ?_) (fun hb5 => ?_)
 ·clear hS
  try simp only [dQ] at hb5
  refine sT fun _ hS => ?_; apply hS; clear hS
  refine sT fun _ hS => ?_; apply hS; clear hS
  refine sT fun _ hS => ?_; (repeat refine aI qSn1 ?_); apply hS; clear hS
  refine s_guardA (b := true) rfl (by decide) rfl rfl (fun _ _ hS => ?_) (fun e => absurd e (by decide))
  repeat refine aI qSn1 ?_
  first | refine hS _ (psV (ps.take qs.length)) _ _ (psTake_as hps (by omega)) ?_ | (refine ite_yes qSn1 ?_; (repeat refine aI qSn1 ?_); refine hS _ (psV (ps.take qs.length)) _ _ (psTake_as hps (by omega)) ?_)
  clear hS
  refine sT fun _ hS => ?_; apply hS; clear hS
  refine sT fun _ hS => ?_; (repeat first | refine aI qSn1 ?_ | refine whole_yes qSn1 ?_ | refine whole_sub ?_); refine ⟨ps.take qs.length, qs, rfl, ⟨wf_take hps _, hqs, by rw [List.length_take]; omega, by omega, fun s hs => hbs s (List.mem_of_mem_take hs), hbt⟩, ?_⟩; (repeat refine aI qSn1 ?_); (first | apply hS | (intro cap11 hcap11; apply hS)); clear hS
  iterate 2 refine sS1 ?_
  refine s_nil ?_; apply hK4; apply hK3
  refine WP_ret (Done_flat gb_ok (fun _ _ h => h) (by first | rfl | assumption) [.tmp 4] rfl ?_)
  repeat refine aI (by first | omega | exact trivial | rfl | (simp <;> omega)) ?_
  try refine ite_yes (by first | omega | exact trivial | rfl | (simp <;> omega)) ?_
  show SV.c (.bool _) = SV.c (.bool (begB ps qs))
  rw [begB]
  all_goals first | rfl | (rw [if_pos rfl]; done) | (rw [decide_eq_false (fun e => by have := congrArg List.length e; rw [List.length_take] at this; omega)]; done) | (rw [decide_eq_false (fun e => by have := congrArg List.length e; rw [List.length_take] at this; omega)]; rfl)
 ·clear hS
  try simp only [dQ] at hb5
  refine sN ?_; refine sN ?_; refine sN ?_; refine sN ?_; refine sN ?_; refine sN ?_
  iterate 2 refine sS1 ?_
  refine s_nil ?_; apply hK4; apply hK3
  refine WP_ret (Done_flat gb_ok (fun _ _ h => h) (by first | rfl | assumption) [.tmp 4] rfl ?_)
  repeat refine aI (by first | omega | exact trivial | rfl | (simp <;> omega)) ?_
  try refine ite_yes (by first | omega | exact trivial | rfl | (simp <;> omega)) ?_
  show SV.c (.bool _) = SV.c (.bool (begB ps qs))
  rw [begB]
  all_goals first | rfl | (rw [if_pos rfl]; done) | (rw [decide_eq_false (fun e => by have := congrArg List.length e; rw [List.length_take] at this; omega)]; done) | (rw [decide_eq_false (fun e => by have := congrArg List.length e; rw [List.length_take] at this; omega)]; rfl)


end Go.Proofs.YtnhmglhbhnhnhaaDoor

namespace Go.Proofs.YtnhmglhbhnhnhaaDoor
set_option linter.unusedVariables false
open Go.Ab Go.RowKit

theorem qSo0 {a : Prop} (h : a := by first | exact vcA | (simp <;> omega) | exact hl1 | exact hl1.symm | (show _ ≤ (pcl ps).length; omega) | (show _ < (pcl ps).length; omega) | exact (pieceC_len hw).symm | exact pieceC_len hw | (rw [pieceC_len hw]; decide) | (rw [pieceC_len hw]; omega) | exact pieceC_solid _ | exact hsec.symm | exact hkey.symm | exact hkey | exact hw.1.trans hkey.symm | exact hkey.trans hw.1.symm | exact hw.1 | (show _ + 0 + 32 ≤ (pcl ps).length; omega) | (show _ + 32 ≤ (pcl ps).length; omega) | (show _ + 65 ≤ (pcl ps).length; omega) | (show (_ : Int) < _; push_cast; omega) | exact hsec | (show (0 : Nat) < List.length _; omega) | (show _ ≤ List.length _; omega) | (show List.length _ = _; omega) | exact inR_i64.mpr ⟨by omega, by omega⟩ | exact ⟨by omega, by omega, pcl_solid _⟩ | exact And.intro (by omega) (And.intro (by omega) (pieceC_solid s)) | (show _ ≤ (pieceL s).length; have := pieceL_len hw; omega) | (show (pieceL s).length = _; rw [pieceL_len hw]) | (show 0 < (65 : Nat); omega) | exact vcB) : a := h
theorem qSo1 {a : Prop} (h : a := by first | exact vcA | (simp <;> omega) | exact (pieceC_len hw).symm | exact pieceC_len hw | (rw [pieceC_len hw]; decide) | (rw [pieceC_len hw]; omega) | exact pieceC_solid _ | exact inR_i64.mpr ⟨by omega, by omega⟩ | exact ⟨by omega, by omega, trivial⟩ | (show 0 + Piece.size _ * 1 ≤ List.length _; rw [recW_length hw]; omega) | (show List.length _ = Piece.size _ * 1; rw [recW_length hw, Nat.mul_one]) | exact vcB) : a := h
theorem qSo2 {a : Prop} (h : a := by first | exact vcA | (simp <;> omega) | exact (pieceC_len hw).symm | exact pieceC_len hw | (rw [pieceC_len hw]; decide) | (rw [pieceC_len hw]; omega) | exact pieceC_solid _ | exact inR_i64.mpr ⟨by omega, by omega⟩ | exact ⟨by omega, by omega, trivial⟩ | (show 0 + Piece.size _ * 1 ≤ List.length _; rw [recW_length hw]; omega) | (show List.length _ = Piece.size _ * 1; rw [recW_length hw, Nat.mul_one]) | (refine aI ?_ (And.intro ?_ trivial) <;> simp [hrl] <;> omega) | exact vcB) : a := h
theorem uSo0 {a : Prop} (h : a := by
    repeat' (first | exact trivial | refine aI ?_ ?_ | exact cC0 | refine low_cons' ?_ ?_ | exact cC1 | fail)
    all_goals first | omega | (show (0 : Nat) < List.length _; omega) | (show (_ : Int) = _; omega) | (show (_ : Int) = (_ : Nat) - 1; push_cast; omega) | (simp; done) | (simp; omega) | skip) : a := h

open Go.Sto
theorem putV_low0 (d : Disk) (k : Int) : SV.low 0 (.tup [.agg (.cells [.ds d.1.length (.u8s d.1), .int .i64 d.2]), .c (.int .i64 k)]) := aggc_low0 (c := .cells [.ds d.1.length (.u8s d.1), .int .i64 d.2]) (disk_low d) k
theorem pcl_keyI {ps : List Piece} (h : allWf ps) {i : Nat} {s : Piece} (e : ps[i]? = some s) : SV.as (.agg ((pcells ps).sub (((i : Nat) : Int).toNat * 65 + 0) (32 * 1))) (.agg (.u8s s.key)) := by
  rw [show ((i : Nat) : Int).toNat * 65 + 0 = i * 65 by omega, show (32 * 1 : Nat) = 32 from rfl]
  exact pcl_key h e
attribute [local irreducible] pcl Go.Sto.pieces total recordL
def getRS : QSpec := fun vs K => ∃ (d : Disk) (key secret : List UInt8), vs = [diskV d, .agg (.u8s key), .agg (.u8s secret)] ∧ (dok d ∧ key.length = 32 ∧ secret.length = 32) ∧ K (getV (getL (corF secret) d key))
set_option maxHeartbeats 1000000 in
theorem getR_ok : DataOK Tryd.prog gl 17 getRS := by
 refine data_of (Γ := gl_) (N := 48) Tryd.func17 rfl rfl fun vs K h => ?_
 obtain ⟨d, key, secret, rfl, ⟨⟨hd, hd1, hd2⟩, hkey, hsec⟩, h⟩ := h
 refine ⟨_, h, atV_low0 _ _, by simp, fun w I => ?_⟩
 refine seq_k fun _ hK1 => ?_; refine region_k gl__ok fun _ hK2 => ?_
 refine sS fun _ hS => ?_; (repeat refine aI qSo0 ?_); apply hS; clear hS
 refine sS fun _ hS => ?_; (repeat refine aI qSo0 ?_); apply hS; clear hS
 refine sS fun _ hS => ?_; (repeat refine aI qSo0 ?_); apply hS; clear hS
 refine sS fun _ hS => ?_; (repeat refine aI qSo0 ?_); apply hS; clear hS
 refine sS1 ?_
 refine s_nil ?_; apply hK2; apply hK1; refine seq_k fun _ hK3 => ?_; refine seq_k fun _ hK4 => ?_; refine region_k gl__ok fun _ hK5 => ?_
 refine sS fun _ hS => ?_; (repeat refine aI qSo0 ?_); (first | apply hS | (refine whole_yes qSo0 ?_; apply hS) | (refine whole_sub ?_; apply hS)); clear hS
 refine sS fun _ hS => ?_; (repeat first | refine aI qSo0 ?_ | refine whole_yes qSo0 ?_ | refine whole_sub ?_); refine ⟨d, rfl, ⟨by omega, by omega, by omega⟩, ?_⟩; (repeat refine aI qSo0 ?_); (first | apply hS | (intro cap1 hcap1; apply hS)); clear hS
 refine sS1 ?_
 refine s_nil ?_; apply hK5; apply hK4
 refine WP_cond (b := _) rfl (fun h_t14 => ?_) (fun h_t14 => ?_)
 ·simp only [Bool.not_eq_true'] at h_t14
  refine seq_k fun _ hK6 => ?_; refine region_k gl__ok fun _ hK7 => ?_
  refine s_stepA rfl (by decide) rfl fun _ hS => ?_
  repeat refine aI qSo0 ?_
  refine hS _ (pieceV noPiece) _ _ (zero_as) ?_
  clear hS
  refine sS0 fun _ hS => ?_; (repeat refine aI qSo0 ?_); (first | apply hS | (refine splice_full qSo0 ?_; apply hS)); clear hS
  refine sS1 ?_
  refine s_nil ?_; apply hK7; apply hK6
  rw [getV_eq (get_no h_t14)]
  refine WP_ret (Done_data gl__ok (fun _ _ h => h) (atV_low0 _ _) [] [.cell 6 42, .tmp 7] rfl ?_)
  repeat' (first | exact trivial | refine aI ?_ ?_ | exact cC0 | refine low_cons' ?_ ?_ | exact cC1 | fail)
  all_goals first | exact piece_to _ | (simp; done) | skip
 ·simp only [Bool.not_eq_false'] at h_t14
  refine WP_skip ?_; apply hK3; refine seq_k fun _ hK8 => ?_
  obtain ⟨ps, hps⟩ : ∃ ps, ps = Go.Sto.pieces d.1 := ⟨_, rfl⟩
  have hwf : allWf ps := hps ▸ wf_pieces d.1
  have hfew := pieces_few d.1
  rw [← hps] at hfew
  have htot := total_le d.1
  rw [← hps] at htot
  have hsm : ∀ s ∈ ps, s.b.length ≤ 65536 := fun s hs => (Go.Sto.pieces_ok d.1 s (hps ▸ hs)).2.2
  have hpv : piecesV d.1 = .tup [psP ps, .c (.int .i64 (total ps : Nat))] := by rw [piecesV, ← hps]
  refine region_k gl__ok fun _ hK9 => ?_
  refine sS fun _ hS => ?_; (repeat refine aI qSo0 ?_); apply hS; clear hS
  refine sS fun _ hS => ?_; (repeat refine aI qSo0 ?_); (first | apply hS | (refine whole_yes qSo0 ?_; apply hS) | (refine whole_sub ?_; apply hS)); clear hS
  refine s_stepA rfl (by decide) rfl fun _ hS => ?_
  repeat first | refine aI qSo0 ?_ | refine whole_yes qSo0 ?_ | refine whole_sub ?_
  refine ⟨d.1, rfl, hd, ?_⟩
  repeat refine aI qSo0 ?_
  first | refine hS _ (.tup [psP ps, .c (.int .i64 (total ps : Nat))]) _ _ (as_eq hpv) ?_ | (intro cap2 hcap2; refine hS _ (.tup [psP ps, .c (.int .i64 (total ps : Nat))]) _ _ (as_eq hpv) ?_)
  clear hS
  refine sS1 ?_
  refine sS fun _ hS => ?_; (repeat refine aI qSo0 ?_); apply hS; clear hS
  refine sS fun _ hS => ?_; (repeat refine aI qSo0 ?_); apply hS; clear hS
  iterate 2 refine sS1 ?_
  refine s_nil ?_; apply hK9; apply hK8; refine seq_k fun _ hK10 => ?_; refine region_k gl__ok fun _ hK11 => ?_
  refine sS1 ?_
  refine s_nil ?_; apply hK11; apply hK10; refine seq_k fun _ hK12 => ?_; refine seq_k fun _ hK13 => ?_; refine region_k gl__ok fun _ hK14 => ?_
  refine sS1 ?_
  refine sS fun _ hS => ?_; (repeat refine aI qSo0 ?_); apply hS; clear hS
  refine sS fun _ hS => ?_; (repeat refine aI qSo0 ?_); apply hS; clear hS
  refine sS1 ?_
  refine s_nil ?_; apply hK14; apply hK13; refine WP_block ?_
  refine WP_loop (α := Nat × Nat) (fun k => [(4, .c (.dp (.u8s key) 0)), (5, .c (.dp (.u8s secret) 0)), (6, .c (.ptr 0 0)), (8, psV ps), (10, .c (.int .i64 (k.2 : Nat))), (11, .c (.int .i64 ((k.1 : Int) - 1)))]) (fun k => [(0, .own 42 zeroP 65)]) 1 (fun k => k.1 ≤ ps.length ∧ getB (corF secret) key ps.reverse 3 = getB (corF secret) key (ps.take k.1).reverse k.2) (fun k => k.1) ?_ ?_
  ·refine dnS [0, 1, 2] (fun _ => 3) (ps.length, 3) ⟨Nat.le_refl _, by rw [List.take_length]⟩ [3] ?_ ?_ ?_ ?_
   ·exact uSo0
   ·exact uSo0
   ·exact uSo0
   ·exact uSo0
  ·intro k hk
   refine seq_k fun _ hK15 => ?_; refine seq_k fun _ hK16 => ?_; refine region_k gl__ok fun _ hK17 => ?_
   refine sS1 ?_
   refine sS fun _ hS => ?_; (repeat refine aI qSo0 ?_); apply hS; clear hS; refine s_nil ?_; apply hK17; apply hK16
   refine WP_cond (b := _) rfl (fun h_t26 => ?_) (fun h_t26 => ?_)
   ·try simp only [dQ] at h_t26
    refine WP_skip ?_; apply hK15; refine seq_k fun _ hK18 => ?_; refine WP_block ?_; refine seq_k fun _ hK19 => ?_; refine seq_k fun _ hK20 => ?_
    obtain ⟨k, c⟩ := k
    obtain ⟨j, rfl⟩ : ∃ j, k = j + 1 := ⟨k - 1, by have := h_t26; simp only at this; omega⟩
    have hjl : j < ps.length := by have := hk.1; simp only at this; omega
    obtain ⟨s, hks⟩ : ∃ s, ps[j]? = some s := ⟨_, List.getElem?_eq_getElem hjl⟩
    have hw := hwf s (List.mem_of_getElem? hks)
    have hl1 := pcl_len hwf
    have hij : (((j + 1 : Nat) : Int) - 1).toNat = j := by omega
    have hks' : ps[(((j + 1 : Nat) : Int) - 1).toNat]? = some s := by rw [hij]; exact hks
    have hrv := take_rev hks
    have hinv := hk.2
    simp only at hinv
    rw [hrv] at hinv
    refine quiet_k gl__ok (by kernel_rfl) fun _ hK21 => ?_
    refine qQ1 ?_
    refine q_stepA rfl (by decide) rfl fun _ hS => ?_
    refine hS _ (.c (.int .i64 ((j : Nat) : Int))) (as_eq (congrArg (fun v => SV.c (.int .i64 v)) (by omega))) ?_
    clear hS
    refine qS fun _ hS => ?_; (repeat refine aI qSo0 ?_); apply hS; clear hS
    refine qS fun _ hS => ?_; (repeat refine aI qSo0 ?_); apply hS; clear hS
    refine q_stepA rfl (by decide) rfl fun _ hS => ?_
    repeat refine aI qSo0 ?_
    refine whole_sub ?_
    first | refine hS _ (.agg (.u8s s.key)) (pcl_keyI hwf hks) ?_ | (refine whole_yes qSo0 ?_; refine hS _ (.agg (.u8s s.key)) (pcl_keyI hwf hks) ?_) | (refine whole_sub ?_; refine hS _ (.agg (.u8s s.key)) (pcl_keyI hwf hks) ?_)
    clear hS
    refine qS fun _ hS => ?_; (repeat refine aI qSo0 ?_); (first | apply hS | (refine whole_yes qSo0 ?_; apply hS) | (refine whole_sub ?_; apply hS)); clear hS
    refine qS fun _ hS => ?_; (repeat refine aI qSo0 ?_); apply hS; clear hS; refine q_nil ?_; apply hK21; apply hK20
    refine WP_cond (b := _) rfl (fun h_t35 => ?_) (fun h_t35 => ?_)
    ·try simp only [dQ] at h_t35
     refine WP_exit ?_; refine done_thenx ?_
     refine Done_hit ?_
     apply hK18; refine region_k gl__ok fun _ hK22 => ?_
     refine sS1 ?_
     refine sS fun _ hS => ?_; (repeat refine aI qSo0 ?_); apply hS; clear hS
     refine sS1 ?_
     refine s_nil ?_; apply hK22
     refine dnS [] id (j, c) ⟨⟨by omega, hinv.trans (getB_skip (by simpa using h_t35))⟩, Nat.lt_succ_self _⟩ [0] ?_ ?_ ?_ ?_
     ·exact uSo0
     ·exact uSo0
     ·exact uSo0
     ·exact uSo0
    ·try simp only [dQ] at h_t35
     refine WP_skip ?_; apply hK19; refine seq_k fun _ hK23 => ?_; refine seq_k fun _ hK24 => ?_
     have hse : s.key = key := by simpa using h_t35
     refine quiet_k gl__ok (by kernel_rfl) fun _ hK25 => ?_
     refine qQ1 ?_
     refine q_stepA rfl (by decide) rfl fun _ hS => ?_
     refine hS _ (.c (.int .i64 ((j : Nat) : Int))) (as_eq (congrArg (fun v => SV.c (.int .i64 v)) (by omega))) ?_
     clear hS
     refine qS fun _ hS => ?_; (repeat refine aI qSo0 ?_); apply hS; clear hS
     refine q_stepA rfl (by decide) rfl fun _ hS => ?_
     repeat refine aI qSo0 ?_
     refine whole_sub ?_
     first | refine hS _ (pieceV s) (pcl_sub hwf hks) ?_ | (refine whole_yes qSo0 ?_; refine hS _ (pieceV s) (pcl_sub hwf hks) ?_) | (refine whole_sub ?_; refine hS _ (pieceV s) (pcl_sub hwf hks) ?_)
     clear hS
     refine qS fun _ hS => ?_; (repeat refine aI qSo0 ?_); (first | apply hS | (refine whole_yes qSo0 ?_; apply hS) | (refine whole_sub ?_; apply hS)); clear hS
     refine qS fun _ hS => ?_; (repeat first | refine aI qSo0 ?_ | refine whole_yes qSo0 ?_ | refine whole_sub ?_); refine aI (piece_noclo _) ?_; refine viewL_flat (piece_flat _) ?_; refine ⟨s, secret, rfl, ⟨hw, hsec, by have := hsm s (List.mem_of_getElem? hks); omega⟩, ?_⟩; (repeat refine aI qSo0 ?_); (first | apply hS | (intro cap5 hcap5; apply hS)); clear hS; refine q_nil ?_; apply hK25; apply hK24
     refine WP_cond (b := _) rfl (fun h_t41 => ?_) (fun h_t41 => ?_)
     ·try simp only [dQ, if_true, if_false, reduceIte] at h_t41
      refine seq_k fun _ hK26 => ?_; refine region_k gl__ok fun _ hK27 => ?_
      refine sS1 ?_
      refine s_stepA rfl (by decide) rfl fun _ hS => ?_
      refine hS _ (.c (.int .i64 ((j : Nat) : Int))) _ _ (as_eq (congrArg (fun v => SV.c (.int .i64 v)) (by omega))) ?_
      clear hS
      refine sS fun _ hS => ?_; (repeat refine aI qSo0 ?_); apply hS; clear hS
      refine s_stepA rfl (by decide) rfl fun _ hS => ?_
      repeat refine aI qSo0 ?_
      refine whole_sub ?_
      first | refine hS _ (pieceV s) _ _ (pcl_sub hwf hks) ?_ | (refine whole_yes qSo0 ?_; refine hS _ (pieceV s) _ _ (pcl_sub hwf hks) ?_) | (refine whole_sub ?_; refine hS _ (pieceV s) _ _ (pcl_sub hwf hks) ?_)
      clear hS
      refine sS0 fun _ hS => ?_; (repeat refine aI qSo0 ?_); (first | apply hS | (refine splice_full qSo0 ?_; apply hS)); clear hS
      refine sS1 ?_
      refine s_nil ?_; apply hK27; apply hK26
      rw [getV_eq (s := s) (c := 0) ((get_yes h_t14).trans (by rw [← hps]; exact hinv.trans (getB_hit hse h_t41)))]
      refine WP_ret (Done_data gl__ok (fun _ _ h => h) (atV_low0 _ _) [] [.cell 6 42, .tmp 7] rfl ?_)
      repeat refine aI (by first | decide | (rw [pieceC_len hw]; omega)) ?_
      try refine whole_yes (pieceC_len hw) ?_
      repeat' (first | exact trivial | refine aI ?_ ?_ | exact cC0 | refine low_cons' ?_ ?_ | exact cC1 | fail)
      all_goals first | exact piece_to _ | (simp; done) | skip
     ·try simp only [dQ, if_true, if_false, reduceIte] at h_t41
      refine WP_skip ?_; apply hK23; refine region_k gl__ok fun _ hK28 => ?_
      refine sS1 ?_
      refine s_nil ?_; apply hK28; refine done_block ?_; apply hK18; refine region_k gl__ok fun _ hK29 => ?_
      refine sS1 ?_
      refine sS fun _ hS => ?_; (repeat refine aI qSo0 ?_); apply hS; clear hS
      refine sS1 ?_
      refine s_nil ?_; apply hK29
      refine dnS [] id (j, 280) ⟨⟨by omega, hinv.trans (getB_miss hse (by simpa using h_t41))⟩, Nat.lt_succ_self _⟩ [0] ?_ ?_ ?_ ?_
      ·exact uSo0
      ·exact uSo0
      ·exact uSo0
      ·exact uSo0
   ·try simp only [dQ] at h_t26
    refine WP_exit ?_; refine done_thenx ?_; refine done_thenx ?_
    refine Done_hit ?_
    apply hK12; refine seq_k fun _ hK30 => ?_; refine region_k gl__ok fun _ hK31 => ?_
    refine s_stepA rfl (by decide) rfl fun _ hS => ?_
    repeat refine aI qSo0 ?_
    refine hS _ (pieceV noPiece) _ _ (zero_as) ?_
    clear hS
    refine sS1 ?_
    refine sS0 fun _ hS => ?_; (repeat refine aI qSo0 ?_); (first | apply hS | (refine splice_full qSo0 ?_; apply hS)); clear hS
    refine sS1 ?_
    refine s_nil ?_; apply hK31; apply hK30
    obtain ⟨k, c⟩ := k
    obtain rfl : k = 0 := by have := h_t26; simp only at this; omega
    rw [getV_eq (s := noPiece) (c := c) ((get_yes h_t14).trans (by rw [← hps]; exact hk.2))]
    refine WP_ret (Done_data gl__ok (fun _ _ h => h) (atV_low0 _ _) [] [.cell 6 42, .tmp 7] rfl ?_)
    repeat' (first | exact trivial | refine aI ?_ ?_ | exact cC0 | refine low_cons' ?_ ?_ | exact cC1 | fail)
    all_goals first | exact piece_to _ | (simp; done) | skip

noncomputable def gu : Ctx := { P := Tryd.prog, ty := ty, glob := gl, fs := [(39, .flat validRS), (40, .data piecesS), (41, .own recordRS)] }
theorem gu_ok : gu.OK := ⟨tyOK, ⟨⟨enters_mk Tryd.func39 (by kernel_rfl) rfl, validR_ok⟩, ⟨enters_mk Tryd.func40 (by kernel_rfl) rfl, pieces_ok⟩, ⟨enters_mk Tryd.func41 (by kernel_rfl) rfl, recordR_ok⟩, trivial⟩, mixed⟩
@[simp] theorem gu_ty : gu.ty = ty := rfl

def putRS : QSpec := fun vs K => ∃ (d : Disk) (s : Piece), vs = [diskV d, pieceV s] ∧ (dok d ∧ Piece.wf s ∧ s.b.length ≤ 200000) ∧ K (putV (putL d s))
set_option maxHeartbeats 1000000 in
theorem putR_ok : DataOK Tryd.prog gl 15 putRS := by
 refine data_of (Γ := gu) (N := 49) Tryd.func15 rfl rfl fun vs K h => ?_
 obtain ⟨d, s, rfl, ⟨⟨hd, hd1, hd2⟩, hw, hsb⟩, h⟩ := h
 refine ⟨_, h, putV_low0 _ _, by simp, fun w I => ?_⟩
 refine seq_k fun _ hK1 => ?_; refine region_k gu_ok fun _ hK2 => ?_
 refine sS fun _ hS => ?_; (repeat refine aI qSo1 ?_); apply hS; clear hS
 refine sS fun _ hS => ?_; (repeat refine aI qSo1 ?_); apply hS; clear hS
 refine sS fun _ hS => ?_; (repeat refine aI qSo1 ?_); apply hS; clear hS
 refine sS1 ?_
 refine s_nil ?_; apply hK2; apply hK1; refine seq_k fun _ hK3 => ?_; refine seq_k fun _ hK4 => ?_; refine region_k gu_ok fun _ hK5 => ?_
 refine sS fun _ hS => ?_; (repeat refine aI qSo1 ?_); (first | apply hS | (refine whole_yes qSo1 ?_; apply hS) | (refine whole_sub ?_; apply hS)); clear hS
 refine sS fun _ hS => ?_; (repeat first | refine aI qSo1 ?_ | refine whole_yes qSo1 ?_ | refine whole_sub ?_); refine ⟨d, rfl, ⟨by omega, by omega, by omega⟩, ?_⟩; (repeat refine aI qSo1 ?_); (first | apply hS | (intro cap1 hcap1; apply hS)); clear hS
 refine sS1 ?_
 refine s_nil ?_; apply hK5; apply hK4
 refine WP_cond (b := _) rfl (fun h_t11 => ?_) (fun h_t11 => ?_)
 ·simp only [Bool.not_eq_true'] at h_t11
  refine seq_k fun _ hK6 => ?_; refine region_k gu_ok fun _ hK7 => ?_
  refine s_stepA rfl (by decide) rfl fun _ hS => ?_
  repeat refine aI qSo1 ?_
  refine hS _ (diskV ([], 0)) _ _ (disk0_as) ?_
  clear hS
  refine sS0 fun _ hS => ?_; (repeat refine aI qSo1 ?_); (first | apply hS | (refine splice_full qSo1 ?_; apply hS)); clear hS
  refine sS1 ?_
  refine s_nil ?_; apply hK7; apply hK6
  rw [putV_eq (put_no1 h_t11)]
  refine WP_ret (Done_data gu_ok (fun _ _ h => h) (putV_low0 _ _) [] [.cell 4 37, .tmp 5] rfl ?_)
  repeat' (first | exact trivial | refine aI ?_ ?_ | exact cC0 | refine low_cons' ?_ ?_ | exact cC1 | fail)
  all_goals first | (show 0 + _ * 1 ≤ List.length _; simp; done) | exact (if_pos ⟨rfl, (by show List.length _ = _; simp)⟩).symm | exact Nat.one_pos | (simp; done) | (simp; omega) | skip
 ·simp only [Bool.not_eq_false'] at h_t11
  refine WP_skip ?_; apply hK3; refine seq_k fun _ hK8 => ?_; refine seq_k fun _ hK9 => ?_; refine region_k gu_ok fun _ hK10 => ?_
  refine sS fun _ hS => ?_; (repeat refine aI qSo1 ?_); apply hS; clear hS
  refine s_stepA rfl (by decide) rfl fun _ hS => ?_
  repeat refine aI qSo1 ?_
  first | refine hS _ (bytesV s.b) _ _ (as_eq (congrArg SV.c (piece_b hw))) ?_ | (refine whole_yes qSo1 ?_; refine hS _ (bytesV s.b) _ _ (as_eq (congrArg SV.c (piece_b hw))) ?_) | (refine whole_sub ?_; refine hS _ (bytesV s.b) _ _ (as_eq (congrArg SV.c (piece_b hw))) ?_)
  clear hS
  refine sS fun _ hS => ?_; (repeat refine aI qSo1 ?_); apply hS; clear hS
  refine sS fun _ hS => ?_; (repeat refine aI qSo1 ?_); apply hS; clear hS; refine s_nil ?_; apply hK10; apply hK9
  refine WP_cond (b := _) rfl (fun h_t16 => ?_) (fun h_t16 => ?_)
  ·try simp only [dQ] at h_t16
   refine seq_k fun _ hK11 => ?_; refine region_k gu_ok fun _ hK12 => ?_
   refine s_stepA rfl (by decide) rfl fun _ hS => ?_
   repeat refine aI qSo1 ?_
   refine hS _ (diskV ([], 0)) _ _ (disk0_as) ?_
   clear hS
   refine sS0 fun _ hS => ?_; (repeat refine aI qSo1 ?_); (first | apply hS | (refine splice_full qSo1 ?_; apply hS)); clear hS
   refine sS1 ?_
   refine s_nil ?_; apply hK12; apply hK11
   rw [putV_eq (put_no2 h_t11 (by omega))]
   refine WP_ret (Done_data gu_ok (fun _ _ h => h) (putV_low0 _ _) [] [.cell 4 37, .tmp 5] rfl ?_)
   repeat' (first | exact trivial | refine aI ?_ ?_ | exact cC0 | refine low_cons' ?_ ?_ | exact cC1 | fail)
   all_goals first | (show 0 + _ * 1 ≤ List.length _; simp; done) | exact (if_pos ⟨rfl, (by show List.length _ = _; simp)⟩).symm | exact Nat.one_pos | (simp; done) | (simp; omega) | skip
  ·try simp only [dQ] at h_t16
   refine WP_skip ?_; apply hK8; refine seq_k fun _ hK13 => ?_
   obtain ⟨ps, hps⟩ : ∃ ps, ps = Go.Sto.pieces d.1 := ⟨_, rfl⟩
   have hwf : allWf ps := hps ▸ wf_pieces d.1
   have hfew := pieces_few d.1
   rw [← hps] at hfew
   have htot := total_le d.1
   rw [← hps] at htot
   have hsm : ∀ s ∈ ps, s.b.length ≤ 65536 := fun s hs => (Go.Sto.pieces_ok d.1 s (hps ▸ hs)).2.2
   have hpv : piecesV d.1 = .tup [psP ps, .c (.int .i64 (total ps : Nat))] := by rw [piecesV, ← hps]
   have hsz : s.size = 76 + s.b.length := rfl
   have hrl := recW_length hw
   refine region_k gu_ok fun _ hK14 => ?_
   refine sS fun _ hS => ?_; (repeat refine aI qSo1 ?_); apply hS; clear hS
   refine sS fun _ hS => ?_; (repeat refine aI qSo1 ?_); (first | apply hS | (refine whole_yes qSo1 ?_; apply hS) | (refine whole_sub ?_; apply hS)); clear hS
   refine s_stepA rfl (by decide) rfl fun _ hS => ?_
   repeat first | refine aI qSo1 ?_ | refine whole_yes qSo1 ?_ | refine whole_sub ?_
   refine ⟨d.1, rfl, hd, ?_⟩
   repeat refine aI qSo1 ?_
   first | refine hS _ (.tup [psP ps, .c (.int .i64 (total ps : Nat))]) _ _ (as_eq hpv) ?_ | (intro cap2 hcap2; refine hS _ (.tup [psP ps, .c (.int .i64 (total ps : Nat))]) _ _ (as_eq hpv) ?_)
   clear hS
   refine sS1 ?_
   refine sS fun _ hS => ?_; (repeat refine aI qSo1 ?_); apply hS; clear hS
   refine sS fun _ hS => ?_; (repeat refine aI qSo1 ?_); apply hS; clear hS
   iterate 2 refine sS1 ?_
   refine s_nil ?_; apply hK14; apply hK13; refine seq_k fun _ hK15 => ?_; refine seq_k fun _ hK16 => ?_; refine region_k gu_ok fun _ hK17 => ?_
   refine sS1 ?_
   refine sS fun _ hS => ?_; (repeat refine aI qSo1 ?_); apply hS; clear hS
   refine sS fun _ hS => ?_; (repeat refine aI qSo1 ?_); (first | apply hS | (refine whole_yes qSo1 ?_; apply hS) | (refine whole_sub ?_; apply hS)); clear hS
   refine sS fun _ hS => ?_; (repeat refine aI qSo1 ?_); apply hS; clear hS
   refine sS fun _ hS => ?_; (repeat refine aI qSo1 ?_); apply hS; clear hS; refine s_nil ?_; apply hK17; apply hK16
   refine WP_cond (b := _) rfl (fun h_t28 => ?_) (fun h_t28 => ?_)
   ·try simp only [dQ] at h_t28
    refine seq_k fun _ hK18 => ?_; refine region_k gu_ok fun _ hK19 => ?_
    refine s_stepA rfl (by decide) rfl fun _ hS => ?_
    repeat refine aI qSo1 ?_
    refine hS _ (diskV ([], 0)) _ _ (disk0_as) ?_
    clear hS
    refine sS0 fun _ hS => ?_; (repeat refine aI qSo1 ?_); (first | apply hS | (refine splice_full qSo1 ?_; apply hS)); clear hS
    refine sS1 ?_
    refine s_nil ?_; apply hK19; apply hK18
    rw [putV_eq (put_no3 h_t11 (by omega) (by rw [← hps]; have := h_t28; omega))]
    refine WP_ret (Done_data gu_ok (fun _ _ h => h) (putV_low0 _ _) [] [.cell 4 37, .tmp 5] rfl ?_)
    repeat' (first | exact trivial | refine aI ?_ ?_ | exact cC0 | refine low_cons' ?_ ?_ | exact cC1 | fail)
    all_goals first | (show 0 + _ * 1 ≤ List.length _; simp; done) | exact (if_pos ⟨rfl, (by show List.length _ = _; simp)⟩).symm | exact Nat.one_pos | (simp; done) | (simp; omega) | skip
   ·try simp only [dQ] at h_t28
    refine WP_skip ?_; apply hK15; refine seq_k fun _ hK20 => ?_; refine seq_k fun _ hK21 => ?_; refine region_k gu_ok fun _ hK22 => ?_
    refine sS1 ?_
    refine sS fun _ hS => ?_; (repeat refine aI qSo1 ?_); apply hS; clear hS
    refine sS fun _ hS => ?_; (repeat refine aI qSo1 ?_); apply hS; clear hS
    refine s_stepA rfl (by decide) rfl fun _ hS => ?_
    repeat refine aI qSo1 ?_
    first | refine hS _ (bytesV s.b) _ _ (as_eq (congrArg SV.c (piece_b hw))) ?_ | (refine whole_yes qSo1 ?_; refine hS _ (bytesV s.b) _ _ (as_eq (congrArg SV.c (piece_b hw))) ?_) | (refine whole_sub ?_; refine hS _ (bytesV s.b) _ _ (as_eq (congrArg SV.c (piece_b hw))) ?_)
    clear hS
    refine sS fun _ hS => ?_; (repeat refine aI qSo1 ?_); apply hS; clear hS
    refine sS fun _ hS => ?_; (repeat refine aI qSo1 ?_); apply hS; clear hS
    refine sS fun _ hS => ?_; (repeat refine aI qSo1 ?_); apply hS; clear hS; refine s_nil ?_; apply hK22; apply hK21
    refine WP_cond (b := _) rfl (fun h_t36 => ?_) (fun h_t36 => ?_)
    ·try simp only [dQ] at h_t36
     refine seq_k fun _ hK23 => ?_; refine region_k gu_ok fun _ hK24 => ?_
     refine s_stepA rfl (by decide) rfl fun _ hS => ?_
     repeat refine aI qSo1 ?_
     refine hS _ (diskV ([], 0)) _ _ (disk0_as) ?_
     clear hS
     refine sS0 fun _ hS => ?_; (repeat refine aI qSo1 ?_); (first | apply hS | (refine splice_full qSo1 ?_; apply hS)); clear hS
     refine sS1 ?_
     refine s_nil ?_; apply hK24; apply hK23
     rw [putV_eq (put_no4 h_t11 (by omega) (by rw [← hps]; omega) (by rw [← hps]; omega))]
     refine WP_ret (Done_data gu_ok (fun _ _ h => h) (putV_low0 _ _) [] [.cell 4 37, .tmp 5] rfl ?_)
     repeat' (first | exact trivial | refine aI ?_ ?_ | exact cC0 | refine low_cons' ?_ ?_ | exact cC1 | fail)
     all_goals first | (show 0 + _ * 1 ≤ List.length _; simp; done) | exact (if_pos ⟨rfl, (by show List.length _ = _; simp)⟩).symm | exact Nat.one_pos | (simp; done) | (simp; omega) | skip
    ·try simp only [dQ] at h_t36
     refine WP_skip ?_; apply hK20; refine seq_k fun _ hK25 => ?_; refine region_k gu_ok fun _ hK26 => ?_
     refine sS fun _ hS => ?_; (repeat refine aI qSo1 ?_); apply hS; clear hS
     refine sS fun _ hS => ?_; (repeat refine aI qSo1 ?_); apply hS; clear hS
     refine sS fun _ hS => ?_; (repeat refine aI qSo1 ?_); (first | apply hS | (refine whole_yes qSo1 ?_; apply hS) | (refine whole_sub ?_; apply hS)); clear hS
     refine sS fun _ hS => ?_; (repeat first | refine aI qSo1 ?_ | refine whole_yes qSo1 ?_ | refine whole_sub ?_); (intro cap3 hcap3; apply hS); clear hS
     refine sS1 ?_
     refine s_nil ?_; apply hK26; apply hK25; refine seq_k fun _ hK27 => ?_
     refine tree_k gu_ok ?_
     refine WB_run gu_ok (g := 7) (by kernel_rfl) [(0, true), (1, true)] (by kernel_rfl) fun _ hK29 => ?_
     refine dD1 ?_
     refine dR fun _ hS => ?_; (repeat refine aI qSo2 ?_); (first | apply hS | (refine whole_yes qSo2 ?_; apply hS) | (refine whole_sub ?_; apply hS)); clear hS; refine d_nil ?_; apply hK29
     refine WB_all [2, 4] (by kernel_rfl) (by decide) (List.forall_mem_cons.2 ⟨?_, List.forall_mem_cons.2 ⟨?_, fun _ h => by cases h⟩⟩)
     ·refine WB_force gu_ok rfl rfl (by decide) rfl fun _ hS => ?_
      repeat first | refine aI qSo2 ?_ | refine whole_yes qSo2 ?_ | refine whole_sub ?_
      refine aI (piece_noclo _) ?_
      refine viewL_flat (piece_flat _) ?_
      refine ⟨s, rfl, ⟨hw, by omega⟩, ?_⟩
      repeat refine aI qSo2 ?_
      first | apply hS | (intro cap2 hcap2; apply hS)
      clear hS
      refine WB_all [3, 4] (by kernel_rfl) (by decide) (List.forall_mem_cons.2 ⟨?_, List.forall_mem_cons.2 ⟨?_, fun _ h => by cases h⟩⟩)
      ·refine WB_force gu_ok rfl rfl (by decide) rfl fun _ hS => ?_
       repeat first | refine aI qSo2 ?_ | refine whole_yes qSo2 ?_ | refine whole_sub ?_
       intro cap3 hcap3; apply hS
       clear hS
       refine WB_run gu_ok (g := 0) (by kernel_rfl) [(4, true), (5, true), (6, true), (7, false), (8, true)] (by kernel_rfl) fun _ hK30 => ?_
       refine dR fun _ hS => ?_; (repeat refine aI qSo2 ?_); apply hS; clear hS
       refine dR fun _ hS => ?_; (repeat refine aI qSo2 ?_); (first | apply hS | (refine whole_yes qSo2 ?_; apply hS) | (refine whole_sub ?_; apply hS)); clear hS
       refine dR fun _ hS => ?_; (repeat refine aI qSo2 ?_); apply hS; clear hS
       refine d_grow0 rfl rfl rfl fun _ hS => ?_
       repeat refine aI qSo2 ?_
       first | apply hS | (refine splice_full qSo2 ?_; apply hS)
       clear hS
       refine dD1 ?_
       refine d_nil ?_; apply hK30
       refine WB_done (by kernel_rfl) ?_
       apply hK27
       rw [putV_eq (put_yes h_t11 (by omega) (by rw [← hps]; omega) (by rw [← hps]; omega))]
       refine WP_ret (Done_data gu_ok (fun _ _ h => h) (putV_low0 _ _) [6] [.cell 4 37, .tmp 5] rfl ?_)
       repeat' (first | exact trivial | refine aI ?_ ?_ | exact cC0 | refine low_cons' ?_ ?_ | exact cC1 | fail)
       all_goals first | (show 0 + _ * 1 ≤ List.length _; simp [recW_length hw, Piece.size]; done) | (show 0 + _ * 1 ≤ List.length _; simp [recW_length hw, Piece.size]; omega) | (simp [recW_length hw, Piece.size]; done) | exact Nat.one_pos | (rw [if_pos ⟨rfl, by show List.length _ = _; simp [recW_length hw]⟩]; done) | exact (if_pos ⟨rfl, by show List.length _ = _; simp [recW_length hw]⟩).symm | skip
      ·refine WB_force gu_ok rfl rfl (by decide) rfl fun _ hS => ?_
       repeat refine aI qSo2 ?_
       apply hS
       clear hS
       refine WB_all [3, 5] (by kernel_rfl) (by decide) (List.forall_mem_cons.2 ⟨?_, List.forall_mem_cons.2 ⟨?_, fun _ h => by cases h⟩⟩)
       ·refine WB_force gu_ok rfl rfl (by decide) rfl fun _ hS => ?_
        repeat first | refine aI qSo2 ?_ | refine whole_yes qSo2 ?_ | refine whole_sub ?_
        intro cap3 hcap3; apply hS
        clear hS
        refine WB_run gu_ok (g := 0) (by kernel_rfl) [(5, true), (6, true), (7, false), (8, true)] (by kernel_rfl) fun _ hK31 => ?_
        refine dR fun _ hS => ?_; (repeat refine aI qSo2 ?_); (first | apply hS | (refine whole_yes qSo2 ?_; apply hS) | (refine whole_sub ?_; apply hS)); clear hS
        refine dR fun _ hS => ?_; (repeat refine aI qSo2 ?_); apply hS; clear hS
        refine d_grow0 rfl rfl rfl fun _ hS => ?_
        repeat refine aI qSo2 ?_
        first | apply hS | (refine splice_full qSo2 ?_; apply hS)
        clear hS
        refine dD1 ?_
        refine d_nil ?_; apply hK31
        refine WB_done (by kernel_rfl) ?_
        apply hK27
        rw [putV_eq (put_yes h_t11 (by omega) (by rw [← hps]; omega) (by rw [← hps]; omega))]
        refine WP_ret (Done_data gu_ok (fun _ _ h => h) (putV_low0 _ _) [6] [.cell 4 37, .tmp 5] rfl ?_)
        repeat' (first | exact trivial | refine aI ?_ ?_ | exact cC0 | refine low_cons' ?_ ?_ | exact cC1 | fail)
        all_goals first | (show 0 + _ * 1 ≤ List.length _; simp [recW_length hw, Piece.size]; done) | (show 0 + _ * 1 ≤ List.length _; simp [recW_length hw, Piece.size]; omega) | (simp [recW_length hw, Piece.size]; done) | exact Nat.one_pos | (rw [if_pos ⟨rfl, by show List.length _ = _; simp [recW_length hw]⟩]; done) | exact (if_pos ⟨rfl, by show List.length _ = _; simp [recW_length hw]⟩).symm | skip
       ·refine WB_force gu_ok rfl rfl (by decide) rfl fun _ hS => ?_
        repeat refine aI qSo2 ?_
        first | apply hS | (refine whole_yes qSo2 ?_; apply hS) | (refine whole_sub ?_; apply hS)
        clear hS
        refine WB_run gu_ok (g := 0) (by kernel_rfl) [(3, false), (6, true), (7, false), (8, true)] (by kernel_rfl) fun _ hK32 => ?_
        refine dG fun _ hS => ?_; (repeat first | refine aI qSo2 ?_ | refine whole_yes qSo2 ?_ | refine whole_sub ?_); (intro cap3 hcap3; apply hS); clear hS
        refine dR fun _ hS => ?_; (repeat refine aI qSo2 ?_); apply hS; clear hS
        refine d_grow0 rfl rfl rfl fun _ hS => ?_
        repeat refine aI qSo2 ?_
        first | apply hS | (refine splice_full qSo2 ?_; apply hS)
        clear hS
        refine dD1 ?_
        refine d_nil ?_; apply hK32
        refine WB_done (by kernel_rfl) ?_
        apply hK27
        rw [putV_eq (put_yes h_t11 (by omega) (by rw [← hps]; omega) (by rw [← hps]; omega))]
        refine WP_ret (Done_data gu_ok (fun _ _ h => h) (putV_low0 _ _) [6] [.cell 4 37, .tmp 5] rfl ?_)
        repeat' (first | exact trivial | refine aI ?_ ?_ | exact cC0 | refine low_cons' ?_ ?_ | exact cC1 | fail)
        all_goals first | (show 0 + _ * 1 ≤ List.length _; simp [recW_length hw, Piece.size]; done) | (show 0 + _ * 1 ≤ List.length _; simp [recW_length hw, Piece.size]; omega) | (simp [recW_length hw, Piece.size]; done) | exact Nat.one_pos | (rw [if_pos ⟨rfl, by show List.length _ = _; simp [recW_length hw]⟩]; done) | exact (if_pos ⟨rfl, by show List.length _ = _; simp [recW_length hw]⟩).symm | skip
     ·refine WB_force gu_ok rfl rfl (by decide) rfl fun _ hS => ?_
      repeat refine aI qSo2 ?_
      apply hS
      clear hS
      refine WB_all [2, 5] (by kernel_rfl) (by decide) (List.forall_mem_cons.2 ⟨?_, List.forall_mem_cons.2 ⟨?_, fun _ h => by cases h⟩⟩)
      ·refine WB_force gu_ok rfl rfl (by decide) rfl fun _ hS => ?_
       repeat first | refine aI qSo2 ?_ | refine whole_yes qSo2 ?_ | refine whole_sub ?_
       refine aI (piece_noclo _) ?_
       refine viewL_flat (piece_flat _) ?_
       refine ⟨s, rfl, ⟨hw, by omega⟩, ?_⟩
       repeat refine aI qSo2 ?_
       first | apply hS | (intro cap2 hcap2; apply hS)
       clear hS
       refine WB_all [3, 5] (by kernel_rfl) (by decide) (List.forall_mem_cons.2 ⟨?_, List.forall_mem_cons.2 ⟨?_, fun _ h => by cases h⟩⟩)
       ·refine WB_force gu_ok rfl rfl (by decide) rfl fun _ hS => ?_
        repeat first | refine aI qSo2 ?_ | refine whole_yes qSo2 ?_ | refine whole_sub ?_
        intro cap3 hcap3; apply hS
        clear hS
        refine WB_run gu_ok (g := 0) (by kernel_rfl) [(5, true), (6, true), (7, false), (8, true)] (by kernel_rfl) fun _ hK33 => ?_
        refine dR fun _ hS => ?_; (repeat refine aI qSo2 ?_); (first | apply hS | (refine whole_yes qSo2 ?_; apply hS) | (refine whole_sub ?_; apply hS)); clear hS
        refine dR fun _ hS => ?_; (repeat refine aI qSo2 ?_); apply hS; clear hS
        refine d_grow0 rfl rfl rfl fun _ hS => ?_
        repeat refine aI qSo2 ?_
        first | apply hS | (refine splice_full qSo2 ?_; apply hS)
        clear hS
        refine dD1 ?_
        refine d_nil ?_; apply hK33
        refine WB_done (by kernel_rfl) ?_
        apply hK27
        rw [putV_eq (put_yes h_t11 (by omega) (by rw [← hps]; omega) (by rw [← hps]; omega))]
        refine WP_ret (Done_data gu_ok (fun _ _ h => h) (putV_low0 _ _) [6] [.cell 4 37, .tmp 5] rfl ?_)
        repeat' (first | exact trivial | refine aI ?_ ?_ | exact cC0 | refine low_cons' ?_ ?_ | exact cC1 | fail)
        all_goals first | (show 0 + _ * 1 ≤ List.length _; simp [recW_length hw, Piece.size]; done) | (show 0 + _ * 1 ≤ List.length _; simp [recW_length hw, Piece.size]; omega) | (simp [recW_length hw, Piece.size]; done) | exact Nat.one_pos | (rw [if_pos ⟨rfl, by show List.length _ = _; simp [recW_length hw]⟩]; done) | exact (if_pos ⟨rfl, by show List.length _ = _; simp [recW_length hw]⟩).symm | skip
       ·refine WB_force gu_ok rfl rfl (by decide) rfl fun _ hS => ?_
        repeat refine aI qSo2 ?_
        first | apply hS | (refine whole_yes qSo2 ?_; apply hS) | (refine whole_sub ?_; apply hS)
        clear hS
        refine WB_run gu_ok (g := 0) (by kernel_rfl) [(3, false), (6, true), (7, false), (8, true)] (by kernel_rfl) fun _ hK34 => ?_
        refine dG fun _ hS => ?_; (repeat first | refine aI qSo2 ?_ | refine whole_yes qSo2 ?_ | refine whole_sub ?_); (intro cap3 hcap3; apply hS); clear hS
        refine dR fun _ hS => ?_; (repeat refine aI qSo2 ?_); apply hS; clear hS
        refine d_grow0 rfl rfl rfl fun _ hS => ?_
        repeat refine aI qSo2 ?_
        first | apply hS | (refine splice_full qSo2 ?_; apply hS)
        clear hS
        refine dD1 ?_
        refine d_nil ?_; apply hK34
        refine WB_done (by kernel_rfl) ?_
        apply hK27
        rw [putV_eq (put_yes h_t11 (by omega) (by rw [← hps]; omega) (by rw [← hps]; omega))]
        refine WP_ret (Done_data gu_ok (fun _ _ h => h) (putV_low0 _ _) [6] [.cell 4 37, .tmp 5] rfl ?_)
        repeat' (first | exact trivial | refine aI ?_ ?_ | exact cC0 | refine low_cons' ?_ ?_ | exact cC1 | fail)
        all_goals first | (show 0 + _ * 1 ≤ List.length _; simp [recW_length hw, Piece.size]; done) | (show 0 + _ * 1 ≤ List.length _; simp [recW_length hw, Piece.size]; omega) | (simp [recW_length hw, Piece.size]; done) | exact Nat.one_pos | (rw [if_pos ⟨rfl, by show List.length _ = _; simp [recW_length hw]⟩]; done) | exact (if_pos ⟨rfl, by show List.length _ = _; simp [recW_length hw]⟩).symm | skip
      ·refine WB_force gu_ok rfl rfl (by decide) rfl fun _ hS => ?_
       repeat refine aI qSo2 ?_
       first | apply hS | (refine whole_yes qSo2 ?_; apply hS) | (refine whole_sub ?_; apply hS)
       clear hS
       refine WB_run gu_ok (g := 0) (by kernel_rfl) [(2, false), (3, false), (6, true), (7, false), (8, true)] (by kernel_rfl) fun _ hK35 => ?_
       refine dG fun _ hS => ?_; (repeat first | refine aI qSo2 ?_ | refine whole_yes qSo2 ?_ | refine whole_sub ?_); refine aI (piece_noclo _) ?_; refine viewL_flat (piece_flat _) ?_; refine ⟨s, rfl, ⟨hw, by omega⟩, ?_⟩; (repeat refine aI qSo2 ?_); (first | apply hS | (intro cap2 hcap2; apply hS)); clear hS
       refine dG fun _ hS => ?_; (repeat first | refine aI qSo2 ?_ | refine whole_yes qSo2 ?_ | refine whole_sub ?_); (intro cap3 hcap3; apply hS); clear hS
       refine dR fun _ hS => ?_; (repeat refine aI qSo2 ?_); apply hS; clear hS
       refine d_grow0 rfl rfl rfl fun _ hS => ?_
       repeat refine aI qSo2 ?_
       first | apply hS | (refine splice_full qSo2 ?_; apply hS)
       clear hS
       refine dD1 ?_
       refine d_nil ?_; apply hK35
       refine WB_done (by kernel_rfl) ?_
       apply hK27
       rw [putV_eq (put_yes h_t11 (by omega) (by rw [← hps]; omega) (by rw [← hps]; omega))]
       refine WP_ret (Done_data gu_ok (fun _ _ h => h) (putV_low0 _ _) [6] [.cell 4 37, .tmp 5] rfl ?_)
       repeat' (first | exact trivial | refine aI ?_ ?_ | exact cC0 | refine low_cons' ?_ ?_ | exact cC1 | fail)
       all_goals first | (show 0 + _ * 1 ≤ List.length _; simp [recW_length hw, Piece.size]; done) | (show 0 + _ * 1 ≤ List.length _; simp [recW_length hw, Piece.size]; omega) | (simp [recW_length hw, Piece.size]; done) | exact Nat.one_pos | (rw [if_pos ⟨rfl, by show List.length _ = _; simp [recW_length hw]⟩]; done) | exact (if_pos ⟨rfl, by show List.length _ = _; simp [recW_length hw]⟩).symm | skip


end Go.Proofs.YtnhmglhbhnhnhaaDoor

namespace Go.Proofs.YtnhmglhbhnhnhaaDoor
set_option linter.unusedVariables false
open Go.Ab Go.RowKit

theorem qSp0 {a : Prop} (h : a := by first | exact vcA | (simp <;> omega) | exact (pieceC_len hw).symm | exact pieceC_len hw | (rw [pieceC_len hw]; decide) | (rw [pieceC_len hw]; omega) | exact pieceC_solid _ | exact hsec.symm | exact hsec | (show (0 : Nat) < List.length _; omega) | (show _ ≤ List.length _; omega) | (show List.length _ = _; omega) | exact inR_i64.mpr ⟨by omega, by omega⟩ | exact vcB) : a := h
theorem uSp0 {a : Prop} (h : a := by
    repeat' (first | exact trivial | refine aI ?_ ?_ | exact cC0 | refine low_cons' ?_ ?_ | exact cC1 | fail)
    all_goals first | omega | exact pieceC_isD _ | exact pieceC_low | (show (0 : Nat) < (pieceC _).len; rw [pieceC_len hw]; omega) | (show (0 : Nat) < List.length _; omega) | (rw [total_zero]; rfl) | exact SV.low_mono (Nat.zero_le _) (boxL_low _) | (simp [total_zero]; done) | skip) : a := h

open Go.Sto
noncomputable def gx : Ctx := { P := Tryd.prog, ty := ty, glob := gl, fs := [(34, .flat validS), (35, .data recordsS), (42, .flat correctS), (43, .own cloneS)] }
theorem gx_ok : gx.OK := ⟨tyOK, ⟨⟨enters_mk Tryd.func34 (by kernel_rfl) rfl, valid_ok⟩, ⟨enters_mk Tryd.func35 (by kernel_rfl) rfl, records_ok⟩, ⟨enters_mk Tryd.func42 (by kernel_rfl) rfl, correct_ok⟩, ⟨enters_mk Tryd.func43 (by kernel_rfl) rfl, clone_ok⟩, trivial⟩, mixed⟩
@[simp] theorem gx_ty : gx.ty = ty := rfl

def repairS : QSpec := fun vs K => ∃ (d : Disk) (secret : List UInt8), vs = [diskV d, .agg (.u8s secret)] ∧ (dok d ∧ secret.length = 32) ∧ K (diskV (repairL (corF secret) d))
set_option maxHeartbeats 1000000 in
theorem repair_ok : DataOK Tryd.prog gl 27 repairS := by
 refine data_ofM (Γ := gx) (N := 32) Tryd.func27 rfl rfl fun vs K h => ?_
 obtain ⟨d, secret, rfl, ⟨⟨hd, hd1, hd2⟩, hsec⟩, h⟩ := h
 refine ⟨_, h, disk_low _, by simp, fun w I => ?_⟩
 refine seq_k fun _ hK1 => ?_; refine region_k gx_ok fun _ hK2 => ?_
 refine sS fun _ hS => ?_; (repeat refine aI qSp0 ?_); apply hS; clear hS
 refine sS fun _ hS => ?_; (repeat refine aI qSp0 ?_); apply hS; clear hS
 refine sS fun _ hS => ?_; (repeat refine aI qSp0 ?_); apply hS; clear hS; refine s_nil ?_; apply hK2; apply hK1; refine seq_k fun _ hK3 => ?_; refine seq_k fun _ hK4 => ?_; refine region_k gx_ok fun _ hK5 => ?_
 refine sS fun _ hS => ?_; (repeat refine aI qSp0 ?_); (first | apply hS | (refine whole_yes qSp0 ?_; apply hS) | (refine whole_sub ?_; apply hS)); clear hS
 refine sS fun _ hS => ?_; (repeat first | refine aI qSp0 ?_ | refine whole_yes qSp0 ?_ | refine whole_sub ?_); refine ⟨d, rfl, ⟨by omega, by omega, by omega⟩, ?_⟩; (repeat refine aI qSp0 ?_); (first | apply hS | (intro cap1 hcap1; apply hS)); clear hS
 refine sS1 ?_
 refine s_nil ?_; apply hK5; apply hK4
 refine WP_cond (b := _) rfl (fun h_t10 => ?_) (fun h_t10 => ?_)
 ·simp only [Bool.not_eq_true'] at h_t10
  refine seq_k fun _ hK6 => ?_; refine region_k gx_ok fun _ hK7 => ?_
  refine s_stepA rfl (by decide) rfl fun _ hS => ?_
  repeat refine aI qSp0 ?_
  refine hS _ (diskV ([], 0)) _ _ (disk0_as) ?_
  clear hS
  refine sS0 fun _ hS => ?_; (repeat refine aI qSp0 ?_); (first | apply hS | (refine splice_full qSp0 ?_; apply hS)); clear hS; refine s_nil ?_; apply hK7; apply hK6
  rw [repair_no h_t10]
  refine WP_ret (Done_data0 gx_ok (fun _ _ h => h) (disk_low _) [] [.cell 4 37] rfl ?_)
  repeat' (first | exact trivial | refine aI ?_ ?_ | exact cC0 | refine low_cons' ?_ ?_ | exact cC1 | fail)
  all_goals first | (show 0 + _ * 1 ≤ List.length _; simp; done) | exact (if_pos ⟨rfl, (by show List.length _ = _; simp)⟩).symm | exact Nat.one_pos | (simp; done) | (simp; omega) | skip
 ·simp only [Bool.not_eq_false'] at h_t10
  refine WP_skip ?_; apply hK3; refine seq_k fun _ hK8 => ?_; refine region_k gx_ok fun _ hK9 => ?_
  refine sS fun _ hS => ?_; (repeat refine aI qSp0 ?_); apply hS; clear hS
  refine sS0 fun _ hS => ?_; (repeat refine aI qSp0 ?_); (first | apply hS | (refine splice_full qSp0 ?_; apply hS)); clear hS; refine s_nil ?_; apply hK9; apply hK8
  refine seq_kC fun _ hK10 => ?_
  refine seq_k fun _ hK11 => ?_
  obtain ⟨ps, hps⟩ : ∃ ps, ps = Go.Sto.pieces d.1 := ⟨_, rfl⟩
  have hwf : allWf ps := hps ▸ wf_pieces d.1
  have hfew := pieces_few d.1
  rw [← hps] at hfew
  have htot := total_le d.1
  rw [← hps] at htot
  have hsm : ∀ s ∈ ps, s.b.length ≤ 65536 := fun s hs => (Go.Sto.pieces_ok d.1 s (hps ▸ hs)).2.2
  have hpv : piecesV d.1 = .tup [psP ps, .c (.int .i64 (total ps : Nat))] := by rw [piecesV, ← hps]
  have hseq := recs_ok d.1 hd
  refine region_k gx_ok fun _ hK12 => ?_
  refine sS fun _ hS => ?_; (repeat refine aI qSp0 ?_); apply hS; clear hS
  refine sS fun _ hS => ?_; (repeat refine aI qSp0 ?_); (first | apply hS | (refine whole_yes qSp0 ?_; apply hS) | (refine whole_sub ?_; apply hS)); clear hS
  refine sS fun _ hS => ?_; (repeat first | refine aI qSp0 ?_ | refine whole_yes qSp0 ?_ | refine whole_sub ?_); refine ⟨d.1, rfl, ?_⟩; (repeat refine aI qSp0 ?_); (first | apply hS | (intro cap2 hcap2; apply hS)); clear hS; refine s_nil ?_; apply hK12; apply hK11
  refine leW [0, 1] (fun i => i + 2) [(2, .c (.dp (.cells [.ds d.1.length (.u8s d.1), .int .i64 d.2]) 0)), (3, .c (.dp (.u8s secret) 0)), (4, .c (.ptr 0 0)), (5, .c (.ptr 1 0)), (14, .c (.clo 47 [boxL d.1]))] [(0, .own 37 (.cells ([.nils] ++ [.int .i64 0])) 2), (1, .own 3 (.ints .i64 [((total (ps.take 0) : Nat) : Int)]) 1)] 2 [2, 3] ?_ ?_ ?_ ?_ ?_
  ·exact uSp0
  ·exact uSp0
  ·exact uSp0
  ·exact uSp0
  refine WP_block ?_
  refine WP_rangeFg gx_ok (α := Unit) (caps := [boxL d.1]) (xs := recXs d.1) (enters_mk Tryd.func47 (by kernel_rfl) rfl) hseq rfl (fun v hv => ?_) ⟨by decide, by decide, recXs_two⟩ (.exit 0) rfl 2 (by omega) (Nat.zero_le _) ?_ (fun k y => [(0, .own 37 (.cells ([.nils] ++ [.int .i64 0])) 2), (1, .own 3 (.ints .i64 [((total (ps.take k) : Nat) : Int)]) 1)]) (fun k y => ∀ s ∈ ps.take k, corF secret s = true) () ?_ (fun s hs => by simp at hs) (fun k y => [(2, .c (.dp (.cells [.ds d.1.length (.u8s d.1), .int .i64 d.2]) 0)), (3, .c (.dp (.u8s secret) 0)), (4, .c (.ptr 0 0)), (5, .c (.ptr 1 0)), (14, .c (.clo 47 [boxL d.1])), (6, .c (.int .i64 ((total (ps.take (k + 1)) : Nat) : Int))), (7, .c (.dp (pieceC (ps.getD k noPiece)) 0))]) (fun k y => [(0, .own 37 (.cells ([.nils] ++ [.int .i64 0])) 2), (1, .own 3 (.ints .i64 [((total (ps.take k) : Nat) : Int)]) 1)]) (fun k y => k < ps.length ∧ (∀ s ∈ ps.take k, corF secret s = true) ∧ corF secret (ps.getD k noPiece) = false) ?_ ?_ ?_ ?_
  ·rw [List.mem_singleton.1 hv]
   trivial
  ·intro i v hv
   refine Env.low_get (n := 2) (E := [(2, .c (.dp (.cells [.ds d.1.length (.u8s d.1), .int .i64 d.2]) 0)), (3, .c (.dp (.u8s secret) 0)), (4, .c (.ptr 0 0)), (5, .c (.ptr 1 0)), (14, .c (.clo 47 [boxL d.1]))]) ?_ hv
   repeat' (first | exact trivial | refine aI ?_ ?_ | exact cC0 | refine low_cons' ?_ ?_ | exact cC1 | fail)
   all_goals first | omega | exact pieceC_isD _ | exact pieceC_low | (show (0 : Nat) < (pieceC _).len; rw [pieceC_len hw]; omega) | (show (0 : Nat) < List.length _; omega) | (rw [total_zero]; rfl) | exact SV.low_mono (Nat.zero_le _) (boxL_low _) | (simp [total_zero]; done) | skip
  ·rfl
  ·intro k y x hx hP C' ro m Q hC hQ
   obtain ⟨s, hks, rfl⟩ := recXs_inv hx
   rw [← hps] at hks
   try rw [← hps]
   obtain rfl : s = ps.getD k noPiece := by rw [List.getD_eq_getElem?_getD, hks]; rfl
   have hw := hwf _ (List.mem_of_getElem? hks)
   have hsb := hsm _ (List.mem_of_getElem? hks)
   have hkl : k < ps.length := (List.getElem?_eq_some_iff.1 hks).1
   have hT := total_succ hks
   have hTl : total (ps.take (k + 1)) ≤ total ps := total_take_le ps (k + 1)
   refine WPi_n0 fun hn0 => ?_
   refine WPi_seq fun _ hK113 => ?_
   refine WPi_region gx_ok fun _ hK114 => ?_
   refine y_step rfl (by decide) rfl (by intro c h; cases h) fun _ hS => ?_
   apply hS
   clear hS
   refine y_nil ?_
   apply hK114; apply hK113
   refine WPi_region gx_ok fun _ hK115 => ?_
   refine y_step rfl (by decide) rfl (by intro c h; cases h) fun _ hS => ?_
   repeat refine aI qSp0 ?_
   apply hS
   clear hS
   refine y_step0 rfl rfl (by intro c h; cases h) fun _ hS => ?_
   repeat refine aI qSp0 ?_
   first | apply hS | (refine splice_full qSp0 ?_; apply hS)
   clear hS
   refine y_nil ?_
   apply hK115
   refine Done_leq [2] id hQ ⟨?_, ?_, (by decide : List.Nodup ([0, 1] : List Nat)), ?_, ?_, ⟨by omega, fun i hi => by
    have hi' : i < 2 := by omega
    first | rfl | (simp; omega) | (match i, hi' with
    | 0, _ => rfl
    | 1, _ => rfl)⟩⟩
   ·exact uSp0
   ·exact uSp0
   ·exact uSp0
   ·exact uSp0
  ·intro k y x hx hP C' ro m Q hC hQ hZ
   obtain ⟨s, hks, rfl⟩ := recXs_inv hx
   rw [← hps] at hks
   try rw [← hps]
   obtain rfl : s = ps.getD k noPiece := by rw [List.getD_eq_getElem?_getD, hks]; rfl
   have hw := hwf _ (List.mem_of_getElem? hks)
   have hsb := hsm _ (List.mem_of_getElem? hks)
   have hkl : k < ps.length := (List.getElem?_eq_some_iff.1 hks).1
   have hT := total_succ hks
   have hTl : total (ps.take (k + 1)) ≤ total ps := total_take_le ps (k + 1)
   refine WPi_n0 fun hn0 => ?_
   refine WPi_block ?_
   refine WPi_seq fun _ hK216 => ?_
   refine WPi_seq fun _ hK217 => ?_
   refine WPi_region gx_ok fun _ hK218 => ?_
   refine y_step rfl (by decide) rfl (by intro c h; cases h) fun _ hS => ?_
   repeat refine aI qSp0 ?_
   first | apply hS | (refine whole_yes qSp0 ?_; apply hS) | (refine whole_sub ?_; apply hS)
   clear hS
   refine y_step rfl (by decide) rfl (by intro c h; cases h) fun _ hS => ?_
   repeat refine aI qSp0 ?_
   first | apply hS | (refine whole_yes qSp0 ?_; apply hS) | (refine whole_sub ?_; apply hS)
   clear hS
   refine y_step rfl (by decide) rfl (by intro c h; cases h) fun _ hS => ?_
   repeat first | refine aI qSp0 ?_ | refine whole_yes qSp0 ?_ | refine whole_sub ?_
   refine aI (piece_noclo _) ?_
   refine viewL_flat (piece_flat _) ?_
   refine ⟨_, secret, rfl, ⟨hw, hsec, by omega⟩, ?_⟩
   repeat refine aI qSp0 ?_
   first | apply hS | (intro cap2 hcap2; apply hS)
   clear hS
   refine y_step rfl (by decide) rfl (by intro c h; cases h) fun _ hS => ?_
   apply hS
   clear hS
   refine y_nil ?_
   apply hK218; apply hK217
   refine WPi_cond (b := _) rfl (fun h_t20 => ?_) (fun h_t20 => ?_)
   ·try simp only [dQ] at h_t20
    refine WPi_exit ?_
    refine done_thenx ?_
    refine Done_miss (by decide) ?_
    refine Done_leq [] id (hZ () ⟨hkl, hP, by simpa using h_t20⟩) ⟨?_, ?_, (by decide : List.Nodup ([0, 1] : List Nat)), ?_, ?_, ⟨by omega, fun i hi => by
     have hi' : i < 2 := by omega
     first | rfl | (simp; omega) | (match i, hi' with
     | 0, _ => rfl
     | 1, _ => rfl)⟩⟩
    ·exact uSp0
    ·exact uSp0
    ·exact uSp0
    ·exact uSp0
   ·try simp only [dQ] at h_t20
    refine WPi_skip ?_
    apply hK216
    refine WPi_region gx_ok fun _ hK219 => ?_
    refine y_step rfl (by decide) rfl (by intro c h; cases h) fun _ hS => ?_
    apply hS
    clear hS
    refine y_step0 rfl rfl (by intro c h; cases h) fun _ hS => ?_
    repeat refine aI qSp0 ?_
    first | apply hS | (refine splice_full qSp0 ?_; apply hS)
    clear hS
    refine y_nil ?_
    apply hK219; refine done_block ?_
    refine Done_leq [] id (hQ () (by
      rw [List.take_add_one, hks, Option.toList_some]
      intro t ht
      rcases List.mem_append.1 ht with ht | ht
      ·exact hP t ht
      ·rw [List.mem_singleton.1 ht]; simpa using h_t20)) ⟨?_, ?_, (by decide : List.Nodup ([0, 1] : List Nat)), ?_, ?_, ⟨by omega, fun i hi => by
     have hi' : i < 2 := by omega
     first | rfl | (simp; omega) | (match i, hi' with
     | 0, _ => rfl
     | 1, _ => rfl)⟩⟩
    ·exact uSp0
    ·exact uSp0
    ·exact uSp0
    ·exact uSp0
  ·intro y β1 I1 w1 d1 hP hH1 hd0 hA
   rw [recXs_length, ← hps] at hH1 hA ⊢
   try rw [recXs_length, ← hps] at hP
   obtain ⟨T, hTd⟩ : ∃ T, T = total (ps.take ps.length) := ⟨_, rfl⟩
   have hTT : T ≤ d.1.length := by rw [hTd, List.take_length]; exact htot
   have hN : repairN (corF secret) d.1 = T := by
    rw [repairN, ← hps, hTd]
    congr 1
    exact while_take (Nat.le_refl _) hP (.inl rfl)
   rw [← hTd] at hH1 hA ⊢
   refine done_block ?_
   refine hK10 _ _ _ _ ?_
   refine seq_k fun _ hK320 => ?_
   refine sched_k gx_ok [(0, true), (1, true), (2, true), (3, true), (5, true), (6, true), (7, true), (8, true), (4, false), (9, true), (10, false)] rfl (by kernel_rfl) (by kernel_rfl) fun _ hK321 => ?_
   refine dR fun _ hS => ?_; (repeat refine aI qSp0 ?_); apply hS; clear hS
   refine dR fun _ hS => ?_; (repeat refine aI qSp0 ?_); (first | apply hS | (refine whole_yes qSp0 ?_; apply hS) | (refine whole_sub ?_; apply hS)); clear hS
   refine dR fun _ hS => ?_; (repeat refine aI qSp0 ?_); (first | apply hS | (refine whole_yes qSp0 ?_; apply hS) | (refine whole_sub ?_; apply hS)); clear hS
   refine d_readA rfl rfl (by decide) rfl fun _ hS => ?_
   repeat refine aI qSp0 ?_
   first | refine hS _ (bytesV (d.1.take T)) (takeN_as hTT) ?_ | (refine ite_yes qSp0 ?_; (repeat refine aI qSp0 ?_); refine hS _ (bytesV (d.1.take T)) (takeN_as hTT) ?_)
   clear hS
   refine dR fun _ hS => ?_; (repeat refine aI qSp0 ?_); apply hS; clear hS
   refine dR fun _ hS => ?_; (repeat refine aI qSp0 ?_); (first | apply hS | (refine whole_yes qSp0 ?_; apply hS) | (refine whole_sub ?_; apply hS)); clear hS
   refine dR fun _ hS => ?_; (repeat refine aI qSp0 ?_); (first | apply hS | (refine whole_yes qSp0 ?_; apply hS) | (refine whole_sub ?_; apply hS)); clear hS
   refine d_readA rfl rfl (by decide) rfl fun _ hS => ?_
   repeat refine aI qSp0 ?_
   refine hS _ (.c (.int .i64 (min d.2 ((T : Nat) : Int)))) (minT_as _ _) ?_
   clear hS
   refine dG fun _ hS => ?_; (repeat first | refine aI qSp0 ?_ | refine whole_yes qSp0 ?_ | refine whole_sub ?_); refine ⟨d.1.take T, rfl, by rw [List.length_take]; omega, ?_⟩; (repeat refine aI qSp0 ?_); (first | apply hS | (intro cap4 hcap4; apply hS)); clear hS
   refine dR fun _ hS => ?_; (repeat refine aI qSp0 ?_); apply hS; clear hS
   refine d_grow0 rfl rfl rfl fun _ hS => ?_
   repeat refine aI qSp0 ?_
   first | apply hS | (refine splice_full qSp0 ?_; apply hS)
   clear hS; refine d_nil ?_; apply hK321; apply hK320
   rw [repair_yes h_t10 hN]
   refine WP_ret (Done_dataM gx_ok hH1 hd0 hA (fun _ _ h => h) (disk_low _) [2] [.cell 4 37] rfl ?_)
   repeat' (first | exact trivial | refine aI ?_ ?_ | exact cC0 | refine low_cons' ?_ ?_ | exact cC1 | fail)
   all_goals first | (show 0 + _ * 1 ≤ List.length _; simp; done) | exact (if_pos ⟨rfl, (by show List.length _ = _; simp)⟩).symm | exact Nat.one_pos | (simp; done) | (simp; omega) | skip
  ·intro k y β1 I1 w1 d1 hk hZ hH1 hd0 hA
   rw [recXs_length, ← hps] at hk
   obtain ⟨T, hTd⟩ : ∃ T, T = total (ps.take k) := ⟨_, rfl⟩
   have hTT : T ≤ d.1.length := by rw [hTd]; exact Nat.le_trans (total_take_le _ _) htot
   have hN : repairN (corF secret) d.1 = T := by
    rw [repairN, ← hps, hTd]
    congr 1
    exact while_take (by omega) hZ.2.1 (.inr ⟨_, by rw [List.getD_eq_getElem?_getD, List.getElem?_eq_getElem hZ.1]; rfl, hZ.2.2⟩)
   rw [← hTd] at hH1 hA ⊢
   refine Done_hit ?_
   refine hK10 _ _ _ _ ?_
   refine seq_k fun _ hK322 => ?_
   refine sched_k gx_ok [(0, true), (1, true), (2, true), (3, true), (5, true), (6, true), (7, true), (8, true), (4, false), (9, true), (10, false)] rfl (by kernel_rfl) (by kernel_rfl) fun _ hK323 => ?_
   refine dR fun _ hS => ?_; (repeat refine aI qSp0 ?_); apply hS; clear hS
   refine dR fun _ hS => ?_; (repeat refine aI qSp0 ?_); (first | apply hS | (refine whole_yes qSp0 ?_; apply hS) | (refine whole_sub ?_; apply hS)); clear hS
   refine dR fun _ hS => ?_; (repeat refine aI qSp0 ?_); (first | apply hS | (refine whole_yes qSp0 ?_; apply hS) | (refine whole_sub ?_; apply hS)); clear hS
   refine d_readA rfl rfl (by decide) rfl fun _ hS => ?_
   repeat refine aI qSp0 ?_
   first | refine hS _ (bytesV (d.1.take T)) (takeN_as hTT) ?_ | (refine ite_yes qSp0 ?_; (repeat refine aI qSp0 ?_); refine hS _ (bytesV (d.1.take T)) (takeN_as hTT) ?_)
   clear hS
   refine dR fun _ hS => ?_; (repeat refine aI qSp0 ?_); apply hS; clear hS
   refine dR fun _ hS => ?_; (repeat refine aI qSp0 ?_); (first | apply hS | (refine whole_yes qSp0 ?_; apply hS) | (refine whole_sub ?_; apply hS)); clear hS
   refine dR fun _ hS => ?_; (repeat refine aI qSp0 ?_); (first | apply hS | (refine whole_yes qSp0 ?_; apply hS) | (refine whole_sub ?_; apply hS)); clear hS
   refine d_readA rfl rfl (by decide) rfl fun _ hS => ?_
   repeat refine aI qSp0 ?_
   refine hS _ (.c (.int .i64 (min d.2 ((T : Nat) : Int)))) (minT_as _ _) ?_
   clear hS
   refine dG fun _ hS => ?_; (repeat first | refine aI qSp0 ?_ | refine whole_yes qSp0 ?_ | refine whole_sub ?_); refine ⟨d.1.take T, rfl, by rw [List.length_take]; omega, ?_⟩; (repeat refine aI qSp0 ?_); (first | apply hS | (intro cap4 hcap4; apply hS)); clear hS
   refine dR fun _ hS => ?_; (repeat refine aI qSp0 ?_); apply hS; clear hS
   refine d_grow0 rfl rfl rfl fun _ hS => ?_
   repeat refine aI qSp0 ?_
   first | apply hS | (refine splice_full qSp0 ?_; apply hS)
   clear hS; refine d_nil ?_; apply hK323; apply hK322
   rw [repair_yes h_t10 hN]
   refine WP_ret (Done_dataM gx_ok hH1 hd0 hA (fun _ _ h => h) (disk_low _) [2] [.cell 4 37] rfl ?_)
   repeat' (first | exact trivial | refine aI ?_ ?_ | exact cC0 | refine low_cons' ?_ ?_ | exact cC1 | fail)
   all_goals first | (show 0 + _ * 1 ≤ List.length _; simp; done) | exact (if_pos ⟨rfl, (by show List.length _ = _; simp)⟩).symm | exact Nat.one_pos | (simp; done) | (simp; omega) | skip
  


end Go.Proofs.YtnhmglhbhnhnhaaDoor
