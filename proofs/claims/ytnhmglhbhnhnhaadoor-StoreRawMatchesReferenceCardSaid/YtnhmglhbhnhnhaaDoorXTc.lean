/- The law: the reference agrees on arbitrary bytes. -/
import Derived.Test.YtnhmglhbhnhnhaaDoorPe
namespace Go.Proofs.YtnhmglhbhnhnhaaDoor
set_option linter.unusedVariables false
open Go.Ab Go.RowKit

theorem qTc0 {a : Prop} (h : a := by first | exact vcA | (simp <;> omega) | exact (log_len hx).symm | exact log_len hx | (rw [log_len hx]; decide) | (show _ ≤ (logC x).len; rw [log_len hx]; decide) | exact (log_plain _).solid | exact hsec.symm | exact hsec | exact (pieceC_len hw1).symm | exact pieceC_len hw1 | (rw [pieceC_len hw1]; decide) | exact (pieceC_len hqw).symm | exact pieceC_len hqw | (rw [pieceC_len hqw]; decide) | exact pieceC_solid _ | exact zs32_len | exact zs32_len.symm | exact crc_isD _ _ _ | exact vcB) : a := h
theorem uTc0 {a : Prop} (h : a := by
    repeat' (first | exact trivial | refine aI ?_ ?_ | exact cC0 | refine low_cons' ?_ ?_ | exact cC1 | fail)
    all_goals first | exact pieceC_low (s := p) | (refine long_to (x := .slice 0 0 _ _) hp ?_; refine ⟨by simp, trivial, ?_, Nat.one_pos, rfl, ?_⟩; exact (by show 0 + _ * 1 ≤ List.length (List.replicate _ _); simp); exact (if_pos ⟨rfl, by show List.length (List.replicate _ _) = _; simp⟩).symm) | omega | exact pcl_isD _ | exact pieceC_isD _ | exact (log_plain _).isD | exact raw_isD _ | exact crc_isD _ _ _ | (show (0 : Nat) < (logC x).len; rw [log_len hx]; decide) | (show (0 : Nat) < (pieceC _).len; rw [pieceC_len hw1]; decide) | (show (0 : Nat) < (pieceC _).len; rw [pieceC_len hqw]; decide) | (show (0 : Nat) < List.length _; rw [hsec]; decide) | (show (0 : Nat) < List.length _; rw [hol]; decide) | (simp; done) | skip) : a := h
open Go.Sto
attribute [local irreducible] logL logPs logD durN recs madeL zs32
theorem min400_as (n : Nat) : SV.as (.c (.int .i64 (if (400 : Int) < (n : Int) then 400 else (n : Int)))) (.c (.int .i64 (min 400 n : Nat))) := as_eq (by congr 2; split <;> omega)
theorem take400_as (l : List UInt8) : SV.as (.c (.ds ((min 400 l.length : Nat) : Int).toNat ((Cont.u8s l).take (((min 400 l.length : Nat) : Int).toNat * 1)))) (bytesV (l.take 400)) := by
  refine as_dsE (a := l.take (((min 400 l.length : Nat) : Int).toNat * 1)) ?_ ?_
  · rw [List.length_take]; omega
  · rw [Nat.mul_one, Int.toNat_natCast, ← List.take_take, List.take_length]
def lawRawS : QSpec := fun vs K => ∃ (l : List UInt8) (z : Int) (m : Nat), vs = [bytesV l, .c (.int .i64 z), .c (.int .u16 (m : Nat))] ∧ (l.length ≤ 9223372036854775807 ∧ -9223372036854775808 ≤ z ∧ z ≤ 9223372036854775807 ∧ m ≤ 65535) ∧ K (.c (.bool true))
set_option maxHeartbeats 4000000 in
theorem lawRaw_ok : FlatOK Tryd.prog gl 4 lawRawS := by
 refine flat_of (Γ := glw) (N := 139) Tryd.func4 rfl rfl fun vs K h => ?_
 obtain ⟨l, z, m, rfl, ⟨hl, hz1, hz2, hm⟩, h⟩ := h
 refine ⟨_, h, rfl, by simp, fun w I => ?_⟩
 obtain ⟨e, he⟩ : ∃ e : Disk, e = (l.take 400, z) := ⟨_, rfl⟩
 have heok : dok e := he ▸ ⟨by show (l.take 400).length ≤ _; rw [List.length_take]; omega, hz1, hz2⟩
 obtain ⟨t, ht⟩ : ∃ t, t = 65530 + m % 12 := ⟨_, rfl⟩
 have htl : t ≤ 65541 := by omega
 obtain ⟨p, hp⟩ : ∃ p : Piece, p = ⟨zs32, List.replicate t 0, zs32⟩ := ⟨_, rfl⟩
 have hw1 : Piece.wf p := hp ▸ ⟨zs32_len, zs32_len⟩
 have hpb : p.b.length ≤ 65541 := by rw [hp]; show (List.replicate t (0 : UInt8)).length ≤ _; rw [List.length_replicate]; omega
 obtain ⟨o, ho⟩ : ∃ o, o = putL e p := ⟨_, rfl⟩
 have hol1 : o.1.1.length ≤ 1000000 := by have := putL_len e p hw1; have := heok.1; rw [ho]; omega
 obtain ⟨q, hq⟩ : ∃ q, q = getL (corF zs32) e zs32 := ⟨_, rfl⟩
 have hqok : q.1.ok := hq ▸ getL_ok _ _ _
 have hqw : Piece.wf q.1 := Piece.ok.wf hqok
 have hqb := hqok.2.2
 obtain ⟨u, hu⟩ : ∃ u, u = loadL (corF zs32) e := ⟨_, rfl⟩
 have huok : ∀ s ∈ u.1.1, s.ok := hu ▸ loadL_ok _ _
 have huw : allWf u.1.1 := wf_of huok
 have hufew : u.1.1.length ≤ 1000000 := by have := loadL_few (corF zs32) e; have := heok.1; rw [hu]; omega
 have hsl : ∀ d0 : Disk, dok d0 → (syncL d0).1.length ≤ 9223372036854775807 := fun d0 h => by have := syncL_len d0; have := h.1; omega
 have hcl : (crashL e 9 3 1).1.length ≤ 9223372036854775807 := by have := crashL_len e 9 3 1; have := heok.1; omega
 have hrl : (repairL (corF zs32) e).1.length ≤ 9223372036854775807 := by have := repairL_len (corF zs32) e; have := heok.1; omega
 refine seq_k fun _ hK1 => ?_; refine region_k glw_ok fun _ hK2 => ?_
 refine sS1 ?_
 refine s_nil ?_; apply hK2; apply hK1; refine seq_k fun _ hK3 => ?_; refine region_k glw_ok fun _ hK4 => ?_
 refine sS fun _ hS => ?_; (repeat first | refine aI qTc0 ?_ | refine whole_yes qTc0 ?_ | refine whole_sub ?_); (first | apply hS | (intro cap0 hcap0; apply hS)); clear hS
 refine sS1 ?_
 refine s_nil ?_; apply hK4; apply hK3; refine seq_k fun _ hK5 => ?_
 refine leW [] id [(0, bytesV l), (1, .c (.int .i64 z)), (2, .c (.int .u16 (m : Nat))), (7, .c (.bool true))] [] 0 [] ?_ ?_ ?_ ?_ ?_
 ·exact uTc0
 ·exact uTc0
 ·exact uTc0
 ·exact uTc0
 refine region_k glw_ok fun _ hK6 => ?_
 iterate 2 refine sS1 ?_
 refine sS fun _ hS => ?_; (repeat refine aI qTc0 ?_); apply hS; clear hS
 refine s_stepA rfl (by decide) rfl fun _ hS => ?_
 repeat refine aI qTc0 ?_
 refine hS _ (.c (.int .i64 (min 400 l.length : Nat))) _ _ (min400_as _) ?_
 clear hS
 refine s_stepA rfl (by decide) rfl fun _ hS => ?_
 repeat refine aI qTc0 ?_
 first | refine hS _ (bytesV (l.take 400)) _ _ (take400_as l) ?_ | (refine ite_yes qTc0 ?_; (repeat refine aI qTc0 ?_); refine hS _ (bytesV (l.take 400)) _ _ (take400_as l) ?_)
 clear hS
 refine sS1 ?_
 refine s_stepA rfl (by decide) rfl fun _ hS => ?_
 repeat refine aI qTc0 ?_
 refine hS _ (diskV e) _ _ (as_eq (by rw [he]; rfl)) ?_
 clear hS
 refine sS fun _ hS => ?_; (repeat refine aI qTc0 ?_); apply hS; clear hS
 refine sS0 fun _ hS => ?_; (repeat refine aI qTc0 ?_); (first | apply hS | (refine splice_full qTc0 ?_; apply hS)); clear hS; refine s_nil ?_; apply hK6; apply hK5; refine seq_k fun _ hK7 => ?_
 refine leW [0] id [(2, .c (.int .u16 (m : Nat))), (7, .c (.bool true)), (8, .c (.dp (.cells [.ds e.1.length (.u8s e.1), .int .i64 e.2]) 0))] [] 0 [] ?_ ?_ ?_ ?_ ?_
 ·exact uTc0
 ·exact uTc0
 ·exact uTc0
 ·exact uTc0
 refine region_k glw_ok fun _ hK8 => ?_
 refine sS1 ?_
 refine sS fun _ hS => ?_; (repeat first | refine aI qTc0 ?_ | refine whole_yes qTc0 ?_ | refine whole_sub ?_); apply hS; clear hS
 refine sS fun _ hS => ?_; (repeat refine aI qTc0 ?_); apply hS; clear hS
 refine s_stepA rfl (by decide) rfl fun _ hS => ?_
 repeat refine aI qTc0 ?_
 refine hS _ (.c (.int .i64 (t : Nat))) _ _ (as_eq (congrArg (fun v => SV.c (.int .i64 v)) (by rw [ht]; omega))) ?_
 clear hS
 refine sS fun _ hS => ?_; (repeat refine aI qTc0 ?_); apply hS; clear hS
 refine sS fun _ hS => ?_; (repeat refine aI qTc0 ?_); apply hS; clear hS
 refine sS fun _ hS => ?_; (repeat refine aI qTc0 ?_); apply hS; clear hS
 refine sS0 fun _ hS => ?_; (repeat refine aI qTc0 ?_); (first | apply hS | (refine splice_full qTc0 ?_; apply hS)); clear hS; refine s_nil ?_; apply hK8; apply hK7; refine seq_k fun _ hK9 => ?_
 refine leW [0] id [(7, .c (.bool true)), (8, .c (.dp (.cells [.ds e.1.length (.u8s e.1), .int .i64 e.2]) 0)), (9, .c (.ptr 1 0))] [(1, .own 42 (pieceC p) 65)] 2 [1] ?_ ?_ ?_ ?_ ?_
 ·exact uTc0
 ·exact uTc0
 ·exact uTc0
 ·exact uTc0
 refine leW [1] id [(7, .c (.bool true)), (8, .c (.dp (.cells [.ds e.1.length (.u8s e.1), .int .i64 e.2]) 0)), (9, .c (.dp (pieceC p) 0))] [] 0 [] ?_ ?_ ?_ ?_ ?_
 ·exact uTc0
 ·exact uTc0
 ·exact uTc0
 ·exact uTc0
 refine region_k glw_ok fun _ hK10 => ?_
 refine sS fun _ hS => ?_; (repeat refine aI qTc0 ?_); (first | apply hS | (refine whole_yes qTc0 ?_; apply hS) | (refine whole_sub ?_; apply hS)); clear hS
 refine sS fun _ hS => ?_; (repeat refine aI qTc0 ?_); (first | apply hS | (refine whole_yes qTc0 ?_; apply hS) | (refine whole_sub ?_; apply hS)); clear hS
 refine sS fun _ hS => ?_; (repeat first | refine aI qTc0 ?_ | refine whole_yes qTc0 ?_ | refine whole_sub ?_); refine aI (piece_noclo _) ?_; refine viewL_flat (piece_flat _) ?_; refine ⟨e, p, rfl, ⟨heok, hw1, by omega⟩, ?_⟩; rw [← ho]; simp only [List.flatMap_cons, List.flatMap_nil, ids_piece, ids_disk, List.append_nil, Heap.delAll]; (repeat refine aI qTc0 ?_); (first | apply hS | (intro cap2 hcap2; apply hS)); clear hS
 refine sS1 ?_
 refine sS fun _ hS => ?_; (repeat refine aI qTc0 ?_); apply hS; clear hS
 refine sS fun _ hS => ?_; (repeat refine aI qTc0 ?_); apply hS; clear hS
 refine sS fun _ hS => ?_; (repeat refine aI qTc0 ?_); apply hS; clear hS
 refine sS0 fun _ hS => ?_; (repeat refine aI qTc0 ?_); (first | apply hS | (refine splice_full qTc0 ?_; apply hS)); clear hS
 refine sS1 ?_
 refine s_nil ?_; apply hK10; apply hK9; refine seq_k fun _ hK11 => ?_
 refine leW [0] id [(7, .c (.bool true)), (8, .c (.dp (.cells [.ds e.1.length (.u8s e.1), .int .i64 e.2]) 0)), (9, .c (.dp (pieceC p) 0)), (10, .c (.dp (.cells [.ds o.1.1.length (.u8s o.1.1), .int .i64 o.1.2]) 0)), (11, .c (.int .i64 (o.2 : Nat)))] [] 0 [] ?_ ?_ ?_ ?_ ?_
 ·exact uTc0
 ·exact uTc0
 ·exact uTc0
 ·exact uTc0
 refine region_k glw_ok fun _ hK12 => ?_
 refine sS fun _ hS => ?_; (repeat refine aI qTc0 ?_); (first | apply hS | (refine whole_yes qTc0 ?_; apply hS) | (refine whole_sub ?_; apply hS)); clear hS
 refine sS fun _ hS => ?_; (repeat refine aI qTc0 ?_); (first | apply hS | (refine whole_yes qTc0 ?_; apply hS) | (refine whole_sub ?_; apply hS)); clear hS
 refine sS fun _ hS => ?_; (repeat first | refine aI qTc0 ?_ | refine whole_yes qTc0 ?_ | refine whole_sub ?_); refine aI (piece_noclo _) ?_; refine viewL_flat (piece_flat _) ?_; refine ⟨e, p, rfl, ⟨heok, hw1, by omega⟩, ?_⟩; rw [← ho]; simp only [List.flatMap_cons, List.flatMap_nil, ids_piece, ids_disk, List.append_nil, Heap.delAll]; (repeat refine aI qTc0 ?_); (first | apply hS | (intro cap2 hcap2; apply hS)); clear hS
 refine sS1 ?_
 refine sS fun _ hS => ?_; (repeat refine aI qTc0 ?_); apply hS; clear hS
 refine sS fun _ hS => ?_; (repeat refine aI qTc0 ?_); apply hS; clear hS
 refine sS fun _ hS => ?_; (repeat refine aI qTc0 ?_); apply hS; clear hS
 refine sS0 fun _ hS => ?_; (repeat refine aI qTc0 ?_); (first | apply hS | (refine splice_full qTc0 ?_; apply hS)); clear hS
 refine sS1 ?_
 refine s_nil ?_; apply hK12; apply hK11; refine seq_k fun _ hK13 => ?_
 refine leW [0] id [(7, .c (.bool true)), (8, .c (.dp (.cells [.ds e.1.length (.u8s e.1), .int .i64 e.2]) 0)), (9, .c (.dp (pieceC p) 0)), (10, .c (.dp (.cells [.ds o.1.1.length (.u8s o.1.1), .int .i64 o.1.2]) 0)), (11, .c (.int .i64 (o.2 : Nat))), (12, .c (.dp (.cells [.ds o.1.1.length (.u8s o.1.1), .int .i64 o.1.2]) 0)), (13, .c (.int .i64 (o.2 : Nat)))] [] 0 [] ?_ ?_ ?_ ?_ ?_
 ·exact uTc0
 ·exact uTc0
 ·exact uTc0
 ·exact uTc0
 refine region_k glw_ok fun _ hK14 => ?_
 refine sS fun _ hS => ?_; (repeat refine aI qTc0 ?_); (first | apply hS | (refine whole_yes qTc0 ?_; apply hS) | (refine whole_sub ?_; apply hS)); clear hS
 refine s_stepA rfl (by decide) rfl fun _ hS => ?_
 repeat refine aI qTc0 ?_
 refine hS _ (.agg (.u8s zs32)) _ _ (zs32_as) ?_
 clear hS
 refine s_stepA rfl (by decide) rfl fun _ hS => ?_
 repeat refine aI qTc0 ?_
 refine hS _ (.agg (.u8s zs32)) _ _ (zs32_as) ?_
 clear hS
 refine sS fun _ hS => ?_; (repeat first | refine aI qTc0 ?_ | refine whole_yes qTc0 ?_ | refine whole_sub ?_); refine ⟨e, zs32, zs32, rfl, ⟨heok, zs32_len, zs32_len⟩, ?_⟩; rw [← hq]; simp only [List.flatMap_cons, List.flatMap_nil, ids_disk, ids_arr, List.append_nil, Heap.delAll]; (repeat refine aI qTc0 ?_); (first | apply hS | (intro cap3 hcap3; apply hS)); clear hS
 refine sS1 ?_
 refine sS fun _ hS => ?_; (repeat refine aI qTc0 ?_); apply hS; clear hS
 refine sS fun _ hS => ?_; (repeat refine aI qTc0 ?_); apply hS; clear hS
 refine sS fun _ hS => ?_; (repeat refine aI qTc0 ?_); apply hS; clear hS
 refine sS0 fun _ hS => ?_; (repeat refine aI qTc0 ?_); (first | apply hS | (refine splice_full qTc0 ?_; apply hS)); clear hS
 refine sS1 ?_
 refine s_nil ?_; apply hK14; apply hK13; refine seq_k fun _ hK15 => ?_
 refine leW [0] id [(7, .c (.bool true)), (8, .c (.dp (.cells [.ds e.1.length (.u8s e.1), .int .i64 e.2]) 0)), (9, .c (.dp (pieceC p) 0)), (10, .c (.dp (.cells [.ds o.1.1.length (.u8s o.1.1), .int .i64 o.1.2]) 0)), (11, .c (.int .i64 (o.2 : Nat))), (12, .c (.dp (.cells [.ds o.1.1.length (.u8s o.1.1), .int .i64 o.1.2]) 0)), (13, .c (.int .i64 (o.2 : Nat))), (14, .c (.dp (pieceC q.1) 0)), (15, .c (.int .i64 (q.2 : Nat)))] [] 0 [] ?_ ?_ ?_ ?_ ?_
 ·exact uTc0
 ·exact uTc0
 ·exact uTc0
 ·exact uTc0
 refine region_k glw_ok fun _ hK16 => ?_
 refine sS fun _ hS => ?_; (repeat refine aI qTc0 ?_); (first | apply hS | (refine whole_yes qTc0 ?_; apply hS) | (refine whole_sub ?_; apply hS)); clear hS
 refine s_stepA rfl (by decide) rfl fun _ hS => ?_
 repeat refine aI qTc0 ?_
 refine hS _ (.agg (.u8s zs32)) _ _ (zs32_as) ?_
 clear hS
 refine s_stepA rfl (by decide) rfl fun _ hS => ?_
 repeat refine aI qTc0 ?_
 refine hS _ (.agg (.u8s zs32)) _ _ (zs32_as) ?_
 clear hS
 refine sS fun _ hS => ?_; (repeat first | refine aI qTc0 ?_ | refine whole_yes qTc0 ?_ | refine whole_sub ?_); refine ⟨e, zs32, zs32, rfl, ⟨heok, zs32_len, zs32_len⟩, ?_⟩; rw [← hq]; simp only [List.flatMap_cons, List.flatMap_nil, ids_disk, ids_arr, List.append_nil, Heap.delAll]; (repeat refine aI qTc0 ?_); (first | apply hS | (intro cap3 hcap3; apply hS)); clear hS
 refine sS1 ?_
 refine sS fun _ hS => ?_; (repeat refine aI qTc0 ?_); apply hS; clear hS
 refine sS fun _ hS => ?_; (repeat refine aI qTc0 ?_); apply hS; clear hS
 refine sS fun _ hS => ?_; (repeat refine aI qTc0 ?_); apply hS; clear hS
 refine sS0 fun _ hS => ?_; (repeat refine aI qTc0 ?_); (first | apply hS | (refine splice_full qTc0 ?_; apply hS)); clear hS
 refine sS1 ?_
 refine s_nil ?_; apply hK16; apply hK15; refine seq_k fun _ hK17 => ?_
 refine leW [0] id [(7, .c (.bool true)), (8, .c (.dp (.cells [.ds e.1.length (.u8s e.1), .int .i64 e.2]) 0)), (9, .c (.dp (pieceC p) 0)), (10, .c (.dp (.cells [.ds o.1.1.length (.u8s o.1.1), .int .i64 o.1.2]) 0)), (11, .c (.int .i64 (o.2 : Nat))), (12, .c (.dp (.cells [.ds o.1.1.length (.u8s o.1.1), .int .i64 o.1.2]) 0)), (13, .c (.int .i64 (o.2 : Nat))), (14, .c (.dp (pieceC q.1) 0)), (15, .c (.int .i64 (q.2 : Nat))), (16, .c (.dp (pieceC q.1) 0)), (17, .c (.int .i64 (q.2 : Nat)))] [] 0 [] ?_ ?_ ?_ ?_ ?_
 ·exact uTc0
 ·exact uTc0
 ·exact uTc0
 ·exact uTc0
 refine region_k glw_ok fun _ hK18 => ?_
 refine sS fun _ hS => ?_; (repeat refine aI qTc0 ?_); (first | apply hS | (refine whole_yes qTc0 ?_; apply hS) | (refine whole_sub ?_; apply hS)); clear hS
 refine s_stepA rfl (by decide) rfl fun _ hS => ?_
 repeat refine aI qTc0 ?_
 refine hS _ (.agg (.u8s zs32)) _ _ (zs32_as) ?_
 clear hS
 refine sS fun _ hS => ?_; (repeat first | refine aI qTc0 ?_ | refine whole_yes qTc0 ?_ | refine whole_sub ?_); refine ⟨e, zs32, rfl, ⟨heok, zs32_len⟩, ?_⟩; rw [← hu]; (repeat refine aI qTc0 ?_); (first | apply hS | (intro cap2 hcap2; apply hS)); clear hS
 refine sS1 ?_
 refine sS fun _ hS => ?_; (repeat refine aI qTc0 ?_); apply hS; clear hS
 refine sS fun _ hS => ?_; (repeat refine aI qTc0 ?_); apply hS; clear hS
 refine sS fun _ hS => ?_; (repeat refine aI qTc0 ?_); apply hS; clear hS
 iterate 3 refine sS1 ?_
 refine s_nil ?_; apply hK18; apply hK17; refine seq_k fun _ hK19 => ?_; refine region_k glw_ok fun _ hK20 => ?_
 refine sS fun _ hS => ?_; (repeat refine aI qTc0 ?_); (first | apply hS | (refine whole_yes qTc0 ?_; apply hS) | (refine whole_sub ?_; apply hS)); clear hS
 refine s_stepA rfl (by decide) rfl fun _ hS => ?_
 repeat refine aI qTc0 ?_
 refine hS _ (.agg (.u8s zs32)) _ _ (zs32_as) ?_
 clear hS
 refine sS fun _ hS => ?_; (repeat first | refine aI qTc0 ?_ | refine whole_yes qTc0 ?_ | refine whole_sub ?_); refine ⟨e, zs32, rfl, ⟨heok, zs32_len⟩, ?_⟩; rw [← hu]; (repeat refine aI qTc0 ?_); (first | apply hS | (intro cap2 hcap2; apply hS)); clear hS
 refine sS1 ?_
 refine sS fun _ hS => ?_; (repeat refine aI qTc0 ?_); apply hS; clear hS
 refine sS fun _ hS => ?_; (repeat refine aI qTc0 ?_); apply hS; clear hS
 refine sS fun _ hS => ?_; (repeat refine aI qTc0 ?_); apply hS; clear hS
 iterate 3 refine sS1 ?_
 refine s_nil ?_; apply hK20; apply hK19; refine seq_k fun _ hK21 => ?_
 refine leW [] id [(7, .c (.bool true)), (8, .c (.dp (.cells [.ds e.1.length (.u8s e.1), .int .i64 e.2]) 0)), (9, .c (.dp (pieceC p) 0)), (10, .c (.dp (.cells [.ds o.1.1.length (.u8s o.1.1), .int .i64 o.1.2]) 0)), (11, .c (.int .i64 (o.2 : Nat))), (12, .c (.dp (.cells [.ds o.1.1.length (.u8s o.1.1), .int .i64 o.1.2]) 0)), (13, .c (.int .i64 (o.2 : Nat))), (14, .c (.dp (pieceC q.1) 0)), (15, .c (.int .i64 (q.2 : Nat))), (16, .c (.dp (pieceC q.1) 0)), (17, .c (.int .i64 (q.2 : Nat))), (18, psV u.1.1), (19, .c (.int .i64 (u.1.2 : Nat))), (20, .c (.int .i64 (u.2 : Nat))), (21, psV u.1.1), (22, .c (.int .i64 (u.1.2 : Nat))), (23, .c (.int .i64 (u.2 : Nat)))] [] 0 [] ?_ ?_ ?_ ?_ ?_
 ·exact uTc0
 ·exact uTc0
 ·exact uTc0
 ·exact uTc0
 refine sched_k glw_ok [(0, true), (1, true), (2, false), (3, true), (4, true), (5, true), (6, true), (7, true), (8, true), (9, true), (10, true), (11, false), (12, true), (13, true), (14, true), (15, true), (16, true), (17, true), (18, true), (19, true), (20, true), (21, false), (22, true), (23, true), (24, true), (25, true), (26, true), (27, true), (28, true), (29, true), (30, true), (31, true), (32, true), (33, true), (34, true), (36, true), (35, false), (37, false), (38, false), (39, true), (40, true), (41, true), (42, true), (44, true), (45, true), (43, false), (46, false), (47, false), (48, true), (49, true), (50, true), (51, true), (53, true), (54, true), (52, false), (55, false), (56, false), (57, true), (58, true), (59, true), (60, true), (61, true)] rfl (by kernel_rfl) (by kernel_rfl) fun _ hK22 => ?_
 refine dR fun _ hS => ?_; (repeat refine aI qTc0 ?_); (first | apply hS | (refine whole_yes qTc0 ?_; apply hS) | (refine whole_sub ?_; apply hS)); clear hS
 refine dR fun _ hS => ?_; (repeat refine aI qTc0 ?_); (first | apply hS | (refine whole_yes qTc0 ?_; apply hS) | (refine whole_sub ?_; apply hS)); clear hS
 refine dG fun _ hS => ?_; (repeat first | refine aI qTc0 ?_ | refine whole_yes qTc0 ?_ | refine whole_sub ?_); refine ⟨o.1, o.1, rfl, ⟨by omega, by omega⟩, ?_⟩; rw [true_same]; (repeat refine aI qTc0 ?_); (first | apply hS | (intro cap2 hcap2; apply hS)); clear hS
 refine dR fun _ hS => ?_
 refine d_split hS (fun hb3 => ?_) (fun hb3 => ?_)
 rotate_left 1
 ·exfalso; first | (simp at hb3; done) | exact absurd hb3 (by decide)
 clear hS
 refine dT fun _ hS => ?_; apply hS; clear hS
 refine dT fun _ hS => ?_; apply hS; clear hS
 refine dT fun _ hS => ?_; (repeat refine aI qTc0 ?_); apply hS; clear hS
 refine dD1 ?_
 refine dR fun _ hS => ?_
 refine d_split hS (fun hb8 => ?_) (fun hb8 => ?_)
 rotate_left 1
 ·exfalso; first | (simp at hb8; done) | exact absurd hb8 (by decide)
 clear hS
 refine dT fun _ hS => ?_; (repeat refine aI qTc0 ?_); (first | apply hS | (refine whole_yes qTc0 ?_; apply hS) | (refine whole_sub ?_; apply hS)); clear hS
 refine dT fun _ hS => ?_; (repeat refine aI qTc0 ?_); (first | apply hS | (refine whole_yes qTc0 ?_; apply hS) | (refine whole_sub ?_; apply hS)); clear hS
 refine d_growg (b := true) rfl rfl (by decide) rfl rfl (fun _ _ hS => ?_) (fun e => absurd e (by decide))
 repeat first | refine aI qTc0 ?_ | refine whole_yes qTc0 ?_ | refine whole_sub ?_
 refine aI (piece_noclo _) ?_
 refine viewL_flat (piece_flat _) ?_
 refine aI (piece_noclo _) ?_
 refine viewL_flat (piece_flat _) ?_
 refine ⟨q.1, q.1, rfl, ⟨hqw, hqw, by omega, by omega⟩, ?_⟩
 rw [true_same]
 repeat refine aI qTc0 ?_
 first | apply hS | (intro cap11 hcap11; apply hS)
 clear hS
 refine dD1 ?_
 refine dR fun _ hS => ?_
 refine d_split hS (fun hb13 => ?_) (fun hb13 => ?_)
 rotate_left 1
 ·exfalso; first | (simp at hb13; done) | exact absurd hb13 (by decide)
 clear hS
 refine dT fun _ hS => ?_; apply hS; clear hS
 refine dT fun _ hS => ?_; apply hS; clear hS
 refine dT fun _ hS => ?_; (repeat refine aI qTc0 ?_); apply hS; clear hS
 refine dD1 ?_
 refine dR fun _ hS => ?_
 refine d_split hS (fun hb18 => ?_) (fun hb18 => ?_)
 rotate_left 1
 ·exfalso; first | (simp at hb18; done) | exact absurd hb18 (by decide)
 clear hS
 refine dT fun _ hS => ?_; apply hS; clear hS
 refine dT fun _ hS => ?_; apply hS; clear hS
 refine d_growg (b := true) rfl rfl (by decide) rfl rfl (fun _ _ hS => ?_) (fun e => absurd e (by decide))
 repeat first | refine aI qTc0 ?_ | refine whole_yes qTc0 ?_ | refine whole_sub ?_
 refine ⟨u.1.1, u.1.1, rfl, ⟨huw, huw, hufew, hufew, b_of huok, b_of huok⟩, ?_⟩
 rw [true_same]
 repeat refine aI qTc0 ?_
 first | apply hS | (intro cap21 hcap21; apply hS)
 clear hS
 refine dD1 ?_
 refine dR fun _ hS => ?_
 refine d_split hS (fun hb23 => ?_) (fun hb23 => ?_)
 rotate_left 1
 ·exfalso; first | (simp at hb23; done) | exact absurd hb23 (by decide)
 clear hS
 refine dT fun _ hS => ?_; apply hS; clear hS
 refine dT fun _ hS => ?_; apply hS; clear hS
 refine dT fun _ hS => ?_; (repeat refine aI qTc0 ?_); apply hS; clear hS
 refine dD1 ?_
 refine dR fun _ hS => ?_
 refine d_split hS (fun hb28 => ?_) (fun hb28 => ?_)
 rotate_left 1
 ·exfalso; first | (simp at hb28; done) | exact absurd hb28 (by decide)
 clear hS
 refine dT fun _ hS => ?_; apply hS; clear hS
 refine dT fun _ hS => ?_; apply hS; clear hS
 refine dT fun _ hS => ?_; (repeat refine aI qTc0 ?_); apply hS; clear hS
 refine dD1 ?_
 refine dR fun _ hS => ?_
 refine d_split hS (fun hb33 => ?_) (fun hb33 => ?_)
 rotate_left 1
 ·exfalso; first | (simp at hb33; done) | exact absurd hb33 (by decide)
 clear hS
 refine dT fun _ hS => ?_; (repeat refine aI qTc0 ?_); (first | apply hS | (refine whole_yes qTc0 ?_; apply hS) | (refine whole_sub ?_; apply hS)); clear hS
 refine dT fun _ hS => ?_; (repeat refine aI qTc0 ?_); (first | apply hS | (refine whole_yes qTc0 ?_; apply hS) | (refine whole_sub ?_; apply hS)); clear hS
 refine d_growg (b := true) rfl rfl (by decide) rfl rfl (fun _ _ hS => ?_) (fun e => absurd e (by decide))
 repeat first | refine aI qTc0 ?_ | refine whole_yes qTc0 ?_ | refine whole_sub ?_
 refine ⟨e, rfl, heok, ?_⟩
 repeat refine aI qTc0 ?_
 first | apply hS | (intro cap35 hcap35; apply hS)
 clear hS
 refine d_growg (b := true) rfl rfl (by decide) rfl rfl (fun _ _ hS => ?_) (fun e => absurd e (by decide))
 repeat first | refine aI qTc0 ?_ | refine whole_yes qTc0 ?_ | refine whole_sub ?_
 refine ⟨e, rfl, heok, ?_⟩
 repeat refine aI qTc0 ?_
 first | apply hS | (intro cap37 hcap37; apply hS)
 clear hS
 refine d_growg (b := true) rfl rfl (by decide) rfl rfl (fun _ _ hS => ?_) (fun e => absurd e (by decide))
 repeat first | refine aI qTc0 ?_ | refine whole_yes qTc0 ?_ | refine whole_sub ?_
 refine ⟨(syncL e), (syncL e), rfl, ⟨hsl e heok, hsl e heok⟩, ?_⟩
 rw [true_same]
 repeat refine aI qTc0 ?_
 first | apply hS | (intro cap38 hcap38; apply hS)
 clear hS
 refine dD1 ?_
 refine dR fun _ hS => ?_
 refine d_split hS (fun hb40 => ?_) (fun hb40 => ?_)
 rotate_left 1
 ·exfalso; first | (simp at hb40; done) | exact absurd hb40 (by decide)
 clear hS
 refine dT fun _ hS => ?_; (repeat refine aI qTc0 ?_); (first | apply hS | (refine whole_yes qTc0 ?_; apply hS) | (refine whole_sub ?_; apply hS)); clear hS
 refine d_readgA (b := true) rfl rfl (by decide) rfl rfl (fun _ _ hS => ?_) (fun e => absurd e (by decide))
 repeat refine aI qTc0 ?_
 refine hS _ (crV 9 3 1) (as_eq rfl) ?_
 clear hS
 refine dT fun _ hS => ?_; (repeat refine aI qTc0 ?_); (first | apply hS | (refine whole_yes qTc0 ?_; apply hS) | (refine whole_sub ?_; apply hS)); clear hS
 refine d_readgA (b := true) rfl rfl (by decide) rfl rfl (fun _ _ hS => ?_) (fun e => absurd e (by decide))
 repeat refine aI qTc0 ?_
 refine hS _ (crV 9 3 1) (as_eq rfl) ?_
 clear hS
 refine d_growg (b := true) rfl rfl (by decide) rfl rfl (fun _ _ hS => ?_) (fun e => absurd e (by decide))
 repeat first | refine aI qTc0 ?_ | refine whole_yes qTc0 ?_ | refine whole_sub ?_
 refine ⟨e, 9, 3, 1, rfl, ⟨heok, by decide, by decide, by decide, by decide⟩, ?_⟩
 repeat refine aI qTc0 ?_
 first | apply hS | (intro cap43 hcap43; apply hS)
 clear hS
 refine d_growg (b := true) rfl rfl (by decide) rfl rfl (fun _ _ hS => ?_) (fun e => absurd e (by decide))
 repeat first | refine aI qTc0 ?_ | refine whole_yes qTc0 ?_ | refine whole_sub ?_
 refine ⟨e, 9, 3, 1, rfl, ⟨heok, by decide, by decide, by decide, by decide⟩, ?_⟩
 repeat refine aI qTc0 ?_
 first | apply hS | (intro cap46 hcap46; apply hS)
 clear hS
 refine d_growg (b := true) rfl rfl (by decide) rfl rfl (fun _ _ hS => ?_) (fun e => absurd e (by decide))
 repeat first | refine aI qTc0 ?_ | refine whole_yes qTc0 ?_ | refine whole_sub ?_
 refine ⟨(crashL e 9 3 1), (crashL e 9 3 1), rfl, ⟨hcl, hcl⟩, ?_⟩
 rw [true_same]
 repeat refine aI qTc0 ?_
 first | apply hS | (intro cap47 hcap47; apply hS)
 clear hS
 refine dD1 ?_
 refine dR fun _ hS => ?_
 refine d_split hS (fun hb49 => ?_) (fun hb49 => ?_)
 rotate_left 1
 ·exfalso; first | (simp at hb49; done) | exact absurd hb49 (by decide)
 clear hS
 refine dT fun _ hS => ?_; (repeat refine aI qTc0 ?_); (first | apply hS | (refine whole_yes qTc0 ?_; apply hS) | (refine whole_sub ?_; apply hS)); clear hS
 refine d_readgA (b := true) rfl rfl (by decide) rfl rfl (fun _ _ hS => ?_) (fun e => absurd e (by decide))
 repeat refine aI qTc0 ?_
 refine hS _ (.agg (.u8s zs32)) (zs32_as) ?_
 clear hS
 refine dT fun _ hS => ?_; (repeat refine aI qTc0 ?_); (first | apply hS | (refine whole_yes qTc0 ?_; apply hS) | (refine whole_sub ?_; apply hS)); clear hS
 refine d_readgA (b := true) rfl rfl (by decide) rfl rfl (fun _ _ hS => ?_) (fun e => absurd e (by decide))
 repeat refine aI qTc0 ?_
 refine hS _ (.agg (.u8s zs32)) (zs32_as) ?_
 clear hS
 refine d_growg (b := true) rfl rfl (by decide) rfl rfl (fun _ _ hS => ?_) (fun e => absurd e (by decide))
 repeat first | refine aI qTc0 ?_ | refine whole_yes qTc0 ?_ | refine whole_sub ?_
 refine ⟨e, zs32, rfl, ⟨heok, zs32_len⟩, ?_⟩
 repeat refine aI qTc0 ?_
 first | apply hS | (intro cap52 hcap52; apply hS)
 clear hS
 refine d_growg (b := true) rfl rfl (by decide) rfl rfl (fun _ _ hS => ?_) (fun e => absurd e (by decide))
 repeat first | refine aI qTc0 ?_ | refine whole_yes qTc0 ?_ | refine whole_sub ?_
 refine ⟨e, zs32, rfl, ⟨heok, zs32_len⟩, ?_⟩
 repeat refine aI qTc0 ?_
 first | apply hS | (intro cap55 hcap55; apply hS)
 clear hS
 refine d_growg (b := true) rfl rfl (by decide) rfl rfl (fun _ _ hS => ?_) (fun e => absurd e (by decide))
 repeat first | refine aI qTc0 ?_ | refine whole_yes qTc0 ?_ | refine whole_sub ?_
 refine ⟨(repairL (corF zs32) e), (repairL (corF zs32) e), rfl, ⟨hrl, hrl⟩, ?_⟩
 rw [true_same]
 repeat refine aI qTc0 ?_
 first | apply hS | (intro cap56 hcap56; apply hS)
 clear hS
 refine dD1 ?_
 refine dR fun _ hS => ?_
 refine d_split hS (fun hb58 => ?_) (fun hb58 => ?_)
 rotate_left 1
 ·exfalso; first | (simp at hb58; done) | exact absurd hb58 (by decide)
 clear hS
 refine dT fun _ hS => ?_; apply hS; clear hS
 iterate 2 refine dD1 ?_
 refine d_nil ?_; apply hK22; apply hK21
 refine WP_ret (Done_flat glw_ok (fun _ _ h => h) (by first | rfl | assumption) [.tmp 6] rfl ?_)
 repeat refine aI (by first | omega | exact trivial | rfl | (simp <;> omega)) ?_
 try refine ite_yes (by first | omega | exact trivial | rfl | (simp <;> omega)) ?_
 show _ = _
 rfl


end Go.Proofs.YtnhmglhbhnhnhaaDoor
