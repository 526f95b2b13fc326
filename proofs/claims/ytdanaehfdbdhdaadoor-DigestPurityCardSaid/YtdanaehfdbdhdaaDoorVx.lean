/- The blocks of a list: the iterator. -/
import Derived.Test.YtdanaehfdbdhdaaDoorVk
import Derived.Test.YtdanaehfdbdhdaaDoorAb19
namespace Go.Proofs.YtdanaehfdbdhdaaDoor
set_option linter.unusedVariables false
open Go.Ab Go.RowKit

/-- The parts of a list, one behind another, up to the k-th. -/
def cat (ps : List (List UInt8)) (k : Nat) : List UInt8 := (ps.take k).flatten
theorem cat_full (ps : List (List UInt8)) : cat ps ps.length = ps.flatten := by rw [cat, List.take_length]
theorem cat_step (ps : List (List UInt8)) (k : Nat) (h : k < ps.length) : cat ps k ++ ps.getD k [] = cat ps (k + 1) := by
  rw [cat, cat, List.take_add_one, List.flatten_append, List.getElem?_eq_getElem h, Option.toList_some, List.getD_eq_getElem?_getD, List.getElem?_eq_getElem h, Option.getD_some]
  simp
theorem cat_le (ps : List (List UInt8)) (k : Nat) : (cat ps k).length ≤ ps.flatten.length := by
  have : ps.flatten = cat ps k ++ (ps.drop k).flatten := by rw [cat, ← List.flatten_append, List.take_append_drop]
  rw [this, List.length_append]; omega

def boxOf (ps : List (List UInt8)) : Cell := .dp (.cells [.ds ps.length (.cells (lists ps))]) 0
theorem box_low (ps : List (List UInt8)) : SV.low 0 (.c (.clo 36 [boxOf ps])) := fun x hx => by
  rw [List.mem_singleton.1 hx]
  trivial
def blocksS : QSpec := fun vs K => ∃ ps, vs = [.c (.ds ps.length (.cells (lists ps)))] ∧ K (.c (.clo 36 [boxOf ps]))
theorem blocks_ok : DataOK Tryd.prog gl 31 blocksS := by
  refine data_of (Γ := g0) (N := 4) Tryd.func31 rfl rfl fun vs K h => ?_
  obtain ⟨ps, rfl, h⟩ := h
  refine ⟨_, h, box_low ps, by simp, fun w I => ?_⟩
  refine seq_k fun _ hK1 => ?_
  refine region_k g0_ok fun _ hK2 => ?_
  refine s_step rfl (by decide) rfl fun _ hS => ?_
  repeat refine And.intro (by first | omega | exact trivial | rfl | exact inR_i64.mpr ⟨by omega, by omega⟩ | (simp <;> omega) | (refine And.intro ?_ ?_ <;> exact trivial) | exact ⟨trivial, trivial, trivial⟩) ?_
  refine hS _ _ _ ?_
  clear hS
  refine s_step rfl (by decide) rfl fun _ hS => ?_
  refine hS _ _ _ ?_
  clear hS
  refine s_nil ?_
  refine hK2 _ _ _ ?_
  refine hK1 _ _ _ ?_
  refine seq_k fun _ hK3 => ?_
  refine region_k g0_ok fun _ hK4 => ?_
  refine s_step rfl (by decide) rfl fun _ hS => ?_
  repeat refine And.intro (by first | omega | exact trivial | rfl | exact inR_i64.mpr ⟨by omega, by omega⟩ | (simp <;> omega) | (refine And.intro ?_ ?_ <;> exact trivial) | exact ⟨trivial, trivial, trivial⟩) ?_
  refine hS _ _ _ ?_
  clear hS
  refine s_step rfl (by decide) rfl fun _ hS => ?_
  refine hS _ _ _ ?_
  clear hS
  refine s_nil ?_
  refine hK4 _ _ _ ?_
  refine hK3 _ _ _ ?_
  refine WP_ret (Done_data g0_ok (fun _ _ h => h) (box_low ps) [0] [.tmp 2] rfl ?_)
  repeat' (first | exact trivial | refine And.intro ?_ ?_ | rfl | omega | decide | (show (_ : Nat) < _; decide))
  all_goals exact Nat.one_pos

/-- The blocks that are yielded. -/
def chunk (p : List UInt8) (k : Nat) : List UInt8 := (p.drop (64 * k)).take 64
def chunks (p : List UInt8) : List SV := (List.range (p.length / 64)).map fun k => .c (.ds 64 (.u8s (chunk p k)))
theorem chunks_length (p : List UInt8) : (chunks p).length = p.length / 64 := by simp [chunks]
theorem chunks_get {p : List UInt8} {k : Nat} (h : k < p.length / 64) : (chunks p)[k]? = some (.c (.ds 64 (.u8s (chunk p k)))) := by
  simp [chunks, h]

theorem seq_ok (ps : List (List UInt8)) (hn : ps.length ≤ 3000) (hb : ps.flatten.length ≤ 1048576) : SeqOK Tryd.prog gl 36 [.c (boxOf ps)] (chunks (Sha.pad ps.flatten)) := by
  intro I W cs l hG hlt hargs J hab hround hJ0
  rw [show (#[.func (.yield l) #[] #[]] ++ cs.toArray : Array Value) = (.func (.yield l) #[] #[] :: cs).toArray by simp]
  refine calls_of_WP (Γ := g0) (N := 55) (C := pureC W I) (β := noVal) (n := 0) (H := []) (vs := [.c (.raw (.func (.yield l) #[] #[])), .c (boxOf ps)]) (xs := .func (.yield l) #[] #[] :: cs) Tryd.func36 rfl rfl (by simp) (HeapOK.init hlt) hG ⟨Nat.le_refl _, fun i hi => absurd hi (Nat.not_lt_zero i)⟩ rfl ⟨by simpa using hargs.1, fun j v hv => ?_⟩ ?_
  · cases j with
    | zero => cases hv; exact ⟨_, rfl, (SV.rel_flat (x := .c (.raw _)) rfl).2 rfl, SV.flat_low rfl⟩
    | succ j => exact hargs.2 j v hv
  obtain ⟨l0, hl0⟩ : ∃ l0, l0 = ps.flatten := ⟨_, rfl⟩
  rw [← hl0] at hb hround
  rw [← hl0]
  have hB : (8 : UInt64) * l0.length.toUInt64 = 8 * l0.length.toUInt64 := rfl
  have hz := zeros_lt l0.length
  have hpm := pad_mod l0
  have hpl := pad_length l0
  have hcf : cat ps ps.length = l0 := hl0 ▸ cat_full ps
  have hcl : ∀ k, (cat ps k).length ≤ l0.length := fun k => hl0 ▸ cat_le ps k
  refine seq_k fun _ hK1 => ?_
  refine region_k g0_ok fun _ hK2 => ?_
  refine s_step rfl (by decide) rfl fun _ hS => ?_
  refine hS _ _ _ ?_
  clear hS
  refine s_nil ?_
  refine hK2 _ _ _ ?_
  refine hK1 _ _ _ ?_
  refine seq_k fun _ hK3 => ?_
  refine region_k g0_ok fun _ hK4 => ?_
  refine s_step rfl (by decide) rfl fun _ hS => ?_
  refine hS _ _ _ ?_
  clear hS
  refine s_nil ?_
  refine hK4 _ _ _ ?_
  refine hK3 _ _ _ ?_
  refine seq_k fun _ hK5 => ?_
  refine seq_k fun _ hK6 => ?_
  refine region_k g0_ok fun _ hK7 => ?_
  refine s_step rfl (by decide) rfl fun _ hS => ?_
  repeat refine And.intro (by first | omega | exact trivial | rfl | exact inR_i64.mpr ⟨by omega, by omega⟩ | (simp <;> omega) | (refine And.intro ?_ ?_ <;> exact trivial) | exact ⟨trivial, trivial, trivial⟩) ?_
  first | refine hS _ _ _ ?_ | (refine ite_yes (by first | omega | exact trivial | rfl | exact inR_i64.mpr ⟨by omega, by omega⟩ | (simp [padZ_length] <;> omega) | (refine And.intro ?_ ?_ <;> exact trivial) | exact ⟨trivial, trivial, trivial⟩) ?_; refine hS _ _ _ ?_)
  clear hS
  refine s_step rfl (by decide) rfl fun _ hS => ?_
  repeat refine And.intro (by first | omega | exact trivial | rfl | exact inR_i64.mpr ⟨by omega, by omega⟩ | (simp [padZ_length] <;> omega) | (refine And.intro ?_ ?_ <;> exact trivial) | exact ⟨trivial, trivial, trivial⟩) ?_
  refine hS _ _ _ ?_
  clear hS
  refine s_step rfl (by decide) rfl fun _ hS => ?_
  refine hS _ _ _ ?_
  clear hS
  refine s_nil ?_
  refine hK7 _ _ _ ?_
  refine hK6 _ _ _ ?_
  refine WP_block ?_
  refine WP_nil 3 5 (.u8s []) rfl rfl trivial ?_
  refine WP_loop (α := Nat × Nat) (fun k => [(0, .c (.raw (.func (.yield l) #[] #[]))), (3, .c (.slice 0 0 (cat ps k.1).length k.2)), (4, .c (.u64 (cat ps k.1).length.toUInt64)), (8, .c (.ds ps.length (.cells (lists ps)))), (9, .c (.int .i64 ps.length)), (10, .c (.int .i64 k.1))]) (fun k => [(0, .own 5 (.u8s (cat ps k.1)) k.2)]) 1 (fun k => k.1 ≤ ps.length) (fun k => ps.length - k.1) ?_ ?_
  · refine Done_some [] id (0, 0) (Nat.zero_le _) ⟨?_, ?_, (by decide : List.Nodup ([0] : List Nat)), ?_, ?_, ⟨Nat.zero_le _, fun i hi => absurd hi (Nat.not_lt_zero i)⟩⟩
    · repeat' (first | exact trivial | refine And.intro ?_ ?_ | rfl | omega | decide | (show (_ : Nat) < _; decide))
      all_goals first | (show (_ : List UInt8) = _; simp [cat]; done) | (show (_ : UInt64) = _; simp [cat]; done) | (simp [cat]; done) | (simp [cat] <;> omega) | skip
    · repeat' (first | exact trivial | refine And.intro ?_ ?_ | rfl | omega | decide | (show (_ : Nat) < _; decide))
      all_goals first | (show (_ : List UInt8) = _; simp [cat]; done) | (show (_ : UInt64) = _; simp [cat]; done) | (simp [cat]; done) | (simp [cat] <;> omega) | skip
    · repeat' (first | exact trivial | refine And.intro ?_ ?_ | rfl | omega | decide | (show (_ : Nat) < _; decide))
    · repeat' (first | exact trivial | refine And.intro ?_ ?_ | rfl | omega | decide | (show (_ : Nat) < _; decide))
  · intro k hk
    have hlen := hcl k.1
    refine seq_k fun _ hK8 => ?_
    refine region_k g0_ok fun _ hK9 => ?_
    refine s_step rfl (by decide) rfl fun _ hS => ?_
    repeat refine And.intro (by first | omega | exact trivial | rfl | exact inR_i64.mpr ⟨by omega, by omega⟩ | (simp [padZ_length] <;> omega) | (refine And.intro ?_ ?_ <;> exact trivial) | exact ⟨trivial, trivial, trivial⟩) ?_
    refine hS _ _ _ ?_
    clear hS
    refine s_nil ?_
    refine hK9 _ _ _ ?_
    refine hK8 _ _ _ ?_
    refine seq_k fun _ hK10 => ?_
    refine WP_cond (b := _) rfl (fun h_t11 => ?_) (fun h_t11 => ?_)
    · try simp only [decide_eq_true_eq] at h_t11
      refine WP_skip ?_
      refine hK10 _ _ _ ?_
      refine seq_k fun _ hK11 => ?_
      refine WP_block ?_
      refine seq_k fun _ hK12 => ?_
      have hkl : k.1 < ps.length := by omega
      have e1 := cat_step ps k.1 hkl
      have hlen2 := hcl (k.1 + 1)
      rw [← e1, List.length_append] at hlen2
      have e2 : (cat ps k.1).length.toUInt64 + UInt64.ofInt ((ps.getD k.1 []).length : Int) = ((cat ps k.1).length + (ps.getD k.1 []).length).toUInt64 := by rw [ofIntNat]; exact (UInt64.ofNat_add _ _).symm
      refine region_k g0_ok fun _ hK13 => ?_
      refine s_step rfl (by decide) rfl fun _ hS => ?_
      repeat refine And.intro (by first | omega | exact trivial | rfl | exact inR_i64.mpr ⟨by omega, by omega⟩ | (simp <;> omega) | (refine And.intro ?_ ?_ <;> exact trivial) | exact ⟨trivial, trivial, trivial⟩) ?_
      refine hS _ _ _ ?_
      clear hS
      refine s_step rfl (by decide) rfl fun _ hS => ?_
      repeat refine And.intro (by first | omega | exact trivial | rfl | exact inR_i64.mpr ⟨by omega, by omega⟩ | (simp <;> omega) | (refine And.intro ?_ ?_ <;> exact trivial) | exact ⟨trivial, trivial, trivial⟩) ?_
      first | refine hS _ _ _ ?_ | (refine ite_yes (by first | omega | exact trivial | rfl | exact inR_i64.mpr ⟨by omega, by omega⟩ | (simp [padZ_length] <;> omega) | (refine And.intro ?_ ?_ <;> exact trivial) | exact ⟨trivial, trivial, trivial⟩) ?_; refine hS _ _ _ ?_)
      clear hS
      refine s_step rfl (by decide) rfl fun _ hS => ?_
      rw [get_lists]
      rotate_left 1
      · first | omega | (simp <;> omega)
      refine hS _ _ _ ?_
      clear hS
      refine s_nil ?_
      refine hK13 _ _ _ ?_
      refine hK12 _ _ _ ?_
      refine seq_k fun _ hK14 => ?_
      refine region_k g0_ok fun _ hK15 => ?_
      refine s_step rfl (by decide) rfl fun _ hS => ?_
      refine hS _ _ _ ?_
      clear hS
      refine s_step rfl (by decide) rfl fun _ hS => ?_
      refine hS _ _ _ ?_
      clear hS
      refine s_step rfl (by decide) rfl fun _ hS => ?_
      repeat first | refine And.intro (by first | omega | exact trivial | rfl | exact inR_i64.mpr ⟨by omega, by omega⟩ | (simp <;> omega) | (simp only [Nat.mul_one, Int.toNat_natCast]; exact ⟨by omega, by omega, trivial⟩) | (refine And.intro ?_ ?_ <;> exact trivial) | exact ⟨trivial, trivial, trivial⟩) ?_ | refine whole_yes (by first | omega | exact trivial | rfl | exact inR_i64.mpr ⟨by omega, by omega⟩ | (simp [padZ_length] <;> omega) | (simp only [Nat.mul_one, Int.toNat_natCast]; exact ⟨by omega, by omega, trivial⟩) | (refine And.intro ?_ ?_ <;> exact trivial) | exact ⟨trivial, trivial, trivial⟩) ?_ | refine whole_sub ?_
      intro cap2 hcap2; refine hS _ _ _ ?_
      clear hS
      refine s_step rfl (by decide) rfl fun _ hS => ?_
      refine hS _ _ _ ?_
      clear hS
      refine s_nil ?_
      refine hK15 _ _ _ ?_
      refine hK14 _ _ _ ?_
      refine region_k g0_ok fun _ hK16 => ?_
      refine s_step rfl (by decide) rfl fun _ hS => ?_
      refine hS _ _ _ ?_
      clear hS
      refine s_step rfl (by decide) rfl fun _ hS => ?_
      refine hS _ _ _ ?_
      clear hS
      refine s_step rfl (by decide) rfl fun _ hS => ?_
      repeat refine And.intro (by first | omega | exact trivial | rfl | exact inR_i64.mpr ⟨by omega, by omega⟩ | (simp [padZ_length] <;> omega) | (refine And.intro ?_ ?_ <;> exact trivial) | exact ⟨trivial, trivial, trivial⟩) ?_
      refine hS _ _ _ ?_
      clear hS
      refine s_step rfl (by decide) rfl fun _ hS => ?_
      repeat first | refine And.intro (by first | omega | exact trivial | rfl | exact inR_i64.mpr ⟨by omega, by omega⟩ | (simp [padZ_length] <;> omega) | (refine And.intro ?_ ?_ <;> exact trivial) | exact ⟨trivial, trivial, trivial⟩) ?_ | refine whole_yes (by first | omega | exact trivial | rfl | exact inR_i64.mpr ⟨by omega, by omega⟩ | (simp [padZ_length] <;> omega) | (refine And.intro ?_ ?_ <;> exact trivial) | exact ⟨trivial, trivial, trivial⟩) ?_ | refine whole_sub ?_
      refine hS _ _ _ ?_
      clear hS
      refine s_step rfl (by decide) rfl fun _ hS => ?_
      repeat refine And.intro (by first | omega | exact trivial | rfl | exact inR_i64.mpr ⟨by omega, by omega⟩ | (simp [padZ_length] <;> omega) | (refine And.intro ?_ ?_ <;> exact trivial) | exact ⟨trivial, trivial, trivial⟩) ?_
      refine hS _ _ _ ?_
      clear hS
      refine s_step rfl (by decide) rfl fun _ hS => ?_
      refine hS _ _ _ ?_
      clear hS
      refine s_nil ?_
      refine hK16 _ _ _ ?_
      refine done_block ?_
      refine hK11 _ _ _ ?_
      refine region_k g0_ok fun _ hK17 => ?_
      refine s_step rfl (by decide) rfl fun _ hS => ?_
      repeat refine And.intro (by first | omega | exact trivial | rfl | exact inR_i64.mpr ⟨by omega, by omega⟩ | (simp [padZ_length] <;> omega) | (refine And.intro ?_ ?_ <;> exact trivial) | exact ⟨trivial, trivial, trivial⟩) ?_
      refine hS _ _ _ ?_
      clear hS
      refine s_step rfl (by decide) rfl fun _ hS => ?_
      refine hS _ _ _ ?_
      clear hS
      refine s_nil ?_
      refine hK17 _ _ _ ?_
      refine Done_some [] (fun _ => 1) (k.1 + 1, cap2) ⟨by omega, by omega⟩ ⟨?_, ?_, (by decide : List.Nodup ([1] : List Nat)), ?_, ?_, ⟨Nat.zero_le _, fun i hi => absurd hi (Nat.not_lt_zero i)⟩⟩
      · repeat' (first | exact trivial | refine And.intro ?_ ?_ | rfl | omega | decide | (show (_ : Nat) < _; decide))
        all_goals first | (show (_ : List UInt8) = _; rw [← e1]; simp only [Nat.mul_one, Int.toNat_natCast]; done) | (show (_ : UInt64) = _; rw [← e1]; simp only [List.length_append, Nat.mul_one, Int.toNat_natCast]; exact e2) | (rw [← e1]; simp <;> omega) | (simp <;> omega) | skip
      · repeat' (first | exact trivial | refine And.intro ?_ ?_ | rfl | omega | decide | (show (_ : Nat) < _; decide))
        all_goals first | (show (_ : List UInt8) = _; rw [← e1]; simp only [Nat.mul_one, Int.toNat_natCast]; done) | (show (_ : UInt64) = _; rw [← e1]; simp only [List.length_append, Nat.mul_one, Int.toNat_natCast]; exact e2) | (rw [← e1]; simp <;> omega) | (simp <;> omega) | skip
      · repeat' (first | exact trivial | refine And.intro ?_ ?_ | rfl | omega | decide | (show (_ : Nat) < _; decide))
      · repeat' (first | exact trivial | refine And.intro ?_ ?_ | rfl | omega | decide | (show (_ : Nat) < _; decide))
    · try simp only [decide_eq_false_iff_not, Int.not_lt] at h_t11
      refine WP_exit ?_
      refine done_thenx ?_
      refine done_thenx ?_
      refine Done_hit ?_
      refine hK5 _ _ _ ?_
      refine seq_k fun _ hK18 => ?_
      refine region_k g0_ok fun _ hK19 => ?_
      refine s_step rfl (by decide) rfl fun _ hS => ?_
      refine hS _ _ _ ?_
      clear hS
      refine s_step rfl (by decide) rfl fun _ hS => ?_
      repeat refine And.intro (by first | omega | exact trivial | rfl | exact inR_i64.mpr ⟨by omega, by omega⟩ | (simp [padZ_length] <;> omega) | (refine And.intro ?_ ?_ <;> exact trivial) | exact ⟨trivial, trivial, trivial⟩) ?_
      refine hS _ _ _ ?_
      clear hS
      refine s_step rfl (by decide) rfl fun _ hS => ?_
      repeat first | refine And.intro (by first | omega | exact trivial | rfl | exact inR_i64.mpr ⟨by omega, by omega⟩ | (simp <;> omega) | (refine And.intro ?_ ?_ <;> exact trivial) | exact ⟨trivial, trivial, trivial⟩) ?_ | refine whole_yes (by first | omega | exact trivial | rfl | exact inR_i64.mpr ⟨by omega, by omega⟩ | (simp [padZ_length] <;> omega) | (refine And.intro ?_ ?_ <;> exact trivial) | exact ⟨trivial, trivial, trivial⟩) ?_ | refine whole_sub ?_
      intro cap2 hcap2; refine hS _ _ _ ?_
      clear hS
      refine s_step rfl (by decide) rfl fun _ hS => ?_
      refine hS _ _ _ ?_
      clear hS
      refine s_nil ?_
      refine hK19 _ _ _ ?_
      refine hK18 _ _ _ ?_
      refine seq_k fun _ hK20 => ?_
      refine WP_block ?_
      obtain ⟨k, cap0⟩ := k
      obtain rfl : k = ps.length := by simp at hk ⊢; omega
      refine WP_loop (α := Nat × Nat) (fun k => [(0, .c (.raw (.func (.yield l) #[] #[]))), (3, .c (.slice 0 0 (padZ l0 k.1).length k.2)), (4, .c (.u64 l0.length.toUInt64))]) (fun k => [(0, .own 5 (.u8s (padZ l0 k.1)) k.2)]) 1 (fun k => k.1 ≤ Sha.zeros l0.length) (fun k => Sha.zeros l0.length - k.1) ?_ ?_
      · refine Done_some [] (fun _ => 2) (0, cap2) (Nat.zero_le _) ⟨?_, ?_, (by decide : List.Nodup ([2] : List Nat)), ?_, ?_, ⟨Nat.zero_le _, fun i hi => absurd hi (Nat.not_lt_zero i)⟩⟩
        · repeat' (first | exact trivial | refine And.intro ?_ ?_ | rfl | omega | decide | (show (_ : Nat) < _; decide))
          all_goals first | (show (_ : List UInt8) = _; simp [hcf, padZ, padB]; done) | (show (_ : UInt64) = _; simp [hcf]; done) | (simp [hcf, padZ_length]; done) | (simp [hcf, padZ_length, padB, Sha.be64] <;> omega) | skip
        · repeat' (first | exact trivial | refine And.intro ?_ ?_ | rfl | omega | decide | (show (_ : Nat) < _; decide))
          all_goals first | (show (_ : List UInt8) = _; simp [hcf, padZ]; done) | (show (_ : UInt64) = _; simp [hcf]; done) | (simp [hcf, padZ_length, padB, Sha.be64]; done) | (simp [hcf, padZ_length, padB, Sha.be64] <;> omega) | skip
        · repeat' (first | exact trivial | refine And.intro ?_ ?_ | rfl | omega | decide | (show (_ : Nat) < _; decide))
        · repeat' (first | exact trivial | refine And.intro ?_ ?_ | rfl | omega | decide | (show (_ : Nat) < _; decide))
      · intro k hk
        have hlen := padZ_length l0 k.1
        refine seq_k fun _ hK21 => ?_
        refine seq_k fun _ hK22 => ?_
        refine region_k g0_ok fun _ hK23 => ?_
        refine s_step rfl (by decide) rfl fun _ hS => ?_
        refine hS _ _ _ ?_
        clear hS
        refine s_step rfl (by decide) rfl fun _ hS => ?_
        repeat refine And.intro (by first | omega | exact trivial | rfl | exact inR_i64.mpr ⟨by omega, by omega⟩ | (simp [padZ_length] <;> omega) | (refine And.intro ?_ ?_ <;> exact trivial) | exact ⟨trivial, trivial, trivial⟩) ?_
        refine hS _ _ _ ?_
        clear hS
        refine s_step rfl (by decide) rfl fun _ hS => ?_
        repeat refine And.intro (by first | omega | exact trivial | rfl | exact inR_i64.mpr ⟨by omega, by omega⟩ | (simp [padZ_length] <;> omega) | (refine And.intro ?_ ?_ <;> exact trivial) | exact ⟨trivial, trivial, trivial⟩) ?_
        refine hS _ _ _ ?_
        clear hS
        refine s_step rfl (by decide) rfl fun _ hS => ?_
        repeat refine And.intro (by first | omega | exact trivial | rfl | exact inR_i64.mpr ⟨by omega, by omega⟩ | (simp [padZ_length] <;> omega) | (refine And.intro ?_ ?_ <;> exact trivial) | exact ⟨trivial, trivial, trivial⟩) ?_
        refine hS _ _ _ ?_
        clear hS
        refine s_nil ?_
        refine hK23 _ _ _ ?_
        refine hK22 _ _ _ ?_
        refine WP_cond (b := _) rfl (fun h_t29 => ?_) (fun h_t29 => ?_)
        · try simp only [decide_eq_false_iff_not, Bool.not_eq_eq_eq_not, Bool.not_true] at h_t29
          refine WP_skip ?_
          refine hK21 _ _ _ ?_
          refine WP_block ?_
          refine region_k g0_ok fun _ hK24 => ?_
          refine s_step rfl (by decide) rfl fun _ hS => ?_
          refine hS _ _ _ ?_
          clear hS
          refine s_step rfl (by decide) rfl fun _ hS => ?_
          repeat refine And.intro (by first | omega | exact trivial | rfl | exact inR_i64.mpr ⟨by omega, by omega⟩ | (simp [padZ_length] <;> omega) | (refine And.intro ?_ ?_ <;> exact trivial) | exact ⟨trivial, trivial, trivial⟩) ?_
          refine hS _ _ _ ?_
          clear hS
          refine s_step rfl (by decide) rfl fun _ hS => ?_
          repeat first | refine And.intro (by first | omega | exact trivial | rfl | exact inR_i64.mpr ⟨by omega, by omega⟩ | (simp [padZ_length] <;> omega) | (refine And.intro ?_ ?_ <;> exact trivial) | exact ⟨trivial, trivial, trivial⟩) ?_ | refine whole_yes (by first | omega | exact trivial | rfl | exact inR_i64.mpr ⟨by omega, by omega⟩ | (simp [padZ_length] <;> omega) | (refine And.intro ?_ ?_ <;> exact trivial) | exact ⟨trivial, trivial, trivial⟩) ?_ | refine whole_sub ?_
          intro cap2 hcap2; refine hS _ _ _ ?_
          clear hS
          refine s_step rfl (by decide) rfl fun _ hS => ?_
          refine hS _ _ _ ?_
          clear hS
          refine s_nil ?_
          refine hK24 _ _ _ ?_
          have e1 := padZ_step l0 k.1
          refine done_block ?_
          refine Done_some [] (fun _ => 2) (k.1 + 1, cap2) ⟨by unfold Sha.zeros at *; omega, by unfold Sha.zeros at *; omega⟩ ⟨?_, ?_, (by decide : List.Nodup ([2] : List Nat)), ?_, ?_, ⟨Nat.zero_le _, fun i hi => absurd hi (Nat.not_lt_zero i)⟩⟩
          · repeat' (first | exact trivial | refine And.intro ?_ ?_ | rfl | omega | decide | (show (_ : Nat) < _; decide))
            all_goals first | (show (_ : List UInt8) = _; exact e1) | (simp [padZ_length] <;> omega) | (simp [padZ_length, padB_length l0 _ hk, padB_length l0 (k.1 + 1) (by omega)] <;> omega) | skip
          · repeat' (first | exact trivial | refine And.intro ?_ ?_ | rfl | omega | decide | (show (_ : Nat) < _; decide))
            all_goals first | (show (_ : List UInt8) = _; exact e1) | (simp [padZ_length] <;> omega) | (simp [padZ_length, padB_length l0 _ hk, padB_length l0 (k.1 + 1) (by omega)] <;> omega) | skip
          · repeat' (first | exact trivial | refine And.intro ?_ ?_ | rfl | omega | decide | (show (_ : Nat) < _; decide))
          · repeat' (first | exact trivial | refine And.intro ?_ ?_ | rfl | omega | decide | (show (_ : Nat) < _; decide))
        · try simp only [decide_eq_true_eq, Bool.not_eq_eq_eq_not, Bool.not_false] at h_t29
          refine WP_exit ?_
          refine done_thenx ?_
          refine done_thenx ?_
          refine Done_hit ?_
          refine hK20 _ _ _ ?_
          refine seq_k fun _ hK25 => ?_
          refine seq_k fun _ hK26 => ?_
          refine region_k g0_ok fun _ hK27 => ?_
          refine s_step rfl (by decide) rfl fun _ hS => ?_
          refine hS _ _ _ ?_
          clear hS
          refine s_nil ?_
          refine hK27 _ _ _ ?_
          refine hK26 _ _ _ ?_
          refine WP_block ?_
          have hk0 : k.1 = Sha.zeros l0.length := by unfold Sha.zeros at *; omega
          obtain ⟨k, cap0⟩ := k
          subst hk0
          refine WP_loop (α := Nat × Nat) (fun k => [(0, .c (.raw (.func (.yield l) #[] #[]))), (3, .c (.slice 0 0 (padB l0 k.1).length k.2)), (4, .c (.u64 l0.length.toUInt64)), (7, .c (.int .i64 (56 - 8 * (k.1 : Int))))]) (fun k => [(0, .own 5 (.u8s (padB l0 k.1)) k.2)]) 1 (fun k => k.1 ≤ 8) (fun k => 8 - k.1) ?_ ?_
          · refine Done_some [] id (0, cap0) (Nat.zero_le _) ⟨?_, ?_, (by decide : List.Nodup ([0] : List Nat)), ?_, ?_, ⟨Nat.zero_le _, fun i hi => absurd hi (Nat.not_lt_zero i)⟩⟩
            · repeat' (first | exact trivial | refine And.intro ?_ ?_ | rfl | omega | decide | (show (_ : Nat) < _; decide))
              all_goals first | (show (_ : List UInt8) = _; simp [hcf, padZ, padB]; done) | (show (_ : UInt64) = _; simp [hcf]; done) | (simp [padZ_length, padB, Sha.be64]; done) | (simp [hcf, padZ_length, padB, Sha.be64] <;> omega) | skip
            · repeat' (first | exact trivial | refine And.intro ?_ ?_ | rfl | omega | decide | (show (_ : Nat) < _; decide))
              all_goals first | (show (_ : List UInt8) = _; simp [padZ, padB]; done) | (show (_ : UInt64) = _; simp [hcf]; done) | (simp [hcf, padZ_length, padB, Sha.be64]; done) | (simp [hcf, padZ_length, padB, Sha.be64] <;> omega) | skip
            · repeat' (first | exact trivial | refine And.intro ?_ ?_ | rfl | omega | decide | (show (_ : Nat) < _; decide))
            · repeat' (first | exact trivial | refine And.intro ?_ ?_ | rfl | omega | decide | (show (_ : Nat) < _; decide))
          · intro k hk
            have hlen := padB_length l0 k.1 hk
            refine seq_k fun _ hK28 => ?_
            refine seq_k fun _ hK29 => ?_
            refine region_k g0_ok fun _ hK30 => ?_
            refine s_step rfl (by decide) rfl fun _ hS => ?_
            refine hS _ _ _ ?_
            clear hS
            refine s_step rfl (by decide) rfl fun _ hS => ?_
            repeat refine And.intro (by first | omega | exact trivial | rfl | exact inR_i64.mpr ⟨by omega, by omega⟩ | (simp [padZ_length] <;> omega) | (refine And.intro ?_ ?_ <;> exact trivial) | exact ⟨trivial, trivial, trivial⟩) ?_
            refine hS _ _ _ ?_
            clear hS
            refine s_nil ?_
            refine hK30 _ _ _ ?_
            refine hK29 _ _ _ ?_
            refine WP_cond (b := _) rfl (fun h_t34 => ?_) (fun h_t34 => ?_)
            · try simp only [decide_eq_true_eq] at h_t34
              refine WP_skip ?_
              refine hK28 _ _ _ ?_
              refine seq_k fun _ hK31 => ?_
              refine WP_block ?_
              refine region_k g0_ok fun _ hK32 => ?_
              refine s_step rfl (by decide) rfl fun _ hS => ?_
              refine hS _ _ _ ?_
              clear hS
              refine s_step rfl (by decide) rfl fun _ hS => ?_
              refine hS _ _ _ ?_
              clear hS
              refine s_step rfl (by decide) rfl fun _ hS => ?_
              repeat refine And.intro (by first | omega | exact trivial | rfl | exact inR_i64.mpr ⟨by omega, by omega⟩ | (simp [padZ_length, hlen] <;> omega) | (refine And.intro ?_ ?_ <;> exact trivial) | exact ⟨trivial, trivial, trivial⟩) ?_
              refine hS _ _ _ ?_
              clear hS
              refine s_step rfl (by decide) rfl fun _ hS => ?_
              refine hS _ _ _ ?_
              clear hS
              refine s_step rfl (by decide) rfl fun _ hS => ?_
              repeat refine And.intro (by first | omega | exact trivial | rfl | exact inR_i64.mpr ⟨by omega, by omega⟩ | (simp [padZ_length, hlen] <;> omega) | (refine And.intro ?_ ?_ <;> exact trivial) | exact ⟨trivial, trivial, trivial⟩) ?_
              refine hS _ _ _ ?_
              clear hS
              refine s_step rfl (by decide) rfl fun _ hS => ?_
              repeat first | refine And.intro (by first | omega | exact trivial | rfl | exact inR_i64.mpr ⟨by omega, by omega⟩ | (simp [padZ_length, hlen] <;> omega) | (refine And.intro ?_ ?_ <;> exact trivial) | exact ⟨trivial, trivial, trivial⟩) ?_ | refine whole_yes (by first | omega | exact trivial | rfl | exact inR_i64.mpr ⟨by omega, by omega⟩ | (simp [padZ_length, hlen] <;> omega) | (refine And.intro ?_ ?_ <;> exact trivial) | exact ⟨trivial, trivial, trivial⟩) ?_ | refine whole_sub ?_
              refine hS _ _ _ ?_
              clear hS
              refine s_step rfl (by decide) rfl fun _ hS => ?_
              repeat refine And.intro (by first | omega | exact trivial | rfl | exact inR_i64.mpr ⟨by omega, by omega⟩ | (simp [padZ_length, hlen] <;> omega) | (refine And.intro ?_ ?_ <;> exact trivial) | exact ⟨trivial, trivial, trivial⟩) ?_
              refine hS _ _ _ ?_
              clear hS
              refine s_step rfl (by decide) rfl fun _ hS => ?_
              repeat first | refine And.intro (by first | omega | exact trivial | rfl | exact inR_i64.mpr ⟨by omega, by omega⟩ | (simp [hlen] <;> omega) | (refine And.intro ?_ ?_ <;> exact trivial) | exact ⟨trivial, trivial, trivial⟩) ?_ | refine whole_yes (by first | omega | exact trivial | rfl | exact inR_i64.mpr ⟨by omega, by omega⟩ | (simp [padZ_length, hlen] <;> omega) | (refine And.intro ?_ ?_ <;> exact trivial) | exact ⟨trivial, trivial, trivial⟩) ?_ | refine whole_sub ?_
              intro cap7 hcap7; refine hS _ _ _ ?_
              clear hS
              refine s_step rfl (by decide) rfl fun _ hS => ?_
              refine hS _ _ _ ?_
              clear hS
              refine s_nil ?_
              refine hK32 _ _ _ ?_
              have e1 := padB_step l0 k.1 (by omega)
              rw [show 56 - 8 * k.1 = (56 - 8 * (k.1 : Int)).toNat by omega] at e1
              refine done_block ?_
              refine hK31 _ _ _ ?_
              refine region_k g0_ok fun _ hK33 => ?_
              refine s_step rfl (by decide) rfl fun _ hS => ?_
              refine hS _ _ _ ?_
              clear hS
              refine s_step rfl (by decide) rfl fun _ hS => ?_
              repeat refine And.intro (by first | omega | exact trivial | rfl | exact inR_i64.mpr ⟨by omega, by omega⟩ | (simp [padZ_length] <;> omega) | (refine And.intro ?_ ?_ <;> exact trivial) | exact ⟨trivial, trivial, trivial⟩) ?_
              refine hS _ _ _ ?_
              clear hS
              refine s_step rfl (by decide) rfl fun _ hS => ?_
              refine hS _ _ _ ?_
              clear hS
              refine s_nil ?_
              refine hK33 _ _ _ ?_
              refine Done_some [] (fun _ => 2) (k.1 + 1, cap7) ⟨by omega, by omega⟩ ⟨?_, ?_, (by decide : List.Nodup ([2] : List Nat)), ?_, ?_, ⟨Nat.zero_le _, fun i hi => absurd hi (Nat.not_lt_zero i)⟩⟩
              · repeat' (first | exact trivial | refine And.intro ?_ ?_ | rfl | omega | decide | (show (_ : Nat) < _; decide))
                all_goals first | (show (_ : List UInt8) = _; exact e1) | (simp <;> omega) | (simp [padB_length l0 _ hk, padB_length l0 (k.1 + 1) (by omega)] <;> omega) | skip
              · repeat' (first | exact trivial | refine And.intro ?_ ?_ | rfl | omega | decide | (show (_ : Nat) < _; decide))
                all_goals first | (show (_ : List UInt8) = _; exact e1) | (simp [padZ_length] <;> omega) | (simp [padZ_length, padB_length l0 _ hk, padB_length l0 (k.1 + 1) (by omega)] <;> omega) | skip
              · repeat' (first | exact trivial | refine And.intro ?_ ?_ | rfl | omega | decide | (show (_ : Nat) < _; decide))
              · repeat' (first | exact trivial | refine And.intro ?_ ?_ | rfl | omega | decide | (show (_ : Nat) < _; decide))
            · try simp only [decide_eq_false_iff_not, Int.not_le] at h_t34
              refine WP_exit ?_
              refine done_thenx ?_
              refine done_thenx ?_
              refine Done_hit ?_
              refine hK25 _ _ _ ?_
              obtain ⟨k, cap0⟩ := k
              obtain rfl : k = 8 := by simp at h_t34 hk; omega
              refine WP_le (is := [0]) (ρ := id) (E' := [(0, .c (.raw (.func (.yield l) #[] #[]))), (3, .c (.ds ((Sha.pad l0).length - 64 * (0)) (.u8s ((Sha.pad l0).drop (64 * (0))))))]) (H' := []) (n' := 1) ⟨?_, ?_, (by decide : List.Nodup ([] : List Nat)), ?_, ?_, ⟨Nat.zero_le _, fun i hi => absurd hi (Nat.not_lt_zero i)⟩⟩ ?_
              · repeat' (first | exact trivial | refine And.intro ?_ ?_ | rfl | omega | decide | (show (_ : Nat) < _; decide))
                all_goals simp [padB_full, hpl]
              · repeat' (first | exact trivial | refine And.intro ?_ ?_ | rfl | omega | decide | (show (_ : Nat) < _; decide))
                all_goals simp [padB_full, hpl]
              · repeat' (first | exact trivial | refine And.intro ?_ ?_ | rfl | omega | decide | (show (_ : Nat) < _; decide))
              · repeat' (first | exact trivial | refine And.intro ?_ ?_ | rfl | omega | decide | (show (_ : Nat) < _; decide))
              refine WP_block ?_
              refine WP_atJ (J := J 0) hJ0 (hab 0) fun a1 w1 hA => ?_
              refine wp_loop_nat (fun k a w => k ≤ (Sha.pad l0).length / 64 ∧ AtJ g0 55 (J k) [(0, .c (.raw (.func (.yield l) #[] #[]))), (3, .c (.ds ((Sha.pad l0).length - 64 * (k)) (.u8s ((Sha.pad l0).drop (64 * (k))))))] a w) ((Sha.pad l0).length / 64) (fun _ _ _ h => h.1) ?_ 0 a1 w1 ⟨Nat.zero_le _, hA⟩
              intro k a w ⟨hk, hA⟩
              refine hA.wp fun D w0 n hJk => ?_
              refine seq_k fun _ hK34 => ?_
              refine seq_k fun _ hK35 => ?_
              refine region_k g0_ok fun _ hK36 => ?_
              refine s_step rfl (by decide) rfl fun _ hS => ?_
              refine hS _ _ _ ?_
              clear hS
              refine s_step rfl (by decide) rfl fun _ hS => ?_
              repeat refine And.intro (by first | omega | exact trivial | rfl | exact inR_i64.mpr ⟨by omega, by omega⟩ | (simp [padZ_length] <;> omega) | (refine And.intro ?_ ?_ <;> exact trivial) | exact ⟨trivial, trivial, trivial⟩) ?_
              refine hS _ _ _ ?_
              clear hS
              refine s_step rfl (by decide) rfl fun _ hS => ?_
              repeat refine And.intro (by first | omega | exact trivial | rfl | exact inR_i64.mpr ⟨by omega, by omega⟩ | (simp [padZ_length] <;> omega) | (refine And.intro ?_ ?_ <;> exact trivial) | exact ⟨trivial, trivial, trivial⟩) ?_
              refine hS _ _ _ ?_
              clear hS
              refine s_nil ?_
              refine hK36 _ _ _ ?_
              refine hK35 _ _ _ ?_
              refine WP_cond (b := _) rfl (fun h_t47 => ?_) (fun h_t47 => ?_)
              · try simp only [decide_eq_true_eq] at h_t47
                refine WP_skip ?_
                refine hK34 _ _ _ ?_
                have hkK : k < (Sha.pad l0).length / 64 := by simp at h_t47; omega
                have hdl : (Cont.u8s ((Sha.pad l0).drop (64 * k))).len = ((Sha.pad l0).length - 64 * k) * 1 := by simp
                refine WP_atJ (J := J k) hJk (hab k) fun a2 w2 hA2 => ?_
                refine wp_seq (wp_block (wp_seq ?_))
                refine region_yield (J := J k) (J' := J (k + 1)) g0_ok (hab k) (hab (k + 1)) 3 rfl rfl rfl rfl rfl (by decide) (y := .c (.ds 64 (.u8s (chunk (Sha.pad l0) k)))) (l := l) (fun D w v m hj hv => hround k D w _ v m (chunks_get hkK) hj hv) (arg := .tmp 52) rfl (E2 := [(0, .c (.raw (.func (.yield l) #[] #[]))), (3, .c (.ds ((Sha.pad l0).length - 64 * (k)) (.u8s ((Sha.pad l0).drop (64 * (k)))))), (54, .c (.bool false))]) (fun n => ?_) hA2 (fun a3 w3 hA3 => ?_)
                · simp only [List.take_succ_cons, List.take_zero, List.drop_succ_cons, List.drop_zero]
                  refine y_step rfl (by decide) rfl (by intro c h; cases h) fun _ hS => ?_
                  repeat refine And.intro (by first | omega | exact trivial | rfl | exact hdl | (simp; omega)) ?_
                  refine hS _ _ _ ?_
                  clear hS
                  refine y_step rfl (by decide) rfl (by intro c h; cases h) fun _ hS => ?_
                  repeat refine And.intro (by first | omega | exact trivial | rfl | exact hdl | (simp; omega)) ?_
                  refine hS _ _ _ ?_
                  clear hS
                  refine y_step rfl (by decide) rfl (by intro c h; cases h) fun _ hS => ?_
                  repeat refine And.intro (by first | omega | exact trivial | rfl | exact hdl | (simp; omega)) ?_
                  refine hS _ _ _ ?_
                  clear hS
                  refine y_nil ?_
                  refine ⟨rfl, rfl, trivial, ?_⟩
                  refine y_step rfl (by decide) rfl (by intro c h; cases h) fun _ hS => ?_
                  refine hS _ _ _ ?_
                  clear hS
                  refine y_nil ?_
                  exact Env.sub_of (List.forall_mem_cons.2 ⟨rfl, List.forall_mem_cons.2 ⟨rfl, List.forall_mem_cons.2 ⟨rfl, fun _ h => by cases h⟩⟩⟩)
                simp only [Exit.then]
                refine hA3.wp fun D3 w3 n3 hJ3 => ?_
                refine WP_cond (b := false) rfl (fun h => absurd h (by decide)) (fun _ => ?_)
                refine WP_skip ?_
                refine done_block ?_
                refine done_then ?_
                refine Done_wp ?_
                refine region_k g0_ok fun _ hK37 => ?_
                refine s_step rfl (by decide) rfl fun _ hS => ?_
                refine hS _ _ _ ?_
                clear hS
                refine s_step rfl (by decide) rfl fun _ hS => ?_
                repeat refine And.intro (by first | omega | exact trivial | rfl | exact inR_i64.mpr ⟨by omega, by omega⟩ | (simp [padZ_length] <;> omega) | exact hdl | (refine And.intro ?_ ?_ <;> exact trivial) | exact ⟨trivial, trivial, trivial⟩) ?_
                first | refine hS _ _ _ ?_ | (refine ite_yes (by first | omega | exact trivial | rfl | exact inR_i64.mpr ⟨by omega, by omega⟩ | (simp [padZ_length] <;> omega) | exact hdl | (refine And.intro ?_ ?_ <;> exact trivial) | exact ⟨trivial, trivial, trivial⟩) ?_; (repeat refine And.intro (by first | omega | exact trivial | rfl | exact inR_i64.mpr ⟨by omega, by omega⟩ | (simp [padZ_length] <;> omega) | exact hdl | (refine And.intro ?_ ?_ <;> exact trivial) | exact ⟨trivial, trivial, trivial⟩) ?_); refine hS _ _ _ ?_)
                clear hS
                refine s_step rfl (by decide) rfl fun _ hS => ?_
                refine hS _ _ _ ?_
                clear hS
                refine s_nil ?_
                refine hK37 _ _ _ ?_
                intro β I a w hS
                refine ⟨hkK, (hS.atJ hJ3 (hab (k + 1))).sub (Env.sub_of (List.forall_mem_cons.2 ⟨rfl, List.forall_mem_cons.2 ⟨?_, fun _ h => by cases h⟩⟩))⟩
                show some _ = some _
                simp only [Option.some.injEq, SV.c.injEq, Cell.ds.injEq, Cont.drop, Cont.u8s.injEq, List.drop_drop]
                exact ⟨by omega, rfl⟩
              · try simp only [decide_eq_false_iff_not, Int.not_lt] at h_t47
                refine WP_exit ?_
                refine done_thenx ?_
                refine done_thenx ?_
                refine Done_hit ?_
                obtain rfl : k = (Sha.pad l0).length / 64 := by simp at h_t47; omega
                refine Done_normal0 g0_ok rfl rfl fun β I a w hS => ⟨⟨_, rfl⟩, I, ?_⟩
                rw [chunks_length]
                exact hab _ _ _ _ _ _ _ _ hJk hS.heap
              
end Go.Proofs.YtdanaehfdbdhdaaDoor
