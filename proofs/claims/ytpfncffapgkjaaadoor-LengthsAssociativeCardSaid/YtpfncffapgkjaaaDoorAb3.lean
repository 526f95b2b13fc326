/- The operations that leave the world alone are sound: what pureS reckons is what the model runs. -/
import Derived.Test.YtpfncffapgkjaaaDoorAb2
import Derived.Laws.StructEq
namespace Go.Ab
set_option linter.unusedVariables false
open Go.RowKit

/-! ### integers -/

theorem wrap_in {k : IntKind} {n : Int} (h : inR k n) : k.wrap n = n := by
  obtain ⟨h1, h2⟩ := h
  cases k <;> simp [IntKind.min, IntKind.max, IntKind.bits, IntKind.signed] at h1 h2 <;>
    simp [IntKind.wrap, IntKind.bits, IntKind.signed] <;> omega

variable {P : Program} {w : World}

theorem run_intBin {op : BinOp} {k : IntKind} {x y : Int} {K : SV → Prop} {t : TypeId} (hs : op ≠ .shl) (hr : op ≠ .shr) (h : intS k x y K op) :
    ∃ c : Cell, K (.c c) ∧ c.flat = true ∧ ∀ (w : World), (binOp op t (.int k x) (.int k y)).run P w = .ok (c.val) w := by
  cases op <;> simp only [intS] at h <;> try (exact h.elim)
  case add => exact ⟨_, h.2, rfl, fun w => by simp [binOp, Op.intArith, Cell.val, wrap_in h.1]⟩
  case sub => exact ⟨_, h.2, rfl, fun w => by simp [binOp, Op.intArith, Cell.val, wrap_in h.1]⟩
  case mul => exact ⟨_, h.2, rfl, fun w => by simp [binOp, Op.intArith, Cell.val, wrap_in h.1]⟩
  case quo =>
    obtain ⟨⟨h1, h2, h3⟩, h4⟩ := h
    refine ⟨_, h4, rfl, fun w => ?_⟩
    have hle : x / y ≤ x := Int.ediv_le_self y h1
    have h0 : 0 ≤ x / y := Int.ediv_nonneg h1 (by omega)
    have hin : inR k (x / y) := ⟨by have : k.min ≤ 0 := by cases k <;> decide
                                    omega, by omega⟩
    simp [binOp, Op.intDiv, Cell.val, show y ≠ 0 by omega, Int.tdiv_eq_ediv_of_nonneg h1, wrap_in hin]
  case rem =>
    obtain ⟨⟨h1, h2⟩, h4⟩ := h
    exact ⟨_, h4, rfl, fun w => by simp [binOp, Op.intDiv, Cell.val, show y ≠ 0 by omega, Int.tmod_eq_emod_of_nonneg h1]⟩
  case eql => exact ⟨_, h, rfl, fun w => by simp [binOp, Op.intCmp, Cell.val]; rfl⟩
  case neq => exact ⟨_, h, rfl, fun w => by simp [binOp, Op.intCmp, Cell.val]; rfl⟩
  case lss => exact ⟨_, h, rfl, fun w => by simp [binOp, Op.intCmp, Cell.val]⟩
  case leq => exact ⟨_, h, rfl, fun w => by simp [binOp, Op.intCmp, Cell.val]⟩
  case gtr => exact ⟨_, h, rfl, fun w => by simp [binOp, Op.intCmp, Cell.val]⟩
  case geq => exact ⟨_, h, rfl, fun w => by simp [binOp, Op.intCmp, Cell.val]⟩


theorem u8_lt (x : UInt8) : (x.toNat : Int) < 256 := by have := x.toNat_lt; omega
theorem run_u8Bin {op : BinOp} {x y : UInt8} {K : SV → Prop} {t : TypeId} (hs : op ≠ .shl) (hr : op ≠ .shr) (h : u8S x y K op) :
    ∃ c : Cell, K (.c c) ∧ c.flat = true ∧ ∀ (w : World), (binOp op t (.int .u8 x.toNat) (.int .u8 y.toNat)).run P w = .ok (c.val) w := by
  have hx := u8_lt x
  have hy := u8_lt y
  have hx' : x.toNat < 256 := by omega
  have hy' : y.toNat < 256 := by omega
  have he : (x.toNat = y.toNat) ↔ x = y := UInt8.toNat_inj
  cases op <;> simp only [u8S] at h <;> try (exact h.elim)
  case add => exact ⟨_, h, rfl, fun w => by simp [binOp, Op.intArith, Cell.val, IntKind.wrap_u8, UInt8.toNat_add]⟩
  case sub => exact ⟨_, h, rfl, fun w => by simp [binOp, Op.intArith, Cell.val, IntKind.wrap_u8, UInt8.toNat_sub]; omega⟩
  case mul => exact ⟨_, h, rfl, fun w => by simp [binOp, Op.intArith, Cell.val, IntKind.wrap_u8, UInt8.toNat_mul]⟩
  case quo =>
    have h0 : y.toNat ≠ 0 := fun e => h.1 (UInt8.toNat_inj.1 e)
    refine ⟨_, h.2, rfl, fun w => ?_⟩
    have hle : x.toNat / y.toNat ≤ x.toNat := Nat.div_le_self _ _
    simp only [binOp, Op.intDiv, Cell.val, IntKind.wrap_u8, UInt8.toNat_div, ne_eq, not_true_eq_false, if_false, show ¬ ((y.toNat : Int) = 0) by omega, Int.tdiv_eq_ediv_of_nonneg (show (0 : Int) ≤ x.toNat by omega), Sem.run_pure]
    congr 2
    rw [← Int.natCast_ediv]
    generalize x.toNat / y.toNat = q at hle ⊢
    omega
  case rem =>
    have h0 : y.toNat ≠ 0 := fun e => h.1 (UInt8.toNat_inj.1 e)
    refine ⟨_, h.2, rfl, fun w => ?_⟩
    simp only [binOp, Op.intDiv, Cell.val, UInt8.toNat_mod, ne_eq, not_true_eq_false, if_false, show ¬ ((y.toNat : Int) = 0) by omega, Int.tmod_eq_emod_of_nonneg (show (0 : Int) ≤ x.toNat by omega), Sem.run_pure]
    congr 2
  case and => exact ⟨_, h, rfl, fun w => by
    have e := u8_and_nat x.toNat y.toNat hx' hy'
    simp only [bits] at e
    simp only [binOp, Op.intBits, Cell.val, ne_eq, not_true_eq_false, if_false, Sem.run_pure, UInt8.toNat_and, ← e]⟩
  case or => exact ⟨_, h, rfl, fun w => by
    have e := u8_or_nat x.toNat y.toNat hx' hy'
    simp only [bits] at e
    simp only [binOp, Op.intBits, Cell.val, ne_eq, not_true_eq_false, if_false, Sem.run_pure, UInt8.toNat_or, ← e]⟩
  case xor => exact ⟨_, h, rfl, fun w => by
    have e := u8_xor_nat x.toNat y.toNat hx' hy'
    simp only [bits] at e
    simp only [binOp, Op.intBits, Cell.val, ne_eq, not_true_eq_false, if_false, Sem.run_pure, UInt8.toNat_xor, ← e]⟩
  case eql => exact ⟨_, h, rfl, fun w => by
    simp only [binOp, Op.intCmp, Cell.val, ne_eq, not_true_eq_false, if_false, Sem.run_pure]
    congr 2
    rw [Bool.eq_iff_iff]; simp [← he]; omega⟩
  case neq => exact ⟨_, h, rfl, fun w => by
    simp only [binOp, Op.intCmp, Cell.val, ne_eq, not_true_eq_false, if_false, Sem.run_pure]
    congr 2
    rw [Bool.eq_iff_iff]; simp [← he]; omega⟩
  case lss => exact ⟨_, h, rfl, fun w => by simp [binOp, Op.intCmp, Cell.val, UInt8.lt_iff_toNat_lt]⟩
  case leq => exact ⟨_, h, rfl, fun w => by simp [binOp, Op.intCmp, Cell.val, UInt8.le_iff_toNat_le]⟩
  case gtr => exact ⟨_, h, rfl, fun w => by simp [binOp, Op.intCmp, Cell.val, UInt8.lt_iff_toNat_lt]⟩
  case geq => exact ⟨_, h, rfl, fun w => by simp [binOp, Op.intCmp, Cell.val, UInt8.le_iff_toNat_le]⟩

theorem u32_lt (x : UInt32) : (x.toNat : Int) < 4294967296 := by have := x.toNat_lt; omega
theorem run_u32Bin {op : BinOp} {x y : UInt32} {K : SV → Prop} {t : TypeId} (hs : op ≠ .shl) (hr : op ≠ .shr) (h : u32S x y K op) :
    ∃ c : Cell, K (.c c) ∧ c.flat = true ∧ ∀ (w : World), (binOp op t (.int .u32 x.toNat) (.int .u32 y.toNat)).run P w = .ok (c.val) w := by
  have hx := u32_lt x
  have hy := u32_lt y
  have hx' : x.toNat < 4294967296 := by omega
  have hy' : y.toNat < 4294967296 := by omega
  have he : (x.toNat = y.toNat) ↔ x = y := UInt32.toNat_inj
  cases op <;> simp only [u32S] at h <;> try (exact h.elim)
  case add => exact ⟨_, h, rfl, fun w => by simp [binOp, Op.intArith, Cell.val, IntKind.wrap_u32, UInt32.toNat_add]⟩
  case sub => exact ⟨_, h, rfl, fun w => by simp [binOp, Op.intArith, Cell.val, IntKind.wrap_u32, UInt32.toNat_sub]; omega⟩
  case mul => exact ⟨_, h, rfl, fun w => by simp [binOp, Op.intArith, Cell.val, IntKind.wrap_u32, UInt32.toNat_mul]⟩
  case quo =>
    have h0 : y.toNat ≠ 0 := fun e => h.1 (UInt32.toNat_inj.1 e)
    refine ⟨_, h.2, rfl, fun w => ?_⟩
    have hle : x.toNat / y.toNat ≤ x.toNat := Nat.div_le_self _ _
    simp only [binOp, Op.intDiv, Cell.val, IntKind.wrap_u32, UInt32.toNat_div, ne_eq, not_true_eq_false, if_false, show ¬ ((y.toNat : Int) = 0) by omega, Int.tdiv_eq_ediv_of_nonneg (show (0 : Int) ≤ x.toNat by omega), Sem.run_pure]
    congr 2
    rw [← Int.natCast_ediv]
    generalize x.toNat / y.toNat = q at hle ⊢
    omega
  case rem =>
    have h0 : y.toNat ≠ 0 := fun e => h.1 (UInt32.toNat_inj.1 e)
    refine ⟨_, h.2, rfl, fun w => ?_⟩
    simp only [binOp, Op.intDiv, Cell.val, UInt32.toNat_mod, ne_eq, not_true_eq_false, if_false, show ¬ ((y.toNat : Int) = 0) by omega, Int.tmod_eq_emod_of_nonneg (show (0 : Int) ≤ x.toNat by omega), Sem.run_pure]
    congr 2
  case and => exact ⟨_, h, rfl, fun w => by
    have e := u32_and_nat x.toNat y.toNat hx' hy'
    simp only [bits] at e
    simp only [binOp, Op.intBits, Cell.val, ne_eq, not_true_eq_false, if_false, Sem.run_pure, UInt32.toNat_and, ← e]⟩
  case or => exact ⟨_, h, rfl, fun w => by
    have e := u32_or_nat x.toNat y.toNat hx' hy'
    simp only [bits] at e
    simp only [binOp, Op.intBits, Cell.val, ne_eq, not_true_eq_false, if_false, Sem.run_pure, UInt32.toNat_or, ← e]⟩
  case xor => exact ⟨_, h, rfl, fun w => by
    have e := u32_xor_nat x.toNat y.toNat hx' hy'
    simp only [bits] at e
    simp only [binOp, Op.intBits, Cell.val, ne_eq, not_true_eq_false, if_false, Sem.run_pure, UInt32.toNat_xor, ← e]⟩
  case eql => exact ⟨_, h, rfl, fun w => by
    simp only [binOp, Op.intCmp, Cell.val, ne_eq, not_true_eq_false, if_false, Sem.run_pure]
    congr 2
    rw [Bool.eq_iff_iff]; simp [← he]; omega⟩
  case neq => exact ⟨_, h, rfl, fun w => by
    simp only [binOp, Op.intCmp, Cell.val, ne_eq, not_true_eq_false, if_false, Sem.run_pure]
    congr 2
    rw [Bool.eq_iff_iff]; simp [← he]; omega⟩
  case lss => exact ⟨_, h, rfl, fun w => by simp [binOp, Op.intCmp, Cell.val, UInt32.lt_iff_toNat_lt]⟩
  case leq => exact ⟨_, h, rfl, fun w => by simp [binOp, Op.intCmp, Cell.val, UInt32.le_iff_toNat_le]⟩
  case gtr => exact ⟨_, h, rfl, fun w => by simp [binOp, Op.intCmp, Cell.val, UInt32.lt_iff_toNat_lt]⟩
  case geq => exact ⟨_, h, rfl, fun w => by simp [binOp, Op.intCmp, Cell.val, UInt32.le_iff_toNat_le]⟩

theorem u64_lt (x : UInt64) : (x.toNat : Int) < 18446744073709551616 := by have := x.toNat_lt; omega
theorem run_u64Bin {op : BinOp} {x y : UInt64} {K : SV → Prop} {t : TypeId} (hs : op ≠ .shl) (hr : op ≠ .shr) (h : u64S x y K op) :
    ∃ c : Cell, K (.c c) ∧ c.flat = true ∧ ∀ (w : World), (binOp op t (.int .u64 x.toNat) (.int .u64 y.toNat)).run P w = .ok (c.val) w := by
  have hx := u64_lt x
  have hy := u64_lt y
  have hx' : x.toNat < 18446744073709551616 := by omega
  have hy' : y.toNat < 18446744073709551616 := by omega
  have he : (x.toNat = y.toNat) ↔ x = y := UInt64.toNat_inj
  cases op <;> simp only [u64S] at h <;> try (exact h.elim)
  case add => exact ⟨_, h, rfl, fun w => by simp [binOp, Op.intArith, Cell.val, IntKind.wrap_u64, UInt64.toNat_add]⟩
  case sub => exact ⟨_, h, rfl, fun w => by simp [binOp, Op.intArith, Cell.val, IntKind.wrap_u64, UInt64.toNat_sub]; omega⟩
  case mul => exact ⟨_, h, rfl, fun w => by simp [binOp, Op.intArith, Cell.val, IntKind.wrap_u64, UInt64.toNat_mul]⟩
  case quo =>
    have h0 : y.toNat ≠ 0 := fun e => h.1 (UInt64.toNat_inj.1 e)
    refine ⟨_, h.2, rfl, fun w => ?_⟩
    have hle : x.toNat / y.toNat ≤ x.toNat := Nat.div_le_self _ _
    simp only [binOp, Op.intDiv, Cell.val, IntKind.wrap_u64, UInt64.toNat_div, ne_eq, not_true_eq_false, if_false, show ¬ ((y.toNat : Int) = 0) by omega, Int.tdiv_eq_ediv_of_nonneg (show (0 : Int) ≤ x.toNat by omega), Sem.run_pure]
    congr 2
    rw [← Int.natCast_ediv]
    generalize x.toNat / y.toNat = q at hle ⊢
    omega
  case rem =>
    have h0 : y.toNat ≠ 0 := fun e => h.1 (UInt64.toNat_inj.1 e)
    refine ⟨_, h.2, rfl, fun w => ?_⟩
    simp only [binOp, Op.intDiv, Cell.val, UInt64.toNat_mod, ne_eq, not_true_eq_false, if_false, show ¬ ((y.toNat : Int) = 0) by omega, Int.tmod_eq_emod_of_nonneg (show (0 : Int) ≤ x.toNat by omega), Sem.run_pure]
    congr 2
  case and => exact ⟨_, h, rfl, fun w => by
    have e := u64_and_nat x.toNat y.toNat hx' hy'
    simp only [bits] at e
    simp only [binOp, Op.intBits, Cell.val, ne_eq, not_true_eq_false, if_false, Sem.run_pure, UInt64.toNat_and, ← e]⟩
  case or => exact ⟨_, h, rfl, fun w => by
    have e := u64_or_nat x.toNat y.toNat hx' hy'
    simp only [bits] at e
    simp only [binOp, Op.intBits, Cell.val, ne_eq, not_true_eq_false, if_false, Sem.run_pure, UInt64.toNat_or, ← e]⟩
  case xor => exact ⟨_, h, rfl, fun w => by
    have e := u64_xor_nat x.toNat y.toNat hx' hy'
    simp only [bits] at e
    simp only [binOp, Op.intBits, Cell.val, ne_eq, not_true_eq_false, if_false, Sem.run_pure, UInt64.toNat_xor, ← e]⟩
  case eql => exact ⟨_, h, rfl, fun w => by
    simp only [binOp, Op.intCmp, Cell.val, ne_eq, not_true_eq_false, if_false, Sem.run_pure]
    congr 2
    rw [Bool.eq_iff_iff]; simp [← he]; omega⟩
  case neq => exact ⟨_, h, rfl, fun w => by
    simp only [binOp, Op.intCmp, Cell.val, ne_eq, not_true_eq_false, if_false, Sem.run_pure]
    congr 2
    rw [Bool.eq_iff_iff]; simp [← he]; omega⟩
  case lss => exact ⟨_, h, rfl, fun w => by simp [binOp, Op.intCmp, Cell.val, UInt64.lt_iff_toNat_lt]⟩
  case leq => exact ⟨_, h, rfl, fun w => by simp [binOp, Op.intCmp, Cell.val, UInt64.le_iff_toNat_le]⟩
  case gtr => exact ⟨_, h, rfl, fun w => by simp [binOp, Op.intCmp, Cell.val, UInt64.lt_iff_toNat_lt]⟩
  case geq => exact ⟨_, h, rfl, fun w => by simp [binOp, Op.intCmp, Cell.val, UInt64.le_iff_toNat_le]⟩


/-! ### shifts -/

theorem min_toNat {n : Int} {b : Nat} (h : n.toNat < b) : min n.toNat b = n.toNat := by omega


theorem run_shr_u8 {x : UInt8} {n : Int} {yk : IntKind} {t : TypeId} (h0 : 0 ≤ n) : (binOp .shr t (.int .u8 x.toNat) (.int yk n)).run P w = .ok (.int .u8 (shr8 x n.toNat).toNat) w := by
  have hx := u8_lt x
  have hn : ¬ n < 0 := by omega
  simp only [binOp, Op.shift, hn, if_false, IntKind.bits, shr8, Sem.run_pure]
  congr 2
  rw [Int.fdiv_eq_ediv_of_nonneg _ (Int.le_of_lt (Int.pow_pos (by omega)))]
  by_cases hb : n.toNat < 8
  · rw [min_toNat hb, if_pos hb]
    simp only [UInt8.toNat_shiftRight, Nat.toUInt8_eq, UInt8.toNat_ofNat', Nat.shiftRight_eq_div_pow]
    rw [show n.toNat % 2 ^ 8 % 8 = n.toNat by omega]
    simp
  · rw [if_neg hb, show min n.toNat 8 = 8 by omega]
    simp
    omega
theorem run_shl_u8 {x : UInt8} {n : Int} {yk : IntKind} {t : TypeId} (h0 : 0 ≤ n) : (binOp .shl t (.int .u8 x.toNat) (.int yk n)).run P w = .ok (.int .u8 (shl8 x n.toNat).toNat) w := by
  have hn : ¬ n < 0 := by omega
  simp only [binOp, Op.shift, hn, if_false, IntKind.bits, shl8, Sem.run_pure, IntKind.wrap_u8]
  congr 2
  by_cases hb : n.toNat < 8
  · rw [min_toNat hb, if_pos hb]
    simp only [UInt8.toNat_shiftLeft, Nat.toUInt8_eq, UInt8.toNat_ofNat', Nat.shiftLeft_eq]
    rw [show n.toNat % 2 ^ 8 % 8 = n.toNat by omega]
    simp
  · rw [if_neg hb, show min n.toNat 8 = 8 by omega]
    simp

theorem run_shr_u32 {x : UInt32} {n : Int} {yk : IntKind} {t : TypeId} (h0 : 0 ≤ n) : (binOp .shr t (.int .u32 x.toNat) (.int yk n)).run P w = .ok (.int .u32 (shr32 x n.toNat).toNat) w := by
  have hx := u32_lt x
  have hn : ¬ n < 0 := by omega
  simp only [binOp, Op.shift, hn, if_false, IntKind.bits, shr32, Sem.run_pure]
  congr 2
  rw [Int.fdiv_eq_ediv_of_nonneg _ (Int.le_of_lt (Int.pow_pos (by omega)))]
  by_cases hb : n.toNat < 32
  · rw [min_toNat hb, if_pos hb]
    simp only [UInt32.toNat_shiftRight, Nat.toUInt32_eq, UInt32.toNat_ofNat', Nat.shiftRight_eq_div_pow]
    rw [show n.toNat % 2 ^ 32 % 32 = n.toNat by omega]
    simp
  · rw [if_neg hb, show min n.toNat 32 = 32 by omega]
    simp
    omega
theorem run_shl_u32 {x : UInt32} {n : Int} {yk : IntKind} {t : TypeId} (h0 : 0 ≤ n) : (binOp .shl t (.int .u32 x.toNat) (.int yk n)).run P w = .ok (.int .u32 (shl32 x n.toNat).toNat) w := by
  have hn : ¬ n < 0 := by omega
  simp only [binOp, Op.shift, hn, if_false, IntKind.bits, shl32, Sem.run_pure, IntKind.wrap_u32]
  congr 2
  by_cases hb : n.toNat < 32
  · rw [min_toNat hb, if_pos hb]
    simp only [UInt32.toNat_shiftLeft, Nat.toUInt32_eq, UInt32.toNat_ofNat', Nat.shiftLeft_eq]
    rw [show n.toNat % 2 ^ 32 % 32 = n.toNat by omega]
    simp
  · rw [if_neg hb, show min n.toNat 32 = 32 by omega]
    simp

theorem run_shr_u64 {x : UInt64} {n : Int} {yk : IntKind} {t : TypeId} (h0 : 0 ≤ n) : (binOp .shr t (.int .u64 x.toNat) (.int yk n)).run P w = .ok (.int .u64 (shr64 x n.toNat).toNat) w := by
  have hx := u64_lt x
  have hn : ¬ n < 0 := by omega
  simp only [binOp, Op.shift, hn, if_false, IntKind.bits, shr64, Sem.run_pure]
  congr 2
  rw [Int.fdiv_eq_ediv_of_nonneg _ (Int.le_of_lt (Int.pow_pos (by omega)))]
  by_cases hb : n.toNat < 64
  · rw [min_toNat hb, if_pos hb]
    simp only [UInt64.toNat_shiftRight, Nat.toUInt64_eq, UInt64.toNat_ofNat', Nat.shiftRight_eq_div_pow]
    rw [show n.toNat % 2 ^ 64 % 64 = n.toNat by omega]
    simp
  · rw [if_neg hb, show min n.toNat 64 = 64 by omega]
    simp
    omega
theorem run_shl_u64 {x : UInt64} {n : Int} {yk : IntKind} {t : TypeId} (h0 : 0 ≤ n) : (binOp .shl t (.int .u64 x.toNat) (.int yk n)).run P w = .ok (.int .u64 (shl64 x n.toNat).toNat) w := by
  have hn : ¬ n < 0 := by omega
  simp only [binOp, Op.shift, hn, if_false, IntKind.bits, shl64, Sem.run_pure, IntKind.wrap_u64]
  congr 2
  by_cases hb : n.toNat < 64
  · rw [min_toNat hb, if_pos hb]
    simp only [UInt64.toNat_shiftLeft, Nat.toUInt64_eq, UInt64.toNat_ofNat', Nat.shiftLeft_eq]
    rw [show n.toNat % 2 ^ 64 % 64 = n.toNat by omega]
    simp
  · rw [if_neg hb, show min n.toNat 64 = 64 by omega]
    simp

theorem run_shift {left : Bool} {x : SV} {n : Int} {yk : IntKind} {K : SV → Prop} {t : TypeId} (h : shiftS left x n K) :
    ∃ c : Cell, K (.c c) ∧ c.flat = true ∧ ∀ (w : World), (binOp (if left then .shl else .shr) t x.val (.int yk n)).run P w = .ok (c.val) w := by
  obtain ⟨h0, h⟩ := h
  have hn : ¬ n < 0 := by omega
  split at h
  · refine ⟨_, h, rfl, fun w => ?_⟩
    cases left
    · exact run_shr_u8 h0
    · exact run_shl_u8 h0
  · refine ⟨_, h, rfl, fun w => ?_⟩
    cases left
    · exact run_shr_u32 h0
    · exact run_shl_u32 h0
  · refine ⟨_, h, rfl, fun w => ?_⟩
    cases left
    · exact run_shr_u64 h0
    · exact run_shl_u64 h0
  · rename_i k x
    cases left
    · simp only [Bool.false_eq_true, if_false] at h
      obtain ⟨h1, h2⟩ := h
      refine ⟨_, h2, rfl, fun w => ?_⟩
      simp only [Bool.false_eq_true, if_false, SV.val, Cell.val, binOp, Op.shift, hn, Sem.run_pure]
      congr 2
      rw [Int.fdiv_eq_ediv_of_nonneg _ (Int.le_of_lt (Int.pow_pos (by omega))), show min n.toNat k.bits = n.toNat by omega]
    · simp only [if_true] at h
      obtain ⟨h1, h2, h3⟩ := h
      refine ⟨_, h3, rfl, fun w => ?_⟩
      simp only [if_true, SV.val, Cell.val, binOp, Op.shift, hn, if_false, Sem.run_pure]
      congr 2
      rw [show min n.toNat k.bits = n.toNat by omega, wrap_in h1]
  · exact h.elim
theorem run_part_cell {e : TypeId} {cs : Array Value} {off : Nat} {v : Value} {k : IntKind} (he : P.underlying e = some (.int k)) (hv : cs[off]? = some v) : (part e cs off).run P w = .ok v w := by
  simp [part, isAgg, run_underlying he, hv]

theorem run_sizeOf' {t : TypeId} {s : Nat} (h : (P.info? t).map (·.size) = some s) : (sizeOf t).run P w = .ok s w := by
  obtain ⟨i, hi, rfl⟩ := Option.map_eq_some_iff.1 h
  simp [sizeOf, typeInfo, hi]


/-- The loop over two arrays' elements. -/
theorem run_eq_loop {d : Nat} {e : TypeId} {cs ds : List Value} {eqs : Nat → Bool} (n : Nat) (hn : cs.length = n) (hm : ds.length = n) (isa : (isAgg e).run P w = .ok false w)
    (heq : ∀ i (h : i < n), (Op.equalIn d e (cs[i]'(by omega)) (ds[i]'(by omega))).run P w = .ok (eqs i) w) :
    ∀ (j k : Nat), k + j = n →
      (forIn (List.range' k j 1) ((none : Option Bool), ()) fun i __s => (do
            let a ← part e cs.toArray (i * 1)
            let b ← part e ds.toArray (i * 1)
            let r ← Op.equalIn d e a b
            if (!r) = true then pure (ForInStep.done (some false, ())) else pure (ForInStep.yield (none, ())) : Sem (ForInStep (Option Bool × Unit)))).run P w =
        .ok (if (List.range' k j 1).all eqs then (none, ()) else (some false, ())) w := by
  intro j
  induction j with
  | zero => intro k _; simp
  | succ j ih =>
    intro k hk
    rw [List.range'_succ, List.forIn_cons]
    have hp1 : (part e cs.toArray (k * 1)).run P w = .ok (cs[k]'(by omega)) w := by
      simp [part, isa, show k < cs.length by omega]
    have hp2 : (part e ds.toArray (k * 1)).run P w = .ok (ds[k]'(by omega)) w := by
      simp [part, isa, show k < ds.length by omega]
    simp only [Sem.run_bind, hp1, hp2, Result.andThen_ok, heq k (by omega), Sem.run_ite, List.all_cons]
    by_cases hq : eqs k = true
    · simp only [hq, Bool.not_true, Bool.false_eq_true, if_false, Sem.run_pure, Result.andThen_ok, Bool.true_and]
      exact ih (k + 1) (by omega)
    · simp [hq]

theorem run_equalIn_array {d : Nat} {t e : TypeId} {cs ds : List Value} {eqs : Nat → Bool} (n : Nat) (ht : P.underlying t = some (.array n e)) (hs : (P.info? e).map (·.size) = some 1)
    (hn : cs.length = n) (hm : ds.length = n) (isa : (isAgg e).run P w = .ok false w)
    (heq : ∀ i (h : i < n), (Op.equalIn d e (cs[i]'(by omega)) (ds[i]'(by omega))).run P w = .ok (eqs i) w) :
    (Op.equalIn (d + 1) t (.agg cs.toArray) (.agg ds.toArray)).run P w = .ok ((List.range n).all eqs) w := by
  rw [Op.equalIn]
  simp only [Sem.run_bind, run_underlying ht, Result.andThen_ok, run_sizeOf' hs]
  rw [Std.Legacy.Range.forIn_eq_forIn_range']
  simp only [Std.Legacy.Range.size, Nat.sub_zero, Nat.add_sub_cancel, Nat.div_one]
  rw [run_eq_loop n hn hm isa heq n 0 (by omega), List.range_eq_range']
  simp only [Result.andThen_ok]
  cases (List.range' 0 n 1).all eqs <;> simp

theorem isAgg_int {e : TypeId} {k : IntKind} (he : P.underlying e = some (.int k)) : (isAgg e).run P w = .ok false w := by
  simp [isAgg, run_underlying he]

theorem run_equal_kind {t e : TypeId} {k : IntKind} {l m : List Int} {n : Nat} (ht : P.underlying t = some (.array n e)) (he : P.underlying e = some (.int k)) (hs : (P.info? e).map (·.size) = some 1)
    (hl : l.length = n) (hm : m.length = n) :
    (Op.equal t (.agg (l.map (Value.int k)).toArray) (.agg (m.map (Value.int k)).toArray)).run P w = .ok (decide (l = m)) w := by
  unfold Op.equal Op.maxDepth
  rw [run_equalIn_array (eqs := fun i => l.getD i 0 == m.getD i 0) n ht hs (by simp [hl]) (by simp [hm]) (isAgg_int he) ?_]
  · congr 1
    rw [Bool.eq_iff_iff]
    simp only [List.all_eq_true, List.mem_range, beq_iff_eq, decide_eq_true_eq]
    constructor
    · intro h
      apply List.ext_getElem (by omega)
      intro i h1 h2
      have := h i (by omega)
      simpa [h1, h2] using this
    · rintro rfl i _; rfl
  · intro i h
    rw [Op.equalIn]
    simp only [Sem.run_bind, run_underlying he, Result.andThen_ok, List.getElem_map, if_true, Sem.run_pure]
    congr 1
    rw [Bool.eq_iff_iff]
    simp [show i < l.length by omega, show i < m.length by omega]
theorem map_inj_iff {α β : Type} {f : α → β} (hf : ∀ a b, f a = f b → a = b) : ∀ {l m : List α}, l.map f = m.map f ↔ l = m
  | [], [] => by simp
  | [], _ :: _ => by simp
  | _ :: _, [] => by simp
  | a :: l, b :: m => by
    simp only [List.map_cons, List.cons.injEq, map_inj_iff hf (l := l) (m := m)]
    exact ⟨fun ⟨h1, h2⟩ => ⟨hf _ _ h1, h2⟩, fun ⟨h1, h2⟩ => ⟨by rw [h1], h2⟩⟩
theorem run_arrEq {ty : Nat → Ty} (hT : TyOK P ty) {t e : TypeId} {n s : Nat} {z : Cont} (htt : ty t = .arr n e s z) {x y : Cont} {K : Bool → Prop} (h : arrEqS ty n e x y K) :
    ∃ b k, K b ∧ x.flat = true ∧ y.flat = true ∧ P.underlying e = some (.int k) ∧ ∀ w, (Op.equal t (.agg x.vals.toArray) (.agg y.vals.toArray)).run P w = .ok b w := by
  obtain ⟨hu, hes, _⟩ := hT.arr t n e s z htt
  have hse : ∀ k, ty e = .int k → (P.info? e).map (·.size) = some 1 := fun k he => by have := hT.size e (by rw [he]; simp); rw [he] at this; exact this
  unfold arrEqS at h
  split at h
  · rename_i l m
    obtain ⟨he, h1, h2, h⟩ := h
    refine ⟨_, _, h, rfl, rfl, hT.int _ _ he, fun w => ?_⟩
    have := run_equal_kind (P := P) (w := w) (l := l.map fun x => (x.toNat : Int)) (m := m.map fun x => (x.toNat : Int)) hu (hT.int _ _ he) (hse _ he) (by simpa using h1) (by simpa using h2)
    simp only [map_inj_iff (f := fun x : UInt8 => (x.toNat : Int)) (fun a b e => UInt8.toNat_inj.1 (by exact_mod_cast e)), List.map_map] at this
    simp only [Cont.vals, Cont.list, List.map_map]
    exact this
  · rename_i l m
    obtain ⟨he, h1, h2, h⟩ := h
    refine ⟨_, _, h, rfl, rfl, hT.int _ _ he, fun w => ?_⟩
    have := run_equal_kind (P := P) (w := w) (l := l.map fun x => (x.toNat : Int)) (m := m.map fun x => (x.toNat : Int)) hu (hT.int _ _ he) (hse _ he) (by simpa using h1) (by simpa using h2)
    simp only [map_inj_iff (f := fun x : UInt32 => (x.toNat : Int)) (fun a b e => UInt32.toNat_inj.1 (by exact_mod_cast e)), List.map_map] at this
    simp only [Cont.vals, Cont.list, List.map_map]
    exact this
  · rename_i l m
    obtain ⟨he, h1, h2, h⟩ := h
    refine ⟨_, _, h, rfl, rfl, hT.int _ _ he, fun w => ?_⟩
    have := run_equal_kind (P := P) (w := w) (l := l.map fun x => (x.toNat : Int)) (m := m.map fun x => (x.toNat : Int)) hu (hT.int _ _ he) (hse _ he) (by simpa using h1) (by simpa using h2)
    simp only [map_inj_iff (f := fun x : UInt64 => (x.toNat : Int)) (fun a b e => UInt64.toNat_inj.1 (by exact_mod_cast e)), List.map_map] at this
    simp only [Cont.vals, Cont.list, List.map_map]
    exact this
  · rename_i k l k' m
    obtain ⟨rfl, he, h1, h2, h⟩ := h
    refine ⟨_, _, h, rfl, rfl, hT.int _ _ he, fun w => ?_⟩
    have := run_equal_kind (P := P) (w := w) (l := l) (m := m) hu (hT.int _ _ he) (hse _ he) h1 h2
    simp only [Cont.vals, Cont.list, List.map_map]
    exact this
  · exact h.elim

theorem eqGuard_array {n : Nat} {t e : TypeId} {k : IntKind} {op : BinOp} {x y : Operand} {a b : Array Value} (ht : P.underlying t = some (.array n e)) (he : P.underlying e = some (.int k)) :
    (eqGuard op t x y (.agg a) (.agg b)).run P w = .ok () w := by
  have h : P.eqGuardType P.depth t = false := by
    unfold Program.depth
    simp only [Program.eqGuardType, ht, he]
  cases op <;> simp [eqGuard, h]

/-! ### binary operations -/

theorem eqGuard_other {op : BinOp} {t : TypeId} {x y : Operand} {a b : Value} (h1 : a ≠ .nilIface) (h2 : ∀ c, a ≠ .agg c) : (eqGuard op t x y a b).run P w = .ok () w := by
  cases op <;> cases a <;> simp [eqGuard] at h1 h2 ⊢

theorem run_guarded {op : BinOp} {t : TypeId} {x y : Operand} {a b : Value} {r : Result Value} (hg : (eqGuard op t x y a b).run P w = .ok () w) (h : (binOp op t a b).run P w = r) :
    (do eqGuard op t x y a b; binOp op t a b : Sem Value).run P w = r := by
  simp only [Sem.run_bind, hg, Result.andThen_ok, h]

theorem binS_flat {ty : Nat → Ty} {op : BinOp} {t : TypeId} {a b : SV} {K : SV → Prop} (h : binS ty op t a b K) : a.flat = true ∧ b.flat = true := by
  unfold binS at h
  split at h
  · exact ⟨rfl, rfl⟩
  · exact ⟨rfl, rfl⟩
  · exact ⟨rfl, rfl⟩
  · exact ⟨rfl, rfl⟩
  · exact ⟨rfl, rfl⟩
  · exact ⟨rfl, rfl⟩
  · split at h
    · cases op <;> simp only [arrS] at h <;> first | exact h.elim | skip
      all_goals
        unfold arrEqS at h
        split at h <;> first | exact ⟨rfl, rfl⟩ | exact h.elim
    · exact h.elim
  · exact h.elim
theorem shiftS_flat {left : Bool} {x : SV} {n : Int} {K : SV → Prop} (h : shiftS left x n K) : x.flat = true := by
  obtain ⟨_, h⟩ := h
  split at h <;> first | rfl | exact h.elim
theorem amount_flat {x : SV} {K : Int → Prop} (h : amount x K) : x.flat = true := by
  unfold amount at h
  split at h <;> first | rfl | exact h.elim
theorem convS_flat {k : IntKind} {x : SV} {K : SV → Prop} (h : convS k x K) : x.flat = true := by
  unfold convS at h
  split at h <;> first | rfl | exact h.elim

theorem run_binS {ty : Nat → Ty} (hT : TyOK P ty) {op : BinOp} {t : TypeId} {a b : SV} {K : SV → Prop} {x y : Operand} (hs : op ≠ .shl) (hr : op ≠ .shr) (h : binS ty op t a b K) :
    ∃ c : Cell, K (.c c) ∧ c.flat = true ∧ ∀ (w : World), (do eqGuard op t x y a.val b.val; binOp op t a.val b.val : Sem Value).run P w = .ok (c.val) w := by
  unfold binS at h
  split at h
  · obtain ⟨rfl, h⟩ := h
    obtain ⟨c, hc, hb, hrun⟩ := run_intBin (P := P) (t := t) hs hr h
    exact ⟨c, hc, hb, fun w => run_guarded (eqGuard_other (by simp [SV.val, Cell.val]) (by simp [SV.val, Cell.val])) (hrun w)⟩
  · obtain ⟨c, hc, hb, hrun⟩ := run_u8Bin (P := P) (t := t) hs hr h
    exact ⟨c, hc, hb, fun w => run_guarded (eqGuard_other (by simp [SV.val, Cell.val]) (by simp [SV.val, Cell.val])) (hrun w)⟩
  · obtain ⟨c, hc, hb, hrun⟩ := run_u32Bin (P := P) (t := t) hs hr h
    exact ⟨c, hc, hb, fun w => run_guarded (eqGuard_other (by simp [SV.val, Cell.val]) (by simp [SV.val, Cell.val])) (hrun w)⟩
  · obtain ⟨c, hc, hb, hrun⟩ := run_u64Bin (P := P) (t := t) hs hr h
    exact ⟨c, hc, hb, fun w => run_guarded (eqGuard_other (by simp [SV.val, Cell.val]) (by simp [SV.val, Cell.val])) (hrun w)⟩
  · rename_i x y
    have e : ((⟨x.toArray⟩ : ByteArray).toList == (⟨y.toArray⟩ : ByteArray).toList) = decide (x = y) := by
      rw [ByteArray.toList_eq, ByteArray.toList_eq, Bool.eq_iff_iff]; simp
    cases op <;> simp only [strS] at h <;> try (exact h.elim)
    · exact ⟨_, h.2, rfl, fun w => run_guarded (eqGuard_other (by simp [SV.val, Cell.val]) (by simp [SV.val, Cell.val])) (by
        have hs1 : (⟨x.toArray⟩ : ByteArray).size = x.length := by simp [ByteArray.size]
        have hs2 : (⟨y.toArray⟩ : ByteArray).size = y.length := by simp [ByteArray.size]
        have hle := h.1
        simp only [SV.val, Cell.val, binOp, Op.stringOp, hs1, hs2]
        have hm : IntKind.i64.max = 9223372036854775807 := by decide
        rw [if_neg (by rw [hm]; omega)]
        simp only [Sem.run_pure]
        congr 2)⟩
    · exact ⟨_, h, rfl, fun w => run_guarded (eqGuard_other (by simp [SV.val, Cell.val]) (by simp [SV.val, Cell.val])) (by simp only [SV.val, Cell.val, binOp, Op.stringOp, e, Sem.run_pure])⟩
    · exact ⟨_, h, rfl, fun w => run_guarded (eqGuard_other (by simp [SV.val, Cell.val]) (by simp [SV.val, Cell.val])) (by simp only [SV.val, Cell.val, binOp, Op.stringOp, e, Sem.run_pure])⟩
  · rename_i x y
    obtain ⟨ht, h⟩ := h
    have hu := hT.bool t ht
    have e : (x == y) = decide (x = y) := by cases x <;> cases y <;> rfl
    cases op <;> simp only [boolS] at h <;> try (exact h.elim)
    · exact ⟨_, h, rfl, fun w => run_guarded (eqGuard_other (by simp [SV.val, Cell.val]) (by simp [SV.val, Cell.val])) (by simp [SV.val, Cell.val, binOp, run_equal_bool w t x y hu, e])⟩
    · exact ⟨_, h, rfl, fun w => run_guarded (eqGuard_other (by simp [SV.val, Cell.val]) (by simp [SV.val, Cell.val])) (by simp [SV.val, Cell.val, binOp, run_equal_bool w t x y hu, e])⟩
  · rename_i x y
    split at h
    · rename_i n e s z ht
      obtain ⟨hu, hes, _⟩ := hT.arr t n e s z ht
      cases op <;> simp only [arrS] at h <;> try (exact h.elim)
      · obtain ⟨b, k, hK, _, _, hie, hrun⟩ := run_arrEq hT ht h
        exact ⟨_, hK, rfl, fun w => run_guarded (eqGuard_array hu hie) (by simp only [SV.val, binOp, Sem.run_bind, hrun]; rfl)⟩
      · obtain ⟨b, k, hK, _, _, hie, hrun⟩ := run_arrEq hT ht h
        exact ⟨_, hK, rfl, fun w => run_guarded (eqGuard_array hu hie) (by simp only [SV.val, binOp, Sem.run_bind, hrun]; rfl)⟩
    · exact h.elim
  · exact h.elim

theorem run_convS {k : IntKind} {x : SV} {K : SV → Prop} {src dst : TypeId} {d : TypeDesc} (hsrc : P.underlying src = some d) (hd : P.underlying dst = some (.int k)) (h : convS k x K) :
    ∃ c : Cell, K (.c c) ∧ c.flat = true ∧ ∀ (w : World), (convert src dst x.val).run P w = .ok (c.val) w := by
  have key : ∀ (k' : IntKind) (n m : Int) (w : World), k.wrap n = m → (convert src dst (.int k' n)).run P w = .ok (.int k m) w := by
    rintro k' n m w rfl
    simp [convert, run_underlying hsrc, run_underlying hd, Conv.intToInt]
  unfold convS at h
  split at h
  · rename_i x
    have hx := u8_lt x
    split at h
    · exact ⟨_, h, rfl, fun w => key _ _ _ w (by rw [IntKind.wrap_u8]; omega)⟩
    · exact ⟨_, h, rfl, fun w => key _ _ _ w (by rw [IntKind.wrap_u32, UInt8.toNat_toUInt32]; omega)⟩
    · exact ⟨_, h, rfl, fun w => key _ _ _ w (by rw [IntKind.wrap_u64, UInt8.toNat_toUInt64]; omega)⟩
    · exact ⟨_, h, rfl, fun w => key _ _ _ w (by rw [IntKind.wrap_i64]; omega)⟩
    · exact h.elim
  · rename_i x
    have hx := u32_lt x
    split at h
    · exact ⟨_, h, rfl, fun w => key _ _ _ w (by rw [IntKind.wrap_u8, UInt32.toNat_toUInt8]; omega)⟩
    · exact ⟨_, h, rfl, fun w => key _ _ _ w (by rw [IntKind.wrap_u32]; omega)⟩
    · exact ⟨_, h, rfl, fun w => key _ _ _ w (by rw [IntKind.wrap_u64, UInt32.toNat_toUInt64]; omega)⟩
    · exact ⟨_, h, rfl, fun w => key _ _ _ w (by rw [IntKind.wrap_i64]; omega)⟩
    · exact h.elim
  · rename_i x
    have hx := u64_lt x
    split at h
    · exact ⟨_, h, rfl, fun w => key _ _ _ w (by rw [IntKind.wrap_u8, UInt64.toNat_toUInt8]; omega)⟩
    · exact ⟨_, h, rfl, fun w => key _ _ _ w (by rw [IntKind.wrap_u32, UInt64.toNat_toUInt32]; omega)⟩
    · exact ⟨_, h, rfl, fun w => key _ _ _ w (by rw [IntKind.wrap_u64]; omega)⟩
    · exact ⟨_, h.2, rfl, fun w => key _ _ _ w (wrap_in h.1)⟩
    · exact h.elim
  · rename_i k' x
    split at h
    · exact ⟨_, h, rfl, fun w => key _ _ _ w (by rw [IntKind.wrap_u8]; simp [UInt8.ofInt]; omega)⟩
    · exact ⟨_, h, rfl, fun w => key _ _ _ w (by rw [IntKind.wrap_u32]; simp [UInt32.ofInt]; omega)⟩
    · exact ⟨_, h, rfl, fun w => key _ _ _ w (by rw [IntKind.wrap_u64]; simp [UInt64.ofInt]; omega)⟩
    · exact ⟨_, h.2, rfl, fun w => key _ _ _ w (wrap_in h.1)⟩
  · exact h.elim
end Go.Ab
