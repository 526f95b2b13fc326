/- Part 3 of what the claims of this seat share: the walk's engine, the functions' contracts, plain mathematics (Sha0, Wo, Va, Vb, Vc, Vd, Ve, Vf, Vg, Vi, Vj, Vk, Vm, Vx, Vy, StM, StL, Sa, Sb, Sc). -/
import Derived.Test.YtnhmglhbhnhnhaaDoorPb
namespace Go.Proofs.YtnhmglhbhnhnhaaDoor.Sha
set_option linter.unusedVariables false

abbrev Bytes := List UInt8
abbrev Words := List UInt32

def rotr (x : UInt32) (n : Nat) : UInt32 := Ab.shr32 x n ||| Ab.shl32 x (32 - n)
def low (x : UInt32) : UInt32 := rotr x 7 ^^^ rotr x 18 ^^^ (Ab.shr32 x 3)
def high (x : UInt32) : UInt32 := rotr x 17 ^^^ rotr x 19 ^^^ (Ab.shr32 x 10)

def word (b : Bytes) (i : Nat) : UInt32 :=
  Ab.shl32 (b.getD (4 * i) 0).toUInt32 24 ||| Ab.shl32 (b.getD (4 * i + 1) 0).toUInt32 16 ||| Ab.shl32 (b.getD (4 * i + 2) 0).toUInt32 8 ||| (b.getD (4 * i + 3) 0).toUInt32

def next (b : Bytes) (s : Words) : UInt32 :=
  if s.length < 16 then word b s.length
  else s.getD (s.length - 16) 0 + low (s.getD (s.length - 15) 0) + s.getD (s.length - 7) 0 + high (s.getD (s.length - 2) 0)

def sched (b : Bytes) : Nat → Words
  | 0 => []
  | n + 1 => sched b n ++ [next b (sched b n)]

theorem sched_length (b : Bytes) : ∀ n, (sched b n).length = n
  | 0 => rfl
  | n + 1 => by simp [sched, sched_length b n]

def schedArr (b : Bytes) (n : Nat) : Words := sched b n ++ List.replicate (64 - n) 0

theorem schedArr_length (b : Bytes) (n : Nat) (h : n ≤ 64) : (schedArr b n).length = 64 := by
  simp [schedArr, sched_length]; omega

theorem schedArr_step (b : Bytes) (n : Nat) (h : n < 64) : (schedArr b n).set n (next b (sched b n)) = schedArr b (n + 1) := by
  have e : List.replicate (64 - n) (0 : UInt32) = 0 :: List.replicate (64 - (n + 1)) 0 := by
    rw [← List.replicate_succ]; congr 1; omega
  simp only [schedArr, sched, e]
  rw [List.set_append_right _ _ (by simp [sched_length])]
  simp [sched_length]

theorem schedArr_get (b : Bytes) (n j : Nat) (h : j < n) : (schedArr b n).getD j 0 = (sched b n).getD j 0 := by
  unfold schedArr
  rw [List.getD_eq_getElem?_getD, List.getElem?_append_left (by simp [sched_length]; omega), ← List.getD_eq_getElem?_getD]

theorem schedArr_full (b : Bytes) : schedArr b 64 = sched b 64 := by simp [schedArr]

def consts : Words := [0x428a2f98, 0x71374491, 0xb5c0fbcf, 0xe9b5dba5, 0x3956c25b, 0x59f111f1, 0x923f82a4, 0xab1c5ed5,
  0xd807aa98, 0x12835b01, 0x243185be, 0x550c7dc3, 0x72be5d74, 0x80deb1fe, 0x9bdc06a7, 0xc19bf174,
  0xe49b69c1, 0xefbe4786, 0x0fc19dc6, 0x240ca1cc, 0x2de92c6f, 0x4a7484aa, 0x5cb0a9dc, 0x76f988da,
  0x983e5152, 0xa831c66d, 0xb00327c8, 0xbf597fc7, 0xc6e00bf3, 0xd5a79147, 0x06ca6351, 0x14292967,
  0x27b70a85, 0x2e1b2138, 0x4d2c6dfc, 0x53380d13, 0x650a7354, 0x766a0abb, 0x81c2c92e, 0x92722c85,
  0xa2bfe8a1, 0xa81a664b, 0xc24b8b70, 0xc76c51a3, 0xd192e819, 0xd6990624, 0xf40e3585, 0x106aa070,
  0x19a4c116, 0x1e376c08, 0x2748774c, 0x34b0bcb5, 0x391c0cb3, 0x4ed8aa4a, 0x5b9cca4f, 0x682e6ff3,
  0x748f82ee, 0x78a5636f, 0x84c87814, 0x8cc70208, 0x90befffa, 0xa4506ceb, 0xbef9a3f7, 0xc67178f2]

def start : Words := [0x6a09e667, 0xbb67ae85, 0x3c6ef372, 0xa54ff53a, 0x510e527f, 0x9b05688c, 0x1f83d9ab, 0x5be0cd19]

def mixX (t : Words) (k w : UInt32) : UInt32 :=
  t.getD 7 0 + (rotr (t.getD 4 0) 6 ^^^ rotr (t.getD 4 0) 11 ^^^ rotr (t.getD 4 0) 25) + ((t.getD 4 0 &&& t.getD 5 0) ^^^ (~~~t.getD 4 0 &&& t.getD 6 0)) + k + w
def mixY (t : Words) : UInt32 :=
  (rotr (t.getD 0 0) 2 ^^^ rotr (t.getD 0 0) 13 ^^^ rotr (t.getD 0 0) 22) + ((t.getD 0 0 &&& t.getD 1 0) ^^^ (t.getD 0 0 &&& t.getD 2 0) ^^^ (t.getD 1 0 &&& t.getD 2 0))
def round (t : Words) (k w : UInt32) : Words :=
  [mixX t k w + mixY t, t.getD 0 0, t.getD 1 0, t.getD 2 0, t.getD 3 0 + mixX t k w, t.getD 4 0, t.getD 5 0, t.getD 6 0]

def rounds (ws : Words) (t : Words) : Nat → Words
  | 0 => t
  | n + 1 => round (rounds ws t n) (consts.getD n 0) (ws.getD n 0)

theorem rounds_length (ws t : Words) (h : t.length = 8) : ∀ n, (rounds ws t n).length = 8
  | 0 => h
  | _ + 1 => rfl

def addAll (t s : Words) : Words := List.zipWith (· + ·) t s
def compress (s : Words) (b : Bytes) : Words := addAll (rounds (sched b 64) s 64) s
theorem compress_length (s : Words) (b : Bytes) (h : s.length = 8) : (compress s b).length = 8 := by
  simp [compress, addAll, rounds_length _ _ h, h]

def addTo (t s : Words) (n : Nat) : Words := (addAll t s).take n ++ t.drop n
theorem addTo_length (t s : Words) (n : Nat) (ht : t.length = 8) (hs : s.length = 8) : (addTo t s n).length = 8 := by
  simp [addTo, addAll, ht, hs]; omega
theorem addTo_step (t s : Words) (n : Nat) (ht : t.length = 8) (hs : s.length = 8) (h : n < 8) :
    (addTo t s n).set n (t.getD n 0 + s.getD n 0) = addTo t s (n + 1) := by
  match t, s, ht, hs with
  | [t0, t1, t2, t3, t4, t5, t6, t7], [s0, s1, s2, s3, s4, s5, s6, s7], _, _ =>
    rcases n with _|_|_|_|_|_|_|_|n <;> first | rfl | omega
theorem addTo_get (t s : Words) (n : Nat) (ht : t.length = 8) (hs : s.length = 8) (h : n < 8) : (addTo t s n).getD n 0 = t.getD n 0 := by
  match t, s, ht, hs with
  | [t0, t1, t2, t3, t4, t5, t6, t7], [s0, s1, s2, s3, s4, s5, s6, s7], _, _ =>
    rcases n with _|_|_|_|_|_|_|_|n <;> first | rfl | omega
theorem addTo_full (t s : Words) (ht : t.length = 8) (hs : s.length = 8) : addTo t s 8 = addAll t s := by
  match t, s, ht, hs with
  | [t0, t1, t2, t3, t4, t5, t6, t7], [s0, s1, s2, s3, s4, s5, s6, s7], _, _ => rfl

def zeros (n : Nat) : Nat := (119 - n % 64) % 64
def be64 (n : UInt64) : Bytes := (List.range 8).map fun i => (Ab.shr64 n (56 - 8 * i)).toUInt8
def pad (b : Bytes) : Bytes := b ++ [0x80] ++ List.replicate (zeros b.length) 0 ++ be64 (8 * b.length.toUInt64)

def fold (p : Bytes) : Nat → Words
  | 0 => start
  | n + 1 => compress (fold p n) ((p.drop (64 * n)).take 64)
theorem fold_length (p : Bytes) : ∀ n, (fold p n).length = 8
  | 0 => rfl
  | n + 1 => compress_length _ _ (fold_length p n)

def out (s : Words) : Bytes := (List.range 32).map fun i => (Ab.shr32 (s.getD (i / 4) 0) (24 - 8 * (i % 4))).toUInt8
theorem out_length (s : Words) : (out s).length = 32 := by simp [out]

def sum (b : Bytes) : Bytes := out (fold (pad b) ((pad b).length / 64))
theorem sum_length (b : Bytes) : (sum b).length = 32 := out_length _

end Go.Proofs.YtnhmglhbhnhnhaaDoor.Sha

namespace Go.Proofs.YtnhmglhbhnhnhaaDoor
set_option linter.unusedVariables false
open Go.Ab
theorem add_or32 (x y : UInt32) (h : ∀ i, i < 32 → x.toBitVec.getLsbD i = true → y.toBitVec.getLsbD i = true → False) : x + y = x ||| y := by
  apply UInt32.toBitVec_inj.1
  rw [UInt32.toBitVec_add, UInt32.toBitVec_or]
  apply BitVec.add_eq_or_of_and_eq_zero
  apply BitVec.eq_of_getLsbD_eq
  intro i hi
  rw [BitVec.getLsbD_and]
  cases hx : x.toBitVec.getLsbD i <;> cases hy : y.toBitVec.getLsbD i <;> simp
  exact (h i hi hx hy).elim
theorem bit0 (x : UInt8) (i : Nat) (hi : i < 32) : x.toUInt32.toBitVec.getLsbD i = true → i < 8 := by
  intro h
  rcases Nat.lt_or_ge i 8 with h8 | h8
  · exact h8
  · simp at h
    have := BitVec.getLsbD_of_ge x.toBitVec i h8
    simp_all
theorem bit8 (x : UInt8) (i : Nat) (hi : i < 32) : (shl32 x.toUInt32 8).toBitVec.getLsbD i = true → 8 ≤ i ∧ i < 16 := by
  intro h
  simp [shl32] at h
  refine ⟨h.1.2, ?_⟩
  rcases Nat.lt_or_ge (i - 8) 8 with h8 | h8
  · omega
  · have := BitVec.getLsbD_of_ge x.toBitVec (i - 8) h8
    simp_all
theorem bit16 (x : UInt8) (i : Nat) (hi : i < 32) : (shl32 x.toUInt32 16).toBitVec.getLsbD i = true → 16 ≤ i ∧ i < 24 := by
  intro h
  simp [shl32] at h
  refine ⟨h.1.2, ?_⟩
  rcases Nat.lt_or_ge (i - 16) 8 with h8 | h8
  · omega
  · have := BitVec.getLsbD_of_ge x.toBitVec (i - 16) h8
    simp_all
theorem bit24 (x : UInt8) (i : Nat) (hi : i < 32) : (shl32 x.toUInt32 24).toBitVec.getLsbD i = true → 24 ≤ i := by
  intro h
  simp [shl32] at h
  exact h.1.2
theorem bytes_word (a b c d : UInt8) : shl32 a.toUInt32 24 + shl32 b.toUInt32 16 + shl32 c.toUInt32 8 + d.toUInt32 = shl32 a.toUInt32 24 ||| shl32 b.toUInt32 16 ||| shl32 c.toUInt32 8 ||| d.toUInt32 := by
  have e1 : shl32 a.toUInt32 24 + shl32 b.toUInt32 16 = shl32 a.toUInt32 24 ||| shl32 b.toUInt32 16 := add_or32 _ _ fun i hi h1 h2 => by
    have := bit24 a i hi h1; have := bit16 b i hi h2; omega
  have e2 : (shl32 a.toUInt32 24 ||| shl32 b.toUInt32 16) + shl32 c.toUInt32 8 = shl32 a.toUInt32 24 ||| shl32 b.toUInt32 16 ||| shl32 c.toUInt32 8 := add_or32 _ _ fun i hi h1 h2 => by
    rw [UInt32.toBitVec_or, BitVec.getLsbD_or, Bool.or_eq_true] at h1
    have h3 := bit8 c i hi h2
    rcases h1 with h1 | h1
    · have := bit24 a i hi h1; omega
    · have := bit16 b i hi h1; omega
  have e3 : (shl32 a.toUInt32 24 ||| shl32 b.toUInt32 16 ||| shl32 c.toUInt32 8) + d.toUInt32 = shl32 a.toUInt32 24 ||| shl32 b.toUInt32 16 ||| shl32 c.toUInt32 8 ||| d.toUInt32 := add_or32 _ _ fun i hi h1 h2 => by
    rw [UInt32.toBitVec_or, BitVec.getLsbD_or, Bool.or_eq_true, UInt32.toBitVec_or, BitVec.getLsbD_or, Bool.or_eq_true] at h1
    have h3 := bit0 d i hi h2
    rcases h1 with (h1 | h1) | h1
    · have := bit24 a i hi h1; omega
    · have := bit16 b i hi h1; omega
    · have := bit8 c i hi h1; omega
  rw [e1, e2, e3]
theorem not_sub (x : UInt32) : 4294967295 - x = ~~~x := by
  apply UInt32.toBitVec_inj.1
  simp only [UInt32.toBitVec_sub, UInt32.toBitVec_not]
  have := BitVec.allOnes_sub_eq_not x.toBitVec
  exact this

theorem sched_lo (l : List UInt8) (k : Nat) (h : k < 16) : (Sha.schedArr l k).set k (shl32 (l.getD (4 * k) 0).toUInt32 24 + shl32 (l.getD (4 * k + 1) 0).toUInt32 16 + shl32 (l.getD (4 * k + 2) 0).toUInt32 8 + (l.getD (4 * k + 3) 0).toUInt32) = Sha.schedArr l (k + 1) := by
  rw [← Sha.schedArr_step l k (by omega), Sha.next, if_pos (by rw [Sha.sched_length]; exact h), bytes_word, Sha.word, Sha.sched_length]
theorem sched_hi (l : List UInt8) (k : Nat) (h : 16 ≤ k) (h64 : k < 64) : (Sha.schedArr l k).set k ((Sha.schedArr l k).getD (k - 16) 0 + (Sha.rotr ((Sha.schedArr l k).getD (k - 15) 0) 7 ^^^ Sha.rotr ((Sha.schedArr l k).getD (k - 15) 0) 18 ^^^ shr32 ((Sha.schedArr l k).getD (k - 15) 0) 3) + (Sha.schedArr l k).getD (k - 7) 0 + (Sha.rotr ((Sha.schedArr l k).getD (k - 2) 0) 17 ^^^ Sha.rotr ((Sha.schedArr l k).getD (k - 2) 0) 19 ^^^ shr32 ((Sha.schedArr l k).getD (k - 2) 0) 10)) = Sha.schedArr l (k + 1) := by
  rw [← Sha.schedArr_step l k h64, Sha.next, if_neg (by rw [Sha.sched_length]; omega), Sha.low, Sha.high, Sha.sched_length]
  rw [Sha.schedArr_get l k _ (by omega), Sha.schedArr_get l k _ (by omega), Sha.schedArr_get l k _ (by omega), Sha.schedArr_get l k _ (by omega)]
end Go.Proofs.YtnhmglhbhnhnhaaDoor

namespace Go.Proofs.YtnhmglhbhnhnhaaDoor
set_option linter.unusedVariables false
open Go.Ab Go.RowKit


def gl : Nat → Option Cont := fun g => if g = 0 then some (.u32s Sha.consts) else none
noncomputable def g0 : Ctx := { P := Tryd.prog, ty := ty, glob := gl, fs := [] }
theorem g0_ok : g0.OK := ⟨tyOK, trivial, mixed⟩
@[simp] theorem g0_ty : g0.ty = ty := rfl

def rotateS : QSpec := fun vs K => match vs with
  | [.c (.u32 x), .c (.int .i64 k)] => (0 < k ∧ k < 32) ∧ K (.c (.u32 (Sha.rotr x k.toNat)))
  | _ => False
theorem rotate_ok : FlatOK Tryd.prog gl 66 rotateS := by
 refine flat_of (Γ := g0) (N := 13) Tryd.func66 rfl rfl fun vs K h => ?_
 unfold rotateS at h
 split at h
 ·rename_i x k
  obtain ⟨⟨h0, h1⟩, h⟩ := h
  refine ⟨_, h, rfl, by simp, fun w I => ?_⟩
  refine seq_k fun _ hK1 => ?_; refine region_k g0_ok fun _ hK2 => ?_
  refine sS1 ?_
  refine s_nil ?_; apply hK2; apply hK1; refine seq_k fun _ hK3 => ?_; refine quiet_k g0_ok (by kernel_rfl) fun _ hK4 => ?_
  iterate 2 refine qQ1 ?_
  refine qS fun _ hS => ?_; (repeat refine aI (by first | omega | exact trivial | rfl | (simp <;> omega)) ?_); apply hS; clear hS
  iterate 2 refine qQ1 ?_
  refine qS fun _ hS => ?_; (repeat refine aI (by first | omega | exact trivial | rfl | (simp <;> omega)) ?_); apply hS; clear hS
  refine qS fun _ hS => ?_; (repeat refine aI (by first | omega | exact trivial | rfl | (simp <;> omega)) ?_); apply hS; clear hS
  refine qS fun _ hS => ?_; (repeat refine aI (by first | omega | exact trivial | rfl | (simp <;> omega)) ?_); apply hS; clear hS
  refine qQ1 ?_
  refine q_nil ?_; apply hK4; apply hK3
  refine WP_ret (Done_flat g0_ok (fun _ _ h => h) (by first | rfl | assumption) [.tmp 4] rfl ?_)
  repeat refine aI (by first | omega | exact trivial | rfl | (simp <;> omega)) ?_
  try refine ite_yes (by first | omega | exact trivial | rfl | (simp <;> omega)) ?_
  show _ = _
  rw [Sha.rotr, show (32 - k).toNat = 32 - k.toNat by omega]
  rfl
 ·exact h.elim
def initialS : QSpec := fun vs K => match vs with
  | [] => K (.agg (.u32s Sha.start))
  | _ => False
theorem initial_ok : FlatOK Tryd.prog gl 59 initialS := by
 refine flat_of (Γ := g0) (N := 2) Tryd.func59 rfl rfl fun vs K h => ?_
 unfold initialS at h
 split at h
 ·refine ⟨_, h, rfl, by simp, fun w I => ?_⟩
  refine seq_k fun _ hK1 => ?_; refine region_k g0_ok fun _ hK2 => ?_
  refine sS fun _ hS => ?_; (repeat refine aI (by first | omega | exact trivial | rfl | (simp <;> omega)) ?_); apply hS; clear hS; refine s_nil ?_; apply hK2; apply hK1; refine seq_k fun _ hK3 => ?_; refine region_k g0_ok fun _ hK4 => ?_
  refine sS fun _ hS => ?_; (repeat refine aI (by first | omega | exact trivial | rfl | (simp <;> omega)) ?_); apply hS; clear hS
  refine sS0 fun _ hS => ?_; (repeat refine aI (by first | omega | exact trivial | rfl | (simp <;> omega)) ?_); (first | apply hS | (refine splice_full (by first | omega | exact trivial | rfl | (simp <;> omega)) ?_; apply hS)); clear hS; refine s_nil ?_; apply hK4; apply hK3
  refine WP_ret (Done_flat g0_ok (fun _ _ h => h) (by first | rfl | assumption) [.cell 0 97] rfl ?_)
  repeat refine aI (by first | omega | exact trivial | rfl | (simp <;> omega)) ?_
  try refine ite_yes (by first | omega | exact trivial | rfl | (simp <;> omega)) ?_
  show _ = _
  rfl
 ·exact h.elim

end Go.Proofs.YtnhmglhbhnhnhaaDoor

namespace Go.Proofs.YtnhmglhbhnhnhaaDoor
set_option linter.unusedVariables false
open Go.Ab Go.RowKit

theorem qVb0 {a : Prop} (h : a := by first | omega | exact trivial | rfl | (simp [hl] <;> omega)) : a := h
theorem qVb1 {a : Prop} (h : a := by first | omega | exact trivial | rfl | (simp [hl, hlen] <;> omega)) : a := h
theorem qVb2 {a : Prop} (h : a := by first | omega | exact trivial | rfl | (simp [hlen] <;> omega)) : a := h
theorem qVb3 {a : Prop} (h : a := by first | omega | exact trivial | rfl | (simp [hlen] <;> omega) | exact hlen.symm) : a := h
theorem uVb0 {a : Prop} (h : a := by
    repeat' (first | exact trivial | refine aI ?_ ?_ | rfl | omega | decide | exact Nat.lt_of_sub_pos (by decide))) : a := h
theorem uVb1 {a : Prop} (h : a := by
    repeat' (first | exact trivial | refine aI ?_ ?_ | rfl | omega | decide | exact Nat.lt_of_sub_pos (by decide))
    show (_ : List UInt32) = _
    simp only [Nat.zero_add, Nat.mul_one]
    exact e1) : a := h

noncomputable def g1 : Ctx := { P := Tryd.prog, ty := ty, glob := gl, fs := [(66, .flat rotateS)] }
theorem g1_ok : g1.OK := ⟨tyOK, ⟨⟨enters_mk Tryd.func66 (by kernel_rfl) rfl, rotate_ok⟩, trivial⟩, mixed⟩
@[simp] theorem g1_ty : g1.ty = ty := rfl

def scheduleS : QSpec := fun vs K => match vs with
  | [.c (.ds n (.u8s l))] => (n = 64 ∧ l.length = 64) ∧ K (.agg (.u32s (Sha.sched l 64)))
  | _ => False
set_option maxHeartbeats 1000000 in
theorem schedule_ok : FlatOK Tryd.prog gl 64 scheduleS := by
 refine flat_of (Γ := g1) (N := 87) Tryd.func64 rfl rfl fun vs K h => ?_
 unfold scheduleS at h
 split at h
 ·rename_i n l
  obtain ⟨⟨hn, hl⟩, h⟩ := h
  subst hn
  refine ⟨_, h, rfl, by simp, fun w I => ?_⟩
  refine seq_k fun _ hK1 => ?_; refine region_k g1_ok fun _ hK2 => ?_
  refine sS fun _ hS => ?_; (repeat refine aI qVb0 ?_); apply hS; clear hS; refine s_nil ?_; apply hK2; apply hK1; refine seq_k fun _ hK3 => ?_; refine region_k g1_ok fun _ hK4 => ?_
  refine sS fun _ hS => ?_; (repeat refine aI qVb0 ?_); apply hS; clear hS
  refine sS fun _ hS => ?_; (repeat refine aI qVb0 ?_); apply hS; clear hS
  refine sS0 fun _ hS => ?_; (repeat refine aI (by first | omega | exact trivial | rfl | (simp <;> omega)) ?_); (first | apply hS | (refine splice_full qVb0 ?_; apply hS)); clear hS; refine s_nil ?_; apply hK4; apply hK3; refine seq_k fun _ hK5 => ?_; refine seq_k fun _ hK6 => ?_; refine region_k g1_ok fun _ hK7 => ?_
  refine sS1 ?_
  refine s_nil ?_; apply hK7; apply hK6; refine WP_block ?_
  refine WP_loop (α := Nat) (fun k => [(0, .c (.ds 64 (.u8s l))), (2, .c (.ptr 0 0)), (3, .c (.ptr 1 0)), (4, .c (.int .i64 k))]) (fun k => [(0, .own 106 (.u32s (List.replicate 64 0)) 64), (1, .own 106 (.u32s (Sha.schedArr l k)) 64)]) 2 (fun k => k ≤ 64) (fun k => 64 - k) ?_ ?_
  ·refine dnS [] id 0 (Nat.zero_le _) [0, 1] ?_ ?_ ?_ ?_
   ·exact uVb0
   ·exact uVb0
   ·exact uVb0
   ·exact uVb0
  ·intro k hk
   have hlen : (Sha.schedArr l k).length = 64 := Sha.schedArr_length l k hk
   refine seq_k fun _ hK8 => ?_; refine seq_k fun _ hK9 => ?_; refine region_k g1_ok fun _ hK10 => ?_
   refine sS1 ?_
   refine sS fun _ hS => ?_; (repeat refine aI qVb1 ?_); apply hS; clear hS; refine s_nil ?_; apply hK10; apply hK9
   refine WP_cond (b := _) rfl (fun h_t9 => ?_) (fun h_t9 => ?_)
   ·try simp only [decide_eq_true_eq] at h_t9
    refine WP_skip ?_; apply hK8; refine seq_k fun _ hK11 => ?_; refine WP_block ?_; refine seq_k fun _ hK12 => ?_; refine region_k g1_ok fun _ hK13 => ?_
    refine sS1 ?_
    refine sS fun _ hS => ?_; (repeat refine aI qVb0 ?_); apply hS; clear hS; refine s_nil ?_; apply hK13; apply hK12
    refine WP_cond (b := _) rfl (fun h_t13 => ?_) (fun h_t13 => ?_)
    ·try simp only [decide_eq_true_eq] at h_t13
     have hk16 : k < 16 := by omega
     refine tail_k g1_ok 35 (by kernel_rfl) fun _ hK14 => ?_
     simp only [List.take_succ_cons, List.take_zero, List.drop_succ_cons, List.drop_zero]
     iterate 3 refine qQ1 ?_
     refine qS fun _ hS => ?_; (repeat refine aI (by first | omega | exact trivial | rfl | (simp <;> omega)) ?_); apply hS; clear hS
     refine qS fun _ hS => ?_; (repeat refine aI qVb0 ?_); apply hS; clear hS
     refine qS fun _ hS => ?_; (repeat refine aI qVb0 ?_); (first | apply hS | (refine ite_yes qVb1 ?_; apply hS)); clear hS
     refine qS fun _ hS => ?_; (repeat first | refine aI qVb1 ?_ | refine whole_yes qVb1 ?_ | refine whole_sub ?_); apply hS; clear hS
     refine qS fun _ hS => ?_; (repeat refine aI qVb1 ?_); apply hS; clear hS
     iterate 2 refine qQ1 ?_
     refine qS fun _ hS => ?_; (repeat refine aI (by first | omega | exact trivial | rfl | (simp <;> omega)) ?_); apply hS; clear hS
     refine qS fun _ hS => ?_; (repeat refine aI (by first | omega | exact trivial | rfl | (simp <;> omega)) ?_); apply hS; clear hS
     refine qS fun _ hS => ?_; (repeat refine aI qVb0 ?_); apply hS; clear hS
     refine qS fun _ hS => ?_; (repeat refine aI qVb0 ?_); (first | apply hS | (refine ite_yes qVb1 ?_; apply hS)); clear hS
     refine qS fun _ hS => ?_; (repeat first | refine aI qVb1 ?_ | refine whole_yes qVb1 ?_ | refine whole_sub ?_); apply hS; clear hS
     refine qS fun _ hS => ?_; (repeat refine aI qVb1 ?_); apply hS; clear hS
     refine qS fun _ hS => ?_; (repeat refine aI qVb1 ?_); apply hS; clear hS
     iterate 2 refine qQ1 ?_
     refine qS fun _ hS => ?_; (repeat refine aI (by first | omega | exact trivial | rfl | (simp <;> omega)) ?_); apply hS; clear hS
     refine qS fun _ hS => ?_; (repeat refine aI (by first | omega | exact trivial | rfl | (simp <;> omega)) ?_); apply hS; clear hS
     refine qS fun _ hS => ?_; (repeat refine aI qVb0 ?_); apply hS; clear hS
     refine qS fun _ hS => ?_; (repeat refine aI qVb0 ?_); (first | apply hS | (refine ite_yes qVb1 ?_; apply hS)); clear hS
     refine qS fun _ hS => ?_; (repeat first | refine aI qVb1 ?_ | refine whole_yes qVb1 ?_ | refine whole_sub ?_); apply hS; clear hS
     refine qS fun _ hS => ?_; (repeat refine aI qVb1 ?_); apply hS; clear hS
     refine qS fun _ hS => ?_; (repeat refine aI qVb1 ?_); apply hS; clear hS
     iterate 2 refine qQ1 ?_
     refine qS fun _ hS => ?_; (repeat refine aI (by first | omega | exact trivial | rfl | (simp <;> omega)) ?_); apply hS; clear hS
     refine qS fun _ hS => ?_; (repeat refine aI (by first | omega | exact trivial | rfl | (simp <;> omega)) ?_); apply hS; clear hS
     refine qS fun _ hS => ?_; (repeat refine aI qVb0 ?_); apply hS; clear hS
     refine qS fun _ hS => ?_; (repeat refine aI qVb0 ?_); (first | apply hS | (refine ite_yes qVb1 ?_; apply hS)); clear hS
     refine qS fun _ hS => ?_; (repeat first | refine aI qVb1 ?_ | refine whole_yes qVb1 ?_ | refine whole_sub ?_); apply hS; clear hS
     refine qS fun _ hS => ?_; (repeat refine aI qVb1 ?_); apply hS; clear hS
     refine qS fun _ hS => ?_; (repeat refine aI qVb2 ?_); apply hS; clear hS; refine q_nil ?_
     refine sS0 fun _ hS => ?_; (repeat refine aI qVb2 ?_); (first | apply hS | (refine splice_full qVb1 ?_; apply hS)); clear hS; refine s_nil ?_; apply hK14
     have e1 := sched_lo l k hk16
     refine done_block ?_; apply hK11; refine region_k g1_ok fun _ hK15 => ?_
     refine sS1 ?_
     refine sS fun _ hS => ?_; (repeat refine aI (by first | omega | exact trivial | rfl | (simp <;> omega)) ?_); apply hS; clear hS
     refine sS1 ?_
     refine s_nil ?_; apply hK15
     refine dnS [] id (k + 1) ⟨by omega, by omega⟩ [0, 1] ?_ ?_ ?_ ?_
     ·exact uVb0
     ·exact uVb1
     ·exact uVb0
     ·exact uVb0
    ·try simp only [decide_eq_false_iff_not, Int.not_lt] at h_t13
     refine seq_k fun _ hK16 => ?_
     have hk16 : 16 ≤ k := by omega
     refine quiet_k g1_ok (by kernel_rfl) fun _ hK17 => ?_
     refine qQ1 ?_
     refine qS fun _ hS => ?_; (repeat refine aI (by first | omega | exact trivial | rfl | (simp <;> omega)) ?_); apply hS; clear hS
     refine qS fun _ hS => ?_; (repeat refine aI qVb2 ?_); apply hS; clear hS
     refine qS fun _ hS => ?_; (repeat refine aI qVb2 ?_); (first | apply hS | (refine ite_yes qVb1 ?_; apply hS)); clear hS
     refine qQ1 ?_
     refine qS fun _ hS => ?_; (repeat refine aI (by first | omega | exact trivial | rfl | (simp <;> omega)) ?_); apply hS; clear hS
     refine qS fun _ hS => ?_; (repeat refine aI qVb2 ?_); apply hS; clear hS
     refine qS fun _ hS => ?_; (repeat refine aI qVb2 ?_); (first | apply hS | (refine ite_yes qVb1 ?_; apply hS)); clear hS
     iterate 2 refine qQ1 ?_
     refine q_nil ?_; apply hK17; apply hK16
     refine tail_k g1_ok 29 (by kernel_rfl) fun _ hK18 => ?_
     simp only [List.take_succ_cons, List.take_zero, List.drop_succ_cons, List.drop_zero]
     iterate 2 refine qQ1 ?_
     refine qS fun _ hS => ?_; (repeat refine aI (by first | omega | exact trivial | rfl | (simp <;> omega)) ?_); apply hS; clear hS
     refine qS fun _ hS => ?_; (repeat refine aI qVb2 ?_); apply hS; clear hS
     refine qS fun _ hS => ?_; (repeat refine aI qVb2 ?_); (first | apply hS | (refine ite_yes qVb1 ?_; apply hS)); clear hS
     refine qQ1 ?_
     refine qS fun _ hS => ?_; (repeat first | refine aI qVb1 ?_ | refine whole_yes qVb1 ?_ | refine whole_sub ?_); (first | apply hS | (intro cap6 hcap6; apply hS)); clear hS
     refine qQ1 ?_
     refine qS fun _ hS => ?_; (repeat first | refine aI qVb1 ?_ | refine whole_yes qVb1 ?_ | refine whole_sub ?_); (first | apply hS | (intro cap8 hcap8; apply hS)); clear hS
     refine qS fun _ hS => ?_; (repeat refine aI qVb1 ?_); apply hS; clear hS
     refine qQ1 ?_
     refine qS fun _ hS => ?_; (repeat refine aI qVb1 ?_); apply hS; clear hS
     refine qS fun _ hS => ?_; (repeat refine aI qVb1 ?_); apply hS; clear hS
     refine qS fun _ hS => ?_; (repeat refine aI qVb1 ?_); apply hS; clear hS
     refine qQ1 ?_
     refine qS fun _ hS => ?_; (repeat refine aI (by first | omega | exact trivial | rfl | (simp <;> omega)) ?_); apply hS; clear hS
     refine qS fun _ hS => ?_; (repeat refine aI qVb2 ?_); apply hS; clear hS
     refine qS fun _ hS => ?_; (repeat refine aI qVb2 ?_); (first | apply hS | (refine ite_yes qVb1 ?_; apply hS)); clear hS
     refine qS fun _ hS => ?_; (repeat refine aI qVb1 ?_); apply hS; clear hS
     refine qQ1 ?_
     refine qS fun _ hS => ?_; (repeat first | refine aI qVb1 ?_ | refine whole_yes qVb1 ?_ | refine whole_sub ?_); (first | apply hS | (intro cap20 hcap20; apply hS)); clear hS
     refine qQ1 ?_
     refine qS fun _ hS => ?_; (repeat first | refine aI qVb1 ?_ | refine whole_yes qVb1 ?_ | refine whole_sub ?_); (first | apply hS | (intro cap22 hcap22; apply hS)); clear hS
     refine qS fun _ hS => ?_; (repeat refine aI qVb1 ?_); apply hS; clear hS
     refine qQ1 ?_
     refine qS fun _ hS => ?_; (repeat refine aI qVb1 ?_); apply hS; clear hS
     refine qS fun _ hS => ?_; (repeat refine aI qVb1 ?_); apply hS; clear hS
     refine qS fun _ hS => ?_; (repeat refine aI qVb1 ?_); apply hS; clear hS
     refine qS fun _ hS => ?_; (repeat refine aI qVb2 ?_); apply hS; clear hS; refine q_nil ?_
     refine sS0 fun _ hS => ?_; (repeat refine aI qVb2 ?_); (first | apply hS | (refine splice_full qVb1 ?_; apply hS)); clear hS; refine s_nil ?_; apply hK18
     have e1 := sched_hi l k hk16 (by omega)
     rw [show k - 15 = ((k : Int) - 15).toNat by omega, show k - 2 = ((k : Int) - 2).toNat by omega, show k - 7 = ((k : Int) - 7).toNat by omega, show k - 16 = ((k : Int) - 16).toNat by omega] at e1
     refine done_block ?_; apply hK11; refine region_k g1_ok fun _ hK19 => ?_
     refine sS1 ?_
     refine sS fun _ hS => ?_; (repeat refine aI (by first | omega | exact trivial | rfl | (simp <;> omega)) ?_); apply hS; clear hS
     refine sS1 ?_
     refine s_nil ?_; apply hK19
     refine dnS [] id (k + 1) ⟨by omega, by omega⟩ [0, 1] ?_ ?_ ?_ ?_
     ·exact uVb0
     ·exact uVb1
     ·exact uVb0
     ·exact uVb0
   ·try simp only [decide_eq_false_iff_not, Int.not_lt] at h_t9
    refine WP_exit ?_; refine done_thenx ?_; refine done_thenx ?_
    refine Done_hit ?_
    apply hK5; refine seq_k fun _ hK20 => ?_; refine region_k g1_ok fun _ hK21 => ?_
    refine sS fun _ hS => ?_; (repeat refine aI qVb3 ?_); (first | apply hS | (refine ite_yes qVb3 ?_; apply hS)); clear hS
    refine sS0 fun _ hS => ?_; (repeat refine aI qVb3 ?_); (first | apply hS | (refine splice_full qVb3 ?_; apply hS)); clear hS; refine s_nil ?_; apply hK21; apply hK20
    refine WP_ret (Done_flat g1_ok (fun _ _ h => h) (by first | rfl | assumption) [.cell 2 106] rfl ?_)
    repeat refine aI qVb2 ?_
    try refine ite_yes qVb2 ?_
    obtain rfl : k = 64 := by omega
    show SV.agg (.u32s (Sha.schedArr l 64)) = _
    rw [Sha.schedArr_full]
 ·exact h.elim

end Go.Proofs.YtnhmglhbhnhnhaaDoor

namespace Go.Proofs.YtnhmglhbhnhnhaaDoor
set_option linter.unusedVariables false
open Go.Ab Go.RowKit

theorem qVc0 {a : Prop} (h : a := by first | omega | exact trivial | rfl | (simp [hl, hs, hws, hcs] <;> omega) | exact hs.symm | exact hws.symm | exact hcs.symm) : a := h
theorem qVc1 {a : Prop} (h : a := by first | omega | exact trivial | rfl | (simp [hws] <;> omega) | exact hs.symm | exact hws.symm | exact hcs.symm) : a := h
theorem qVc2 {a : Prop} (h : a := by first | omega | exact trivial | rfl | (simp [hcs] <;> omega) | exact hs.symm | exact hws.symm | exact hcs.symm) : a := h
theorem qVc3 {a : Prop} (h : a := by first | omega | exact trivial | rfl | (simp [hs] <;> omega) | exact hs.symm | exact hws.symm | exact hcs.symm) : a := h
theorem qVc4 {a : Prop} (h : a := by first | omega | exact trivial | rfl | (simp [hlen] <;> omega) | exact hs.symm | exact hws.symm | exact hcs.symm) : a := h
theorem qVc5 {a : Prop} (h : a := by first | omega | exact trivial | rfl | (simp [hl, hs, hws, hcs, hlen] <;> omega) | exact hs.symm | exact hws.symm | exact hcs.symm) : a := h
theorem qVc6 {a : Prop} (h : a := by first | omega | exact trivial | rfl | (simp [hlen] <;> omega) | exact hlen.symm) : a := h
theorem uVc0 {a : Prop} (h : a := by
    repeat' (first | exact trivial | refine aI ?_ ?_ | rfl | omega | decide | exact Nat.lt_of_sub_pos (by decide))) : a := h

def constantsS : QSpec := fun vs K => match vs with
  | [] => K (.agg (.u32s Sha.consts))
  | _ => False
theorem constants_ok : FlatOK Tryd.prog gl 65 constantsS := by
 refine flat_of (Γ := g0) (N := 2) Tryd.func65 rfl rfl fun vs K h => ?_
 unfold constantsS at h
 split at h
 ·refine ⟨_, h, rfl, by simp, fun w I => ?_⟩
  refine seq_k fun _ hK1 => ?_; refine region_k g0_ok fun _ hK2 => ?_
  refine sS fun _ hS => ?_; (repeat refine aI (by first | omega | exact trivial | rfl | (simp <;> omega)) ?_); apply hS; clear hS; refine s_nil ?_; apply hK2; apply hK1; refine seq_k fun _ hK3 => ?_; refine region_k g0_ok fun _ hK4 => ?_
  refine sS fun _ hS => ?_; (repeat refine aI (by first | omega | exact trivial | rfl | (simp <;> omega)) ?_); apply hS; clear hS
  refine sS0 fun _ hS => ?_; (repeat refine aI (by first | omega | exact trivial | rfl | (simp <;> omega)) ?_); (first | apply hS | (refine splice_full (by first | omega | exact trivial | rfl | (simp <;> omega)) ?_; apply hS)); clear hS; refine s_nil ?_; apply hK4; apply hK3
  refine WP_ret (Done_flat g0_ok (fun _ _ h => h) (by first | rfl | assumption) [.cell 0 106] rfl ?_)
  repeat refine aI (by first | omega | exact trivial | rfl | (simp <;> omega)) ?_
  try refine ite_yes (by first | omega | exact trivial | rfl | (simp <;> omega)) ?_
  show _ = _
  rfl
 ·exact h.elim
theorem consts_length : Sha.consts.length = 64 := rfl

noncomputable def g2 : Ctx := { P := Tryd.prog, ty := ty, glob := gl, fs := [(66, .flat rotateS), (64, .flat scheduleS), (65, .flat constantsS)] }
theorem g2_ok : g2.OK := ⟨tyOK, ⟨⟨enters_mk Tryd.func66 (by kernel_rfl) rfl, rotate_ok⟩, ⟨enters_mk Tryd.func64 (by kernel_rfl) rfl, schedule_ok⟩, ⟨enters_mk Tryd.func65 (by kernel_rfl) rfl, constants_ok⟩, trivial⟩, mixed⟩
@[simp] theorem g2_ty : g2.ty = ty := rfl


attribute [local irreducible] Sha.sched Sha.consts Sha.rounds Sha.addTo Sha.schedArr Sha.compress Sha.rotr
def compressRS : QSpec := fun vs K => match vs with
  | [.agg (.u32s s), .c (.ds n (.u8s l))] => (n = 64 ∧ l.length = 64 ∧ s.length = 8) ∧ K (.agg (.u32s (Sha.compress s l)))
  | _ => False
set_option maxHeartbeats 2000000 in
theorem compressR_ok : FlatOK Tryd.prog gl 61 compressRS := by
 refine flat_of (Γ := g2) (N := 114) Tryd.func61 rfl rfl fun vs K h => ?_
 unfold compressRS at h
 split at h
 ·rename_i s n l
  obtain ⟨⟨hn, hl, hs⟩, h⟩ := h
  subst hn
  refine ⟨_, h, rfl, by simp, fun w I => ?_⟩
  rw [Sha.compress]
  have hws : (Sha.sched l 64).length = 64 := Sha.sched_length l 64
  have hcs := consts_length
  refine seq_k fun _ hK1 => ?_; refine region_k g2_ok fun _ hK2 => ?_
  refine sS fun _ hS => ?_; (repeat refine aI qVc0 ?_); apply hS; clear hS
  refine sS fun _ hS => ?_; (repeat refine aI qVc0 ?_); apply hS; clear hS; refine s_nil ?_; apply hK2; apply hK1; refine seq_k fun _ hK3 => ?_; refine region_k g2_ok fun _ hK4 => ?_
  refine sS1 ?_
  refine sS fun _ hS => ?_; (repeat first | refine aI qVc0 ?_ | refine whole_yes qVc0 ?_ | refine whole_sub ?_); (first | apply hS | (intro cap1 hcap1; apply hS)); clear hS
  refine sS fun _ hS => ?_; (repeat first | refine aI qVc0 ?_ | refine whole_yes qVc0 ?_ | refine whole_sub ?_); (first | apply hS | (intro cap2 hcap2; apply hS)); clear hS
  refine sS fun _ hS => ?_; (repeat refine aI qVc0 ?_); apply hS; clear hS
  refine sS fun _ hS => ?_; (repeat refine aI qVc0 ?_); apply hS; clear hS
  refine sS0 fun _ hS => ?_; (repeat refine aI qVc1 ?_); (first | apply hS | (refine splice_full qVc1 ?_; apply hS)); clear hS
  refine sS0 fun _ hS => ?_; (repeat refine aI qVc2 ?_); (first | apply hS | (refine splice_full qVc2 ?_; apply hS)); clear hS; refine s_nil ?_; apply hK4; apply hK3; refine seq_k fun _ hK5 => ?_; refine region_k g2_ok fun _ hK6 => ?_
  refine sS fun _ hS => ?_; (repeat refine aI qVc3 ?_); (first | apply hS | (refine ite_yes qVc3 ?_; apply hS)); clear hS
  refine sS fun _ hS => ?_; (repeat refine aI qVc0 ?_); apply hS; clear hS
  refine sS0 fun _ hS => ?_; (repeat refine aI qVc3 ?_); (first | apply hS | (refine splice_full qVc3 ?_; apply hS)); clear hS; refine s_nil ?_; apply hK6; apply hK5; refine seq_k fun _ hK7 => ?_; refine seq_k fun _ hK8 => ?_; refine region_k g2_ok fun _ hK9 => ?_
  refine sS1 ?_
  refine s_nil ?_; apply hK9; apply hK8; refine WP_block ?_
  refine WP_loop (α := Nat) (fun k => [(2, .c (.ptr 0 0)), (4, .c (.ptr 1 0)), (5, .c (.ptr 2 0)), (6, .c (.ptr 3 0)), (7, .c (.ptr 4 0)), (8, .c (.int .i64 k))]) (fun k => [(0, .own 97 (.u32s s) 8), (1, .own 97 (.u32s (List.replicate 8 0)) 8), (2, .own 106 (.u32s (Sha.sched l 64)) 64), (3, .own 106 (.u32s Sha.consts) 64), (4, .own 97 (.u32s (Sha.rounds (Sha.sched l 64) s k)) 8)]) 5 (fun k => k ≤ 64) (fun k => 64 - k) ?_ ?_
  ·refine dnS [] id 0 (Nat.zero_le _) [0, 1, 2, 3, 4] ?_ ?_ ?_ ?_
   ·exact uVc0
   ·repeat' (first | exact trivial | refine aI ?_ ?_ | rfl | omega | decide | exact Nat.lt_of_sub_pos (by decide))
    ·exact hs
    ·show (_ : List UInt32) = _
     simp only [Sha.rounds]
   ·exact uVc0
   ·exact uVc0
  ·intro k hk
   have hlen : (Sha.rounds (Sha.sched l 64) s k).length = 8 := Sha.rounds_length (Sha.sched l 64) s hs k
   refine seq_k fun _ hK10 => ?_; refine seq_k fun _ hK11 => ?_; refine region_k g2_ok fun _ hK12 => ?_
   refine sS1 ?_
   refine sS fun _ hS => ?_; (repeat refine aI qVc0 ?_); apply hS; clear hS; refine s_nil ?_; apply hK12; apply hK11
   refine WP_cond (b := _) rfl (fun h_t19 => ?_) (fun h_t19 => ?_)
   ·try simp only [decide_eq_true_eq] at h_t19
    refine WP_skip ?_; apply hK10; refine seq_k fun _ hK13 => ?_; refine WP_block ?_; refine seq_k fun _ hK14 => ?_; refine quiet_k g2_ok (by kernel_rfl) fun _ hK15 => ?_
    refine qS fun _ hS => ?_; (repeat refine aI qVc4 ?_); apply hS; clear hS
    refine qS fun _ hS => ?_; (repeat refine aI qVc4 ?_); (first | apply hS | (refine ite_yes qVc5 ?_; apply hS)); clear hS
    refine qS fun _ hS => ?_; (repeat refine aI qVc4 ?_); apply hS; clear hS
    refine qS fun _ hS => ?_; (repeat refine aI qVc4 ?_); (first | apply hS | (refine ite_yes qVc5 ?_; apply hS)); clear hS
    iterate 2 refine qQ1 ?_
    refine q_nil ?_; apply hK15; apply hK14; refine seq_k fun _ hK16 => ?_; refine quiet_k g2_ok (by kernel_rfl) fun _ hK17 => ?_
    refine qS fun _ hS => ?_; (repeat refine aI qVc4 ?_); apply hS; clear hS
    refine qS fun _ hS => ?_; (repeat refine aI qVc4 ?_); (first | apply hS | (refine ite_yes qVc5 ?_; apply hS)); clear hS
    refine qQ1 ?_
    refine qS fun _ hS => ?_; (repeat first | refine aI qVc5 ?_ | refine whole_yes qVc5 ?_ | refine whole_sub ?_); (first | apply hS | (intro cap3 hcap3; apply hS)); clear hS
    refine qQ1 ?_
    refine qS fun _ hS => ?_; (repeat first | refine aI qVc5 ?_ | refine whole_yes qVc5 ?_ | refine whole_sub ?_); (first | apply hS | (intro cap5 hcap5; apply hS)); clear hS
    refine qS fun _ hS => ?_; (repeat refine aI qVc5 ?_); apply hS; clear hS
    refine qQ1 ?_
    refine qS fun _ hS => ?_; (repeat first | refine aI qVc5 ?_ | refine whole_yes qVc5 ?_ | refine whole_sub ?_); (first | apply hS | (intro cap8 hcap8; apply hS)); clear hS
    refine qS fun _ hS => ?_; (repeat refine aI qVc5 ?_); apply hS; clear hS
    refine qS fun _ hS => ?_; (repeat refine aI qVc5 ?_); apply hS; clear hS
    refine qQ1 ?_
    refine qS fun _ hS => ?_; (repeat refine aI qVc4 ?_); apply hS; clear hS
    refine qS fun _ hS => ?_; (repeat refine aI qVc4 ?_); (first | apply hS | (refine ite_yes qVc5 ?_; apply hS)); clear hS
    refine qS fun _ hS => ?_; (repeat refine aI qVc5 ?_); apply hS; clear hS
    refine qQ1 ?_
    refine qS fun _ hS => ?_; (repeat refine aI qVc5 ?_); apply hS; clear hS
    refine qS fun _ hS => ?_; (repeat refine aI qVc4 ?_); apply hS; clear hS
    refine qS fun _ hS => ?_; (repeat refine aI qVc4 ?_); (first | apply hS | (refine ite_yes qVc5 ?_; apply hS)); clear hS
    refine qS fun _ hS => ?_; (repeat refine aI qVc5 ?_); apply hS; clear hS
    refine qS fun _ hS => ?_; (repeat refine aI qVc5 ?_); apply hS; clear hS
    refine qS fun _ hS => ?_; (repeat refine aI qVc5 ?_); apply hS; clear hS
    refine qQ1 ?_
    refine qS fun _ hS => ?_; (repeat refine aI qVc2 ?_); apply hS; clear hS
    refine qS fun _ hS => ?_; (repeat refine aI qVc2 ?_); (first | apply hS | (refine ite_yes qVc5 ?_; apply hS)); clear hS
    refine qS fun _ hS => ?_; (repeat refine aI qVc5 ?_); apply hS; clear hS
    refine qQ1 ?_
    refine qS fun _ hS => ?_; (repeat refine aI qVc1 ?_); apply hS; clear hS
    refine qS fun _ hS => ?_; (repeat refine aI qVc1 ?_); (first | apply hS | (refine ite_yes qVc5 ?_; apply hS)); clear hS
    refine qS fun _ hS => ?_; (repeat refine aI qVc5 ?_); apply hS; clear hS
    refine qQ1 ?_
    refine q_nil ?_; apply hK17; apply hK16; refine seq_k fun _ hK18 => ?_; refine quiet_k g2_ok (by kernel_rfl) fun _ hK19 => ?_
    refine qQ1 ?_
    refine qS fun _ hS => ?_; (repeat first | refine aI qVc5 ?_ | refine whole_yes qVc5 ?_ | refine whole_sub ?_); (first | apply hS | (intro cap1 hcap1; apply hS)); clear hS
    refine qQ1 ?_
    refine qS fun _ hS => ?_; (repeat first | refine aI qVc5 ?_ | refine whole_yes qVc5 ?_ | refine whole_sub ?_); (first | apply hS | (intro cap3 hcap3; apply hS)); clear hS
    refine qS fun _ hS => ?_; (repeat refine aI qVc5 ?_); apply hS; clear hS
    refine qQ1 ?_
    refine qS fun _ hS => ?_; (repeat first | refine aI qVc5 ?_ | refine whole_yes qVc5 ?_ | refine whole_sub ?_); (first | apply hS | (intro cap6 hcap6; apply hS)); clear hS
    refine qS fun _ hS => ?_; (repeat refine aI qVc5 ?_); apply hS; clear hS
    refine qQ1 ?_
    refine qS fun _ hS => ?_; (repeat refine aI qVc4 ?_); apply hS; clear hS
    refine qS fun _ hS => ?_; (repeat refine aI qVc4 ?_); (first | apply hS | (refine ite_yes qVc5 ?_; apply hS)); clear hS
    refine qS fun _ hS => ?_; (repeat refine aI qVc5 ?_); apply hS; clear hS
    refine qQ1 ?_
    refine qS fun _ hS => ?_; (repeat refine aI qVc4 ?_); apply hS; clear hS
    refine qS fun _ hS => ?_; (repeat refine aI qVc4 ?_); (first | apply hS | (refine ite_yes qVc5 ?_; apply hS)); clear hS
    refine qS fun _ hS => ?_; (repeat refine aI qVc5 ?_); apply hS; clear hS
    refine qS fun _ hS => ?_; (repeat refine aI qVc5 ?_); apply hS; clear hS
    refine qS fun _ hS => ?_; (repeat refine aI qVc4 ?_); apply hS; clear hS
    refine qS fun _ hS => ?_; (repeat refine aI qVc4 ?_); (first | apply hS | (refine ite_yes qVc5 ?_; apply hS)); clear hS
    refine qS fun _ hS => ?_; (repeat refine aI qVc4 ?_); apply hS; clear hS
    refine qS fun _ hS => ?_; (repeat refine aI qVc4 ?_); (first | apply hS | (refine ite_yes qVc5 ?_; apply hS)); clear hS
    refine qS fun _ hS => ?_; (repeat refine aI qVc5 ?_); apply hS; clear hS
    refine qS fun _ hS => ?_; (repeat refine aI qVc5 ?_); apply hS; clear hS
    refine qS fun _ hS => ?_; (repeat refine aI qVc5 ?_); apply hS; clear hS
    refine qQ1 ?_
    refine q_nil ?_; apply hK19; apply hK18; refine region_k g2_ok fun _ hK20 => ?_
    iterate 2 refine sS1 ?_
    refine sS fun _ hS => ?_; (repeat refine aI qVc5 ?_); apply hS; clear hS
    refine sS fun _ hS => ?_; (repeat refine aI qVc4 ?_); apply hS; clear hS
    refine sS fun _ hS => ?_; (repeat refine aI qVc4 ?_); (first | apply hS | (refine ite_yes qVc5 ?_; apply hS)); clear hS
    refine sS fun _ hS => ?_; (repeat refine aI qVc4 ?_); apply hS; clear hS
    refine sS fun _ hS => ?_; (repeat refine aI qVc4 ?_); (first | apply hS | (refine ite_yes qVc5 ?_; apply hS)); clear hS
    refine sS fun _ hS => ?_; (repeat refine aI qVc4 ?_); apply hS; clear hS
    refine sS fun _ hS => ?_; (repeat refine aI qVc4 ?_); (first | apply hS | (refine ite_yes qVc5 ?_; apply hS)); clear hS
    refine sS fun _ hS => ?_; (repeat refine aI qVc4 ?_); apply hS; clear hS
    refine sS fun _ hS => ?_; (repeat refine aI qVc4 ?_); (first | apply hS | (refine ite_yes qVc5 ?_; apply hS)); clear hS
    refine sS1 ?_
    refine sS fun _ hS => ?_; (repeat refine aI qVc5 ?_); apply hS; clear hS
    refine sS fun _ hS => ?_; (repeat refine aI qVc4 ?_); apply hS; clear hS
    refine sS fun _ hS => ?_; (repeat refine aI qVc4 ?_); (first | apply hS | (refine ite_yes qVc5 ?_; apply hS)); clear hS
    refine sS fun _ hS => ?_; (repeat refine aI qVc4 ?_); apply hS; clear hS
    refine sS fun _ hS => ?_; (repeat refine aI qVc4 ?_); (first | apply hS | (refine ite_yes qVc5 ?_; apply hS)); clear hS
    refine sS fun _ hS => ?_; (repeat refine aI qVc4 ?_); apply hS; clear hS
    refine sS fun _ hS => ?_; (repeat refine aI qVc4 ?_); (first | apply hS | (refine ite_yes qVc5 ?_; apply hS)); clear hS
    refine sS fun _ hS => ?_; (repeat refine aI qVc5 ?_); apply hS; clear hS
    refine sS0 fun _ hS => ?_; (repeat refine aI qVc4 ?_); (first | apply hS | (refine splice_full qVc4 ?_; apply hS)); clear hS; refine s_nil ?_; apply hK20; refine done_block ?_; apply hK13; refine region_k g2_ok fun _ hK21 => ?_
    refine sS1 ?_
    refine sS fun _ hS => ?_; (repeat refine aI (by first | omega | exact trivial | rfl | (simp <;> omega) | exact hs.symm | exact hws.symm | exact hcs.symm) ?_); apply hS; clear hS
    refine sS1 ?_
    refine s_nil ?_; apply hK21
    refine dnS [] id (k + 1) ⟨by omega, by omega⟩ [0, 1, 2, 3, 4] ?_ ?_ ?_ ?_
    ·exact uVc0
    ·repeat' (first | exact trivial | refine aI ?_ ?_ | rfl | omega | decide | exact Nat.lt_of_sub_pos (by decide))
     show (_ : List UInt32) = _
     simp [Sha.rounds, Sha.round, Sha.mixX, Sha.mixY, not_sub]
    ·exact uVc0
    ·exact uVc0
   ·try simp only [decide_eq_false_iff_not, Int.not_lt] at h_t19
    refine WP_exit ?_; refine done_thenx ?_; refine done_thenx ?_
    refine Done_hit ?_
    apply hK7; refine seq_k fun _ hK22 => ?_; refine seq_k fun _ hK23 => ?_; refine region_k g2_ok fun _ hK24 => ?_
    refine sS1 ?_
    refine s_nil ?_; apply hK24; apply hK23; refine WP_block ?_
    obtain rfl : k = 64 := by omega
    have hr64 : (Sha.rounds (Sha.sched l 64) s 64).length = 8 := Sha.rounds_length (Sha.sched l 64) s hs 64
    refine WP_loop (α := Nat) (fun k => [(2, .c (.ptr 0 0)), (4, .c (.ptr 1 0)), (5, .c (.ptr 2 0)), (6, .c (.ptr 3 0)), (7, .c (.ptr 4 0)), (13, .c (.int .i64 k))]) (fun k => [(0, .own 97 (.u32s s) 8), (1, .own 97 (.u32s (List.replicate 8 0)) 8), (2, .own 106 (.u32s (Sha.sched l 64)) 64), (3, .own 106 (.u32s Sha.consts) 64), (4, .own 97 (.u32s (Sha.addTo (Sha.rounds (Sha.sched l 64) s 64) s k)) 8)]) 5 (fun k => k ≤ 8) (fun k => 8 - k) ?_ ?_
    ·refine dnS [] id 0 (Nat.zero_le _) [0, 1, 2, 3, 4] ?_ ?_ ?_ ?_
     ·exact uVc0
     ·repeat' (first | exact trivial | refine aI ?_ ?_ | rfl | omega | decide | exact Nat.lt_of_sub_pos (by decide))
      show (_ : List UInt32) = _
      simp [Sha.addTo]
     ·exact uVc0
     ·exact uVc0
    ·intro k hk
     have hlen : (Sha.addTo (Sha.rounds (Sha.sched l 64) s 64) s k).length = 8 := Sha.addTo_length _ s k hr64 hs
     refine seq_k fun _ hK25 => ?_; refine seq_k fun _ hK26 => ?_; refine region_k g2_ok fun _ hK27 => ?_
     refine sS1 ?_
     refine sS fun _ hS => ?_; (repeat refine aI qVc0 ?_); apply hS; clear hS; refine s_nil ?_; apply hK27; apply hK26
     refine WP_cond (b := _) rfl (fun h_t101 => ?_) (fun h_t101 => ?_)
     ·try simp only [decide_eq_true_eq] at h_t101
      refine WP_skip ?_; apply hK25; refine seq_k fun _ hK28 => ?_; refine WP_block ?_
      refine tail_k g2_ok 9 (by kernel_rfl) fun _ hK29 => ?_
      simp only [List.take_succ_cons, List.take_zero, List.drop_succ_cons, List.drop_zero]
      iterate 2 refine qQ1 ?_
      refine qS fun _ hS => ?_; (repeat refine aI qVc4 ?_); apply hS; clear hS
      refine qS fun _ hS => ?_; (repeat refine aI qVc4 ?_); (first | apply hS | (refine ite_yes qVc5 ?_; apply hS)); clear hS
      refine qQ1 ?_
      refine qS fun _ hS => ?_; (repeat refine aI qVc3 ?_); apply hS; clear hS
      refine qS fun _ hS => ?_; (repeat refine aI qVc3 ?_); (first | apply hS | (refine ite_yes qVc5 ?_; apply hS)); clear hS
      refine qS fun _ hS => ?_; (repeat refine aI qVc5 ?_); apply hS; clear hS
      refine qS fun _ hS => ?_; (repeat refine aI qVc4 ?_); apply hS; clear hS; refine q_nil ?_
      refine sS0 fun _ hS => ?_; (repeat refine aI qVc4 ?_); (first | apply hS | (refine splice_full qVc5 ?_; apply hS)); clear hS; refine s_nil ?_; apply hK29
      have e1 := Sha.addTo_step _ _ k hr64 hs (by omega)
      rw [← Sha.addTo_get _ _ k hr64 hs (by omega)] at e1
      refine done_block ?_; apply hK28; refine region_k g2_ok fun _ hK30 => ?_
      refine sS1 ?_
      refine sS fun _ hS => ?_; (repeat refine aI (by first | omega | exact trivial | rfl | (simp <;> omega) | exact hs.symm | exact hws.symm | exact hcs.symm) ?_); apply hS; clear hS
      refine sS1 ?_
      refine s_nil ?_; apply hK30
      refine dnS [] id (k + 1) ⟨by omega, by omega⟩ [0, 1, 2, 3, 4] ?_ ?_ ?_ ?_
      ·exact uVc0
      ·repeat' (first | exact trivial | refine aI ?_ ?_ | rfl | omega | decide | exact Nat.lt_of_sub_pos (by decide))
       show (_ : List UInt32) = _
       simp only [Nat.zero_add, Nat.mul_one]
       exact e1
      ·exact uVc0
      ·exact uVc0
     ·try simp only [decide_eq_false_iff_not, Int.not_lt] at h_t101
      refine WP_exit ?_; refine done_thenx ?_; refine done_thenx ?_
      refine Done_hit ?_
      apply hK22; refine seq_k fun _ hK31 => ?_; refine region_k g2_ok fun _ hK32 => ?_
      refine sS fun _ hS => ?_; (repeat refine aI qVc6 ?_); (first | apply hS | (refine ite_yes qVc6 ?_; apply hS)); clear hS
      refine sS0 fun _ hS => ?_; (repeat refine aI qVc6 ?_); (first | apply hS | (refine splice_full qVc6 ?_; apply hS)); clear hS; refine s_nil ?_; apply hK32; apply hK31
      refine WP_ret (Done_flat g2_ok (fun _ _ h => h) (by first | rfl | assumption) [.cell 4 97] rfl ?_)
      repeat refine aI (by first | omega | exact trivial | rfl | (simp [hlen] <;> omega)) ?_
      try refine ite_yes (by first | omega | exact trivial | rfl | (simp [hlen] <;> omega)) ?_
      obtain rfl : k = 8 := by omega
      show SV.agg (.u32s (Sha.addTo (Sha.rounds (Sha.sched l 64) s 64) s 8)) = _
      rw [Sha.addTo_full _ _ hr64 hs]
 ·exact h.elim

end Go.Proofs.YtnhmglhbhnhnhaaDoor

namespace Go.Proofs.YtnhmglhbhnhnhaaDoor
set_option linter.unusedVariables false
open Go.Ab Go.RowKit

theorem qVd0 {a : Prop} (h : a := by first | omega | exact trivial | rfl | (simp [padZ_length] <;> omega)) : a := h
theorem qVd1 {a : Prop} (h : a := by first | omega | exact trivial | rfl | (simp [padZ_length, hB] <;> omega)) : a := h
theorem uVd0 {a : Prop} (h : a := by
    repeat' (first | exact trivial | refine aI ?_ ?_ | rfl | omega | decide | exact Nat.lt_of_sub_pos (by decide))) : a := h
theorem uVd1 {a : Prop} (h : a := by
    repeat' (first | exact trivial | refine aI ?_ ?_ | rfl | omega | decide | exact Nat.lt_of_sub_pos (by decide))
    all_goals first | (show (_ : List UInt8) = _; exact e1) | (simp [padZ_length] <;> omega) | (simp [padZ_length, padB_length l _ hk, padB_length l (k.1 + 1) (by omega)] <;> omega) | skip) : a := h
theorem uVd2 {a : Prop} (h : a := by
    repeat' (first | exact trivial | refine aI ?_ ?_ | rfl | omega | decide | exact Nat.lt_of_sub_pos (by decide))
    all_goals first | (show (_ : List UInt8) = _; simp [padZ, padB]; done) | exact hB | (simp [padZ_length, padB, Sha.be64]; done) | (simp [padZ_length, padB, Sha.be64] <;> omega) | skip) : a := h

def padZ (l : List UInt8) (k : Nat) : List UInt8 := l ++ [0x80] ++ List.replicate k 0
theorem padZ_length (l : List UInt8) (k : Nat) : (padZ l k).length = l.length + 1 + k := by simp [padZ]; omega
theorem padZ_step (l : List UInt8) (k : Nat) : padZ l k ++ [0] = padZ l (k + 1) := by
  simp [padZ, List.replicate_succ']
def padB (l : List UInt8) (j : Nat) : List UInt8 := padZ l (Sha.zeros l.length) ++ (Sha.be64 (8 * l.length.toUInt64)).take j
theorem padB_length (l : List UInt8) (j : Nat) (h : j ≤ 8) : (padB l j).length = l.length + 1 + Sha.zeros l.length + j := by
  simp [padB, padZ_length, Sha.be64]; omega
theorem padB_step (l : List UInt8) (j : Nat) (h : j < 8) : padB l j ++ [(shr64 (8 * l.length.toUInt64) (56 - 8 * j)).toUInt8] = padB l (j + 1) := by
  have e : (Sha.be64 (8 * l.length.toUInt64))[j]? = some (shr64 (8 * l.length.toUInt64) (56 - 8 * j)).toUInt8 := by
    simp [Sha.be64, h]
  rw [padB, padB, List.append_assoc, List.take_add_one, e, Option.toList_some]
theorem padB_full (l : List UInt8) : padB l 8 = Sha.pad l := by
  rw [padB, Sha.pad, padZ, List.take_of_length_le (by simp [Sha.be64])]
theorem zeros_lt (n : Nat) : Sha.zeros n < 64 := Nat.mod_lt _ (by omega)
theorem ofIntNat (n : Nat) : UInt64.ofInt (n : Int) = n.toUInt64 := by
  apply UInt64.toNat_inj.1
  simp [UInt64.ofInt]
  omega

def padS : OSpec := fun vs K => match vs with
  | [.c (.ds n (.u8s l))] => (n = l.length ∧ n ≤ 1048576) ∧ K 5 1 (Sha.pad l).length (.u8s (Sha.pad l))
  | _ => False
set_option maxHeartbeats 1000000 in
theorem pad_ok : OwnOK Tryd.prog gl 60 padS := by
 refine own_of (Γ := g0) (N := 37) Tryd.func60 rfl rfl fun vs K h => ?_
 unfold padS at h
 split at h
 ·rename_i n l
  obtain ⟨⟨hn, hl⟩, h⟩ := h
  subst hn
  refine ⟨_, _, _, _, h, trivial, by simp, fun w I => ?_⟩
  have hz := zeros_lt l.length
  have hB : UInt64.ofInt (l.length : Int) * 8 = 8 * l.length.toUInt64 := by
   rw [UInt64.mul_comm, ofIntNat]
  refine seq_k fun _ hK1 => ?_; refine region_k g0_ok fun _ hK2 => ?_
  refine sS1 ?_
  refine s_nil ?_; apply hK2; apply hK1; refine seq_k fun _ hK3 => ?_; refine region_k g0_ok fun _ hK4 => ?_
  refine sS fun _ hS => ?_; (repeat refine aI (by first | omega | exact trivial | rfl | (simp [padZ_length, List.take_length] <;> omega)) ?_); apply hS; clear hS
  refine sS1 ?_
  refine sS fun _ hS => ?_; (repeat first | refine aI (by first | omega | exact trivial | rfl | (simp <;> omega)) ?_ | refine whole_yes (by first | omega | exact trivial | rfl | (simp [padZ_length, List.take_length] <;> omega)) ?_ | refine whole_sub ?_); (intro cap2 hcap2; apply hS); clear hS
  refine sS1 ?_
  refine s_nil ?_; apply hK4; apply hK3; refine seq_k fun _ hK5 => ?_; refine region_k g0_ok fun _ hK6 => ?_
  refine sS1 ?_
  refine sS fun _ hS => ?_; (repeat refine aI qVd0 ?_); apply hS; clear hS
  refine sS fun _ hS => ?_; (repeat first | refine aI (by first | omega | exact trivial | rfl | (simp <;> omega)) ?_ | refine whole_yes qVd0 ?_ | refine whole_sub ?_); (intro cap2 hcap2; apply hS); clear hS
  refine sS1 ?_
  refine s_nil ?_; apply hK6; apply hK5; refine seq_k fun _ hK7 => ?_; refine WP_block ?_
  refine WP_loop (α := Nat × Nat) (fun k => [(0, .c (.ds l.length (.u8s l))), (3, .c (.slice 0 0 (padZ l k.1).length k.2))]) (fun k => [(0, .own 5 (.u8s (padZ l k.1)) k.2)]) 1 (fun k => k.1 ≤ Sha.zeros l.length) (fun k => Sha.zeros l.length - k.1) ?_ ?_
  ·refine dnS [] (fun _ => 3) (0, cap2) (Nat.zero_le _) [3] ?_ ?_ ?_ ?_
   ·repeat' (first | exact trivial | refine aI ?_ ?_ | rfl | omega | decide | exact Nat.lt_of_sub_pos (by decide))
    all_goals first | (show (_ : List UInt8) = _; simp [padZ, padB]; done) | exact hB | (simp [padZ_length]; done) | (simp [padZ_length, padB, Sha.be64] <;> omega) | skip
   ·repeat' (first | exact trivial | refine aI ?_ ?_ | rfl | omega | decide | exact Nat.lt_of_sub_pos (by decide))
    all_goals first | (show (_ : List UInt8) = _; simp [padZ]; done) | exact hB | (simp [padZ_length, padB, Sha.be64]; done) | (simp [padZ_length, padB, Sha.be64] <;> omega) | skip
   ·exact uVd0
   ·exact uVd0
  ·intro k hk
   have hlen := padZ_length l k.1
   refine seq_k fun _ hK8 => ?_; refine seq_k fun _ hK9 => ?_; refine region_k g0_ok fun _ hK10 => ?_
   refine sS1 ?_
   refine sS fun _ hS => ?_; (repeat refine aI qVd0 ?_); apply hS; clear hS
   refine sS fun _ hS => ?_; (repeat refine aI qVd0 ?_); apply hS; clear hS
   refine sS fun _ hS => ?_; (repeat refine aI qVd0 ?_); apply hS; clear hS; refine s_nil ?_; apply hK10; apply hK9
   refine WP_cond (b := _) rfl (fun h_t15 => ?_) (fun h_t15 => ?_)
   ·try simp only [decide_eq_false_iff_not, Bool.not_eq_eq_eq_not, Bool.not_true] at h_t15
    refine WP_skip ?_; apply hK8; refine WP_block ?_; refine region_k g0_ok fun _ hK11 => ?_
    refine sS1 ?_
    refine sS fun _ hS => ?_; (repeat refine aI qVd0 ?_); apply hS; clear hS
    refine sS fun _ hS => ?_; (repeat first | refine aI qVd0 ?_ | refine whole_yes qVd0 ?_ | refine whole_sub ?_); (intro cap2 hcap2; apply hS); clear hS
    refine sS1 ?_
    refine s_nil ?_; apply hK11
    have e1 := padZ_step l k.1
    refine done_block ?_
    refine dnS [] (fun _ => 2) (k.1 + 1, cap2) ⟨by unfold Sha.zeros at *; omega, by unfold Sha.zeros at *; omega⟩ [2] ?_ ?_ ?_ ?_
    ·exact uVd1
    ·exact uVd1
    ·exact uVd0
    ·exact uVd0
   ·try simp only [decide_eq_true_eq, Bool.not_eq_eq_eq_not, Bool.not_false] at h_t15
    refine WP_exit ?_; refine done_thenx ?_; refine done_thenx ?_
    refine Done_hit ?_
    apply hK7; refine seq_k fun _ hK12 => ?_; refine region_k g0_ok fun _ hK13 => ?_
    refine sS1 ?_
    refine sS fun _ hS => ?_; (repeat refine aI qVd1 ?_); apply hS; clear hS
    refine sS fun _ hS => ?_; (repeat first | refine aI qVd1 ?_ | refine whole_yes qVd1 ?_ | refine whole_sub ?_); apply hS; clear hS
    refine sS fun _ hS => ?_; (repeat refine aI qVd1 ?_); apply hS; clear hS
    refine sS1 ?_
    refine s_nil ?_; apply hK13; apply hK12; refine seq_k fun _ hK14 => ?_; refine seq_k fun _ hK15 => ?_; refine region_k g0_ok fun _ hK16 => ?_
    refine sS1 ?_
    refine s_nil ?_; apply hK16; apply hK15; refine WP_block ?_
    have hk0 : k.1 = Sha.zeros l.length := by unfold Sha.zeros at *; omega
    obtain ⟨k, cap0⟩ := k
    subst hk0
    refine WP_loop (α := Nat × Nat) (fun k => [(0, .c (.ds l.length (.u8s l))), (3, .c (.slice 0 0 (padB l k.1).length k.2)), (4, .c (.u64 (8 * l.length.toUInt64))), (5, .c (.int .i64 k.1))]) (fun k => [(0, .own 5 (.u8s (padB l k.1)) k.2)]) 1 (fun k => k.1 ≤ 8) (fun k => 8 - k.1) ?_ ?_
    ·refine dnS [] (fun _ => 0) (0, cap0) (Nat.zero_le _) [0] ?_ ?_ ?_ ?_
     ·exact uVd2
     ·exact uVd2
     ·exact uVd0
     ·exact uVd0
    ·intro k hk
     have hlen := padB_length l k.1 hk
     refine seq_k fun _ hK17 => ?_; refine seq_k fun _ hK18 => ?_; refine region_k g0_ok fun _ hK19 => ?_
     refine sS1 ?_
     refine sS fun _ hS => ?_; (repeat refine aI qVd0 ?_); apply hS; clear hS; refine s_nil ?_; apply hK19; apply hK18
     refine WP_cond (b := _) rfl (fun h_t24 => ?_) (fun h_t24 => ?_)
     ·try simp only [decide_eq_true_eq] at h_t24
      refine WP_skip ?_; apply hK17; refine seq_k fun _ hK20 => ?_; refine WP_block ?_; refine region_k g0_ok fun _ hK21 => ?_
      iterate 3 refine sS1 ?_
      refine sS fun _ hS => ?_; (repeat refine aI (by first | omega | exact trivial | rfl | (simp <;> omega)) ?_); apply hS; clear hS
      refine sS fun _ hS => ?_; (repeat refine aI (by first | omega | exact trivial | rfl | (simp <;> omega)) ?_); apply hS; clear hS
      refine sS fun _ hS => ?_; (repeat refine aI qVd0 ?_); apply hS; clear hS
      refine sS fun _ hS => ?_; (repeat first | refine aI qVd0 ?_ | refine whole_yes qVd0 ?_ | refine whole_sub ?_); apply hS; clear hS
      refine sS fun _ hS => ?_; (repeat refine aI qVd0 ?_); apply hS; clear hS
      refine sS fun _ hS => ?_; (repeat first | refine aI (by first | omega | exact trivial | rfl | (simp <;> omega)) ?_ | refine whole_yes qVd0 ?_ | refine whole_sub ?_); (intro cap8 hcap8; apply hS); clear hS
      refine sS1 ?_
      refine s_nil ?_; apply hK21
      have e1 := padB_step l k.1 (by omega)
      rw [show 56 - 8 * k.1 = (56 - 8 * (k.1 : Int)).toNat by omega] at e1
      refine done_block ?_; apply hK20; refine region_k g0_ok fun _ hK22 => ?_
      refine sS1 ?_
      refine sS fun _ hS => ?_; (repeat refine aI (by first | omega | exact trivial | rfl | (simp <;> omega)) ?_); apply hS; clear hS
      refine sS1 ?_
      refine s_nil ?_; apply hK22
      refine dnS [] (fun _ => 2) (k.1 + 1, cap8) ⟨by omega, by omega⟩ [2] ?_ ?_ ?_ ?_
      ·repeat' (first | exact trivial | refine aI ?_ ?_ | rfl | omega | decide | exact Nat.lt_of_sub_pos (by decide))
       all_goals first | (show (_ : List UInt8) = _; exact e1) | (simp <;> omega) | (simp [padB_length l _ hk, padB_length l (k.1 + 1) (by omega)] <;> omega) | skip
      ·exact uVd1
      ·exact uVd0
      ·exact uVd0
     ·obtain ⟨k, cap0⟩ := k
      have hk8 : k = 8 := by simp at h_t24; omega
      subst hk8
      refine WP_exit ?_; refine done_thenx ?_; refine done_thenx ?_
      refine Done_hit ?_
      apply hK14; refine seq_k fun _ hK23 => ?_; refine region_k g0_ok fun _ hK24 => ?_
      iterate 2 refine sS1 ?_
      refine s_nil ?_; apply hK24; apply hK23
      refine WP_ret (Done_own g0_ok (fun _ _ h => h) (by decide) [.tmp 2] rfl ?_)
      show _ ∧ _
      repeat' (first | exact trivial | refine aI ?_ ?_ | rfl | omega | decide | exact Nat.lt_of_sub_pos (by decide))
      all_goals simp
 ·exact h.elim

end Go.Proofs.YtnhmglhbhnhnhaaDoor

namespace Go.Proofs.YtnhmglhbhnhnhaaDoor
set_option linter.unusedVariables false
open Go.Ab Go.RowKit

theorem qVe0 {a : Prop} (h : a := by first | omega | exact trivial | rfl | (simp [hst] <;> omega)) : a := h
theorem qVe1 {a : Prop} (h : a := by first | omega | exact trivial | rfl | (simp [hst] <;> omega) | exact hst.symm) : a := h
theorem qVe2 {a : Prop} (h : a := by first | omega | exact trivial | rfl | (simp [hlen] <;> omega) | exact hlen.symm | exact (hcl _).symm) : a := h
theorem qVe3 {a : Prop} (h : a := by first | omega | exact trivial | rfl | (simp [hst, hlen, hlen2] <;> omega)) : a := h
theorem qVe4 {a : Prop} (h : a := by first | omega | exact trivial | rfl | (simp [hlen2] <;> omega)) : a := h
theorem qVe5 {a : Prop} (h : a := by first | omega | exact trivial | rfl | (simp [hlen2] <;> omega) | exact hlen2.symm) : a := h
theorem uVe0 {a : Prop} (h : a := by
    repeat' (first | exact trivial | refine aI ?_ ?_ | rfl | omega | decide | exact Nat.lt_of_sub_pos (by decide))
    all_goals first | (simp; done) | (simp <;> omega) | (simp [Sha.fold, outArr]; done)) : a := h
theorem uVe1 {a : Prop} (h : a := by
    repeat' (first | exact trivial | refine aI ?_ ?_ | rfl | omega | decide | exact Nat.lt_of_sub_pos (by decide))
    all_goals first | exact hlen | exact hst | (show (_ : List UInt32) = _; simp only [Sha.fold]; done) | (show (_ : List UInt32) = _; simp only [Sha.fold, Nat.zero_add, Nat.mul_one, Option.getD_some, show ((64 * k : Nat) : Int).toNat = 64 * k by omega, show (((64 * k : Nat) : Int) + 64).toNat = 64 * k + 64 by omega, Nat.add_sub_cancel_left, g3_ty, size_5]; done) | (show (_ : List UInt8) = _; simp [outArr]; done) | (show (_ : List UInt8) = _; simp only [Nat.zero_add, Nat.mul_one]; exact e1) | (simp; done)) : a := h
theorem uVe2 {a : Prop} (h : a := by
    repeat' (first | exact trivial | refine aI ?_ ?_ | rfl | omega | decide | exact Nat.lt_of_sub_pos (by decide))) : a := h

theorem pad_length (l : List UInt8) : (Sha.pad l).length = l.length + 1 + Sha.zeros l.length + 8 := by
  rw [← padB_full, padB_length _ _ (Nat.le_refl _)]
theorem pad_mod (l : List UInt8) : (Sha.pad l).length % 64 = 0 := by
  rw [pad_length]; unfold Sha.zeros; omega

def outArr (s : List UInt32) (n : Nat) : List UInt8 := (Sha.out s).take n ++ List.replicate (32 - n) 0
theorem outArr_length (s : List UInt32) (n : Nat) (h : n ≤ 32) : (outArr s n).length = 32 := by
  simp [outArr, Sha.out]; omega
theorem outArr_step (s : List UInt32) (n : Nat) (h : n < 32) : (outArr s n).set n (shr32 (s.getD (n / 4) 0) (24 - 8 * (n % 4))).toUInt8 = outArr s (n + 1) := by
  have e : List.replicate (32 - n) (0 : UInt8) = 0 :: List.replicate (32 - (n + 1)) 0 := by
    rw [← List.replicate_succ]; congr 1; omega
  have e2 : (Sha.out s)[n]? = some (shr32 (s.getD (n / 4) 0) (24 - 8 * (n % 4))).toUInt8 := by
    simp [Sha.out, h]
  have hl : ((Sha.out s).take n).length = n := by simp [Sha.out]; omega
  rw [outArr, outArr, e, List.set_append_right _ _ (by omega), hl, Nat.sub_self, List.set_cons_zero, List.take_add_one, e2, Option.toList_some, List.append_assoc, List.singleton_append]
theorem outArr_full (s : List UInt32) : outArr s 32 = Sha.out s := by
  rw [outArr, List.take_of_length_le (by simp [Sha.out])]; simp

noncomputable def g3 : Ctx := { P := Tryd.prog, ty := ty, glob := gl, fs := [(59, .flat initialS), (61, .flat compressRS), (60, .own padS)] }
theorem g3_ok : g3.OK := ⟨tyOK, ⟨⟨enters_mk Tryd.func59 (by kernel_rfl) rfl, initial_ok⟩, ⟨enters_mk Tryd.func61 (by kernel_rfl) rfl, compressR_ok⟩, ⟨enters_mk Tryd.func60 (by kernel_rfl) rfl, pad_ok⟩, trivial⟩, mixed⟩
@[simp] theorem g3_ty : g3.ty = ty := rfl

theorem start_length : Sha.start.length = 8 := rfl
attribute [local irreducible] Sha.pad Sha.fold Sha.compress Sha.start Sha.out outArr
def sumS : QSpec := fun vs K => match vs with
  | [.c (.ds n (.u8s l))] => (n = l.length ∧ n ≤ 1048576) ∧ K (.agg (.u8s (Sha.sum l)))
  | _ => False
set_option maxHeartbeats 1000000 in
theorem sumR_ok : FlatOK Tryd.prog gl 56 sumS := by
 refine flat_of (Γ := g3) (N := 42) Tryd.func56 rfl rfl fun vs K h => ?_
 unfold sumS at h
 split at h
 ·rename_i n l
  obtain ⟨⟨hn, hl⟩, h⟩ := h
  subst hn
  refine ⟨_, h, rfl, by simp, fun w I => ?_⟩
  rw [Sha.sum]
  have hpm := pad_mod l
  have hpl := pad_length l
  have hz := zeros_lt l.length
  have hst : Sha.start.length = 8 := start_length
  refine seq_k fun _ hK1 => ?_; refine region_k g3_ok fun _ hK2 => ?_
  refine sS fun _ hS => ?_; (repeat refine aI qVe0 ?_); apply hS; clear hS; refine s_nil ?_; apply hK2; apply hK1; refine seq_k fun _ hK3 => ?_; refine region_k g3_ok fun _ hK4 => ?_
  refine sS fun _ hS => ?_; (repeat first | refine aI qVe1 ?_ | refine whole_yes qVe1 ?_ | refine whole_sub ?_); (first | apply hS | (intro cap0 hcap0; apply hS)); clear hS
  refine sS1 ?_
  refine sS fun _ hS => ?_; (repeat first | refine aI qVe1 ?_ | refine whole_yes qVe1 ?_ | refine whole_sub ?_); (first | apply hS | (intro cap2 hcap2; apply hS)); clear hS
  refine sS fun _ hS => ?_; (repeat refine aI qVe1 ?_); apply hS; clear hS
  refine sS0 fun _ hS => ?_; (repeat refine aI qVe1 ?_); (first | apply hS | (refine splice_full qVe1 ?_; apply hS)); clear hS
  refine sS1 ?_
  refine s_nil ?_; apply hK4; apply hK3; refine seq_k fun _ hK5 => ?_; refine seq_k fun _ hK6 => ?_; refine region_k g3_ok fun _ hK7 => ?_
  refine sS1 ?_
  refine s_nil ?_; apply hK7; apply hK6; refine WP_block ?_
  refine WP_loop (α := Nat) (fun k => [(0, .c (.ds l.length (.u8s l))), (2, .c (.ptr 0 0)), (3, .c (.ptr 2 0)), (4, .c (.slice 1 0 (Sha.pad l).length cap2)), (5, .c (.int .i64 ((64 * k : Nat) : Int)))]) (fun k => [(0, .own 24 (.u8s (List.replicate 32 0)) 32), (1, .own 5 (.u8s (Sha.pad l)) cap2), (2, .own 97 (.u32s (Sha.fold (Sha.pad l) k)) 8)]) 3 (fun k => k ≤ (Sha.pad l).length / 64) (fun k => (Sha.pad l).length / 64 - k) ?_ ?_
  ·refine dnS [] id 0 (Nat.zero_le _) [0, 1, 2] ?_ ?_ ?_ ?_
   ·exact uVe0
   ·exact uVe1
   ·exact uVe2
   ·exact uVe2
  ·intro k hk
   have hlen : (Sha.fold (Sha.pad l) k).length = 8 := Sha.fold_length _ k
   refine seq_k fun _ hK8 => ?_; refine seq_k fun _ hK9 => ?_; refine region_k g3_ok fun _ hK10 => ?_
   iterate 2 refine sS1 ?_
   refine sS fun _ hS => ?_; (repeat refine aI qVe0 ?_); apply hS; clear hS
   refine sS fun _ hS => ?_; (repeat refine aI qVe0 ?_); apply hS; clear hS; refine s_nil ?_; apply hK10; apply hK9
   refine WP_cond (b := _) rfl (fun h_t14 => ?_) (fun h_t14 => ?_)
   ·try simp only [decide_eq_true_eq] at h_t14
    refine WP_skip ?_; apply hK8; refine seq_k fun _ hK11 => ?_; refine WP_block ?_
    have hcl : ∀ b, (Sha.compress (Sha.fold (Sha.pad l) k) b).length = 8 := fun b => Sha.compress_length _ _ hlen
    refine tail_k g3_ok 7 (by kernel_rfl) fun _ hK12 => ?_
    simp only [List.take_succ_cons, List.take_zero, List.drop_succ_cons, List.drop_zero]
    refine qS fun _ hS => ?_; (repeat refine aI qVe2 ?_); (first | apply hS | (refine ite_yes qVe2 ?_; apply hS)); clear hS
    iterate 3 refine qQ1 ?_
    refine qS fun _ hS => ?_; (repeat refine aI (by first | omega | exact trivial | rfl | (simp <;> omega) | exact hlen.symm | exact (hcl _).symm) ?_); apply hS; clear hS
    refine qS fun _ hS => ?_; (repeat refine aI (by first | omega | exact trivial | rfl | (simp <;> omega) | exact hlen.symm | exact (hcl _).symm) ?_); apply hS; clear hS
    refine qS fun _ hS => ?_; (repeat first | refine aI qVe2 ?_ | refine whole_yes (by first | omega | exact trivial | rfl | (simp [hst, hlen, hcl] <;> omega) | exact hlen.symm | exact (hcl _).symm) ?_ | refine whole_sub ?_); (first | apply hS | (intro cap6 hcap6; apply hS)); clear hS; refine q_nil ?_
    refine sS0 fun _ hS => ?_; (repeat refine aI (by first | omega | exact trivial | rfl | (simp [hlen, hcl] <;> omega) | exact hlen.symm | exact (hcl _).symm) ?_); (first | apply hS | (refine splice_full (by first | omega | exact trivial | rfl | (simp [hlen, hcl] <;> omega) | exact hlen.symm | exact (hcl _).symm) ?_; apply hS)); clear hS; refine s_nil ?_; apply hK12; refine done_block ?_; apply hK11; refine region_k g3_ok fun _ hK13 => ?_
    refine sS1 ?_
    refine sS fun _ hS => ?_; (repeat refine aI (by first | omega | exact trivial | rfl | (simp <;> omega)) ?_); apply hS; clear hS
    refine sS1 ?_
    refine s_nil ?_; apply hK13
    refine dnS [] id (k + 1) ⟨by omega, by omega⟩ [0, 1, 2] ?_ ?_ ?_ ?_
    ·exact uVe0
    ·exact uVe1
    ·exact uVe2
    ·exact uVe2
   ·try simp only [decide_eq_false_iff_not, Int.not_lt] at h_t14
    refine WP_exit ?_; refine done_thenx ?_; refine done_thenx ?_
    refine Done_hit ?_
    apply hK5; refine seq_k fun _ hK14 => ?_; refine region_k g3_ok fun _ hK15 => ?_
    refine sS fun _ hS => ?_; (repeat refine aI qVe0 ?_); apply hS; clear hS
    refine sS fun _ hS => ?_; (repeat refine aI qVe0 ?_); apply hS; clear hS
    refine sS0 fun _ hS => ?_; (repeat refine aI (by first | omega | exact trivial | rfl | (simp <;> omega)) ?_); (first | apply hS | (refine splice_full qVe0 ?_; apply hS)); clear hS; refine s_nil ?_; apply hK15; apply hK14; refine seq_k fun _ hK16 => ?_; refine seq_k fun _ hK17 => ?_; refine region_k g3_ok fun _ hK18 => ?_
    refine sS1 ?_
    refine s_nil ?_; apply hK18; apply hK17; refine WP_block ?_
    have hk2 : k = (Sha.pad l).length / 64 := by omega
    subst hk2
    refine WP_loop (α := Nat) (fun k => [(0, .c (.ds l.length (.u8s l))), (2, .c (.ptr 0 0)), (3, .c (.ptr 2 0)), (4, .c (.slice 1 0 (Sha.pad l).length cap2)), (6, .c (.ptr 3 0)), (7, .c (.int .i64 k))]) (fun k => [(0, .own 24 (.u8s (List.replicate 32 0)) 32), (1, .own 5 (.u8s (Sha.pad l)) cap2), (2, .own 97 (.u32s (Sha.fold (Sha.pad l) ((Sha.pad l).length / 64))) 8), (3, .own 24 (.u8s (outArr (Sha.fold (Sha.pad l) ((Sha.pad l).length / 64)) k)) 32)]) 4 (fun k => k ≤ 32) (fun k => 32 - k) ?_ ?_
    ·refine dnS [] id 0 (Nat.zero_le _) [0, 1, 2, 3] ?_ ?_ ?_ ?_
     ·exact uVe0
     ·exact uVe1
     ·exact uVe2
     ·exact uVe2
    ·intro k hk
     have hlen2 := outArr_length (Sha.fold (Sha.pad l) ((Sha.pad l).length / 64)) k hk
     refine seq_k fun _ hK19 => ?_; refine seq_k fun _ hK20 => ?_; refine region_k g3_ok fun _ hK21 => ?_
     refine sS1 ?_
     refine sS fun _ hS => ?_; (repeat refine aI qVe0 ?_); apply hS; clear hS; refine s_nil ?_; apply hK21; apply hK20
     refine WP_cond (b := _) rfl (fun h_t26 => ?_) (fun h_t26 => ?_)
     ·try simp only [decide_eq_true_eq] at h_t26
      refine WP_skip ?_; apply hK19; refine seq_k fun _ hK22 => ?_; refine WP_block ?_; refine region_k g3_ok fun _ hK23 => ?_
      iterate 2 refine sS1 ?_
      refine sS fun _ hS => ?_; (repeat refine aI (by first | omega | exact trivial | rfl | (simp <;> omega)) ?_); apply hS; clear hS
      refine sS fun _ hS => ?_; (repeat refine aI (by first | omega | exact trivial | rfl | (simp [hlen] <;> omega)) ?_); apply hS; clear hS
      refine sS fun _ hS => ?_; (repeat refine aI (by first | omega | exact trivial | rfl | (simp [hlen] <;> omega)) ?_); (first | apply hS | (refine ite_yes qVe3 ?_; apply hS)); clear hS
      refine sS1 ?_
      refine sS fun _ hS => ?_; (repeat refine aI qVe3 ?_); apply hS; clear hS
      refine sS fun _ hS => ?_; (repeat refine aI (by first | omega | exact trivial | rfl | (simp <;> omega)) ?_); apply hS; clear hS
      refine sS fun _ hS => ?_; (repeat refine aI (by first | omega | exact trivial | rfl | (simp <;> omega)) ?_); apply hS; clear hS
      refine sS fun _ hS => ?_; (repeat refine aI qVe3 ?_); apply hS; clear hS
      refine sS fun _ hS => ?_; (repeat first | refine aI qVe3 ?_ | refine whole_yes qVe3 ?_ | refine whole_sub ?_); apply hS; clear hS
      refine sS fun _ hS => ?_; (repeat refine aI qVe4 ?_); apply hS; clear hS
      refine sS0 fun _ hS => ?_; (repeat refine aI qVe4 ?_); (first | apply hS | (refine splice_full qVe3 ?_; apply hS)); clear hS; refine s_nil ?_; apply hK23
      have e1 := outArr_step (Sha.fold (Sha.pad l) ((Sha.pad l).length / 64)) k (by omega)
      rw [show k / 4 = ((k : Int) / 4).toNat by omega, show 24 - 8 * (k % 4) = (24 - 8 * ((k : Int) % 4)).toNat by omega] at e1
      refine done_block ?_; apply hK22; refine region_k g3_ok fun _ hK24 => ?_
      refine sS1 ?_
      refine sS fun _ hS => ?_; (repeat refine aI (by first | omega | exact trivial | rfl | (simp <;> omega)) ?_); apply hS; clear hS
      refine sS1 ?_
      refine s_nil ?_; apply hK24
      refine dnS [] id (k + 1) ⟨by omega, by omega⟩ [0, 1, 2, 3] ?_ ?_ ?_ ?_
      ·exact uVe0
      ·exact uVe1
      ·exact uVe2
      ·exact uVe2
     ·try simp only [decide_eq_false_iff_not, Int.not_lt] at h_t26
      refine WP_exit ?_; refine done_thenx ?_; refine done_thenx ?_
      refine Done_hit ?_
      apply hK16; refine seq_k fun _ hK25 => ?_; refine region_k g3_ok fun _ hK26 => ?_
      refine sS fun _ hS => ?_; (repeat refine aI qVe5 ?_); (first | apply hS | (refine ite_yes qVe5 ?_; apply hS)); clear hS
      refine sS0 fun _ hS => ?_; (repeat refine aI qVe5 ?_); (first | apply hS | (refine splice_full qVe5 ?_; apply hS)); clear hS; refine s_nil ?_; apply hK26; apply hK25
      refine WP_ret (Done_flat g3_ok (fun _ _ h => h) (by first | rfl | assumption) [.cell 2 24] rfl ?_)
      repeat refine aI qVe4 ?_
      try refine ite_yes qVe4 ?_
      obtain rfl : k = 32 := by omega
      show SV.agg (.u8s (outArr _ 32)) = _
      rw [outArr_full]
 ·exact h.elim

end Go.Proofs.YtnhmglhbhnhnhaaDoor

namespace Go.Proofs.YtnhmglhbhnhnhaaDoor
set_option linter.unusedVariables false
open Go.Ab Go.RowKit

theorem qVf0 {a : Prop} (h : a := by first | omega | exact trivial | rfl | (simp [hd] <;> omega)) : a := h
theorem qVf1 {a : Prop} (h : a := by first | omega | exact trivial | rfl | (simp [hd, hlen] <;> omega)) : a := h
theorem uVf0 {a : Prop} (h : a := by
    repeat' (first | exact trivial | refine aI ?_ ?_ | rfl | omega | decide | exact Nat.lt_of_sub_pos (by decide))
    all_goals first | (simp; done) | (simp <;> omega)) : a := h
theorem uVf1 {a : Prop} (h : a := by
    repeat' (first | exact trivial | refine aI ?_ ?_ | rfl | omega | decide | exact Nat.lt_of_sub_pos (by decide))
    all_goals first | exact hd | (show (_ : List UInt8) = _; simp [masked]; done) | (show (_ : List UInt8) = _; simp [masked]; done) | (simp; done)) : a := h
theorem uVf2 {a : Prop} (h : a := by
    repeat' (first | exact trivial | refine aI ?_ ?_ | rfl | omega | decide | exact Nat.lt_of_sub_pos (by decide))) : a := h

theorem take_getD (d : List UInt8) (k : Nat) (h : k < d.length) : d.take k ++ [d.getD k 0] = d.take (k + 1) := by
  rw [List.take_add_one, List.getD_eq_getElem?_getD, List.getElem?_eq_getElem h, Option.getD_some, Option.toList_some]
def masked (d : List UInt8) (m : UInt8) (k : Nat) : List UInt8 := (List.range k).map fun i => if i < 32 then d.getD i 0 ^^^ m else m
theorem masked_length (d : List UInt8) (m : UInt8) (k : Nat) : (masked d m k).length = k := by simp [masked]
theorem masked_lo (d : List UInt8) (m : UInt8) (k : Nat) (h : k < 32) : masked d m k ++ [d.getD k 0 ^^^ m] = masked d m (k + 1) := by
  rw [masked, masked, List.range_succ, List.map_append, List.map_singleton, if_pos h]
theorem masked_hi (d : List UInt8) (m : UInt8) (k : Nat) (h : 32 ≤ k) : masked d m k ++ [m] = masked d m (k + 1) := by
  rw [masked, masked, List.range_succ, List.map_append, List.map_singleton, if_neg (by omega)]


def bytesS : OSpec := fun vs K => match vs with
  | [.agg (.u8s d)] => d.length = 32 ∧ K 5 1 32 (.u8s d)
  | _ => False
set_option maxHeartbeats 400000 in
theorem bytesR_ok : OwnOK Tryd.prog gl 45 bytesS := by
 refine own_of (Γ := g0) (N := 17) Tryd.func45 rfl rfl fun vs K h => ?_
 unfold bytesS at h
 split at h
 ·rename_i d
  obtain ⟨hd, h⟩ := h
  refine ⟨_, _, _, _, h, trivial, by simp, fun w I => ?_⟩
  refine seq_k fun _ hK1 => ?_; refine region_k g0_ok fun _ hK2 => ?_
  refine sS fun _ hS => ?_; (repeat refine aI (by first | omega | exact trivial | rfl | (simp [hd] <;> omega) | exact hd.symm) ?_); apply hS; clear hS
  refine sS1 ?_
  refine s_nil ?_; apply hK2; apply hK1; refine seq_k fun _ hK3 => ?_; refine region_k g0_ok fun _ hK4 => ?_
  refine sS fun _ hS => ?_; (repeat refine aI qVf0 ?_); apply hS; clear hS
  refine sS1 ?_
  refine s_nil ?_; apply hK4; apply hK3; refine seq_k fun _ hK5 => ?_; refine seq_k fun _ hK6 => ?_; refine region_k g0_ok fun _ hK7 => ?_
  refine sS1 ?_
  refine s_nil ?_; apply hK7; apply hK6; refine WP_block ?_
  refine WP_loop (α := Nat × Nat) (fun k => [(1, .c (.ptr 0 0)), (3, .c (.slice 1 0 k.1 k.2)), (4, .c (.int .i64 k.1))]) (fun k => [(0, .own 24 (.u8s d) 32), (1, .own 5 (.u8s (d.take k.1)) k.2)]) 2 (fun k => k.1 ≤ 32) (fun k => 32 - k.1) ?_ ?_
  ·refine dnS [] id (0, 0) (Nat.zero_le _) [0, 1] ?_ ?_ ?_ ?_
   ·exact uVf0
   ·exact uVf1
   ·exact uVf2
   ·exact uVf2
  ·intro k hk
   have hlen : (d.take k.1).length = k.1 := by simp; omega
   refine seq_k fun _ hK8 => ?_; refine seq_k fun _ hK9 => ?_; refine region_k g0_ok fun _ hK10 => ?_
   refine sS1 ?_
   refine sS fun _ hS => ?_; (repeat refine aI qVf0 ?_); apply hS; clear hS; refine s_nil ?_; apply hK10; apply hK9
   refine WP_cond (b := _) rfl (fun h_t7 => ?_) (fun h_t7 => ?_)
   ·try simp only [decide_eq_true_eq] at h_t7
    refine WP_skip ?_; apply hK8; refine seq_k fun _ hK11 => ?_; refine WP_block ?_; refine region_k g0_ok fun _ hK12 => ?_
    iterate 2 refine sS1 ?_
    refine sS fun _ hS => ?_; (repeat refine aI qVf0 ?_); apply hS; clear hS
    refine sS fun _ hS => ?_; (repeat refine aI qVf0 ?_); (first | apply hS | (refine ite_yes qVf1 ?_; apply hS)); clear hS
    refine sS fun _ hS => ?_; (repeat refine aI qVf1 ?_); apply hS; clear hS
    refine sS fun _ hS => ?_; (repeat first | refine aI (by first | omega | exact trivial | rfl | (simp [hlen] <;> omega)) ?_ | refine whole_yes qVf1 ?_ | refine whole_sub ?_); (intro cap5 hcap5; apply hS); clear hS
    refine sS1 ?_
    refine s_nil ?_; apply hK12
    have e1 := take_getD d k.1 (by omega)
    refine done_block ?_; apply hK11; refine region_k g0_ok fun _ hK13 => ?_
    refine sS1 ?_
    refine sS fun _ hS => ?_; (repeat refine aI (by first | omega | exact trivial | rfl | (simp <;> omega)) ?_); apply hS; clear hS
    refine sS1 ?_
    refine s_nil ?_; apply hK13
    refine dnS [] (fun i => if i = 1 then 3 else i) (k.1 + 1, cap5) ⟨by omega, by omega⟩ [0, 3] ?_ ?_ ?_ ?_
    ·exact uVf0
    ·repeat' (first | exact trivial | refine aI ?_ ?_ | rfl | omega | decide | exact Nat.lt_of_sub_pos (by decide))
     all_goals first | exact hd | (show (_ : List UInt8) = _; simp only [Nat.zero_add, Nat.mul_one]; exact e1) | (show (_ : List UInt8) = _; simp [masked]; done) | (simp; done)
    ·exact uVf2
    ·exact uVf2
   ·try simp only [decide_eq_false_iff_not, Int.not_lt] at h_t7
    refine WP_exit ?_; refine done_thenx ?_; refine done_thenx ?_
    refine Done_hit ?_
    apply hK5; refine seq_k fun _ hK14 => ?_
    obtain ⟨k, cap0⟩ := k
    have hk32 : k = 32 := by simp at h_t7 hk; omega
    subst hk32
    refine region_k g0_ok fun _ hK15 => ?_
    iterate 2 refine sS1 ?_
    refine s_nil ?_; apply hK15; apply hK14
    refine WP_ret (Done_own g0_ok (fun _ _ h => h) (by decide) [.tmp 2] rfl ?_)
    show _ ∧ _
    repeat' (first | exact trivial | refine aI ?_ ?_ | rfl | omega | decide | exact Nat.lt_of_sub_pos (by decide))
    all_goals (first | (simp [hd]; done) | (show (_ : List UInt8) = _; rw [← hd, List.take_length]) | (rw [← hd, List.take_length]))
 ·exact h.elim

def maskedS : OSpec := fun vs K => match vs with
  | [.agg (.u8s d), .c (.u8 m)] => d.length = 32 ∧ K 5 1 64 (.u8s (masked d m 64))
  | _ => False
set_option maxHeartbeats 400000 in
theorem maskedR_ok : OwnOK Tryd.prog gl 55 maskedS := by
 refine own_of (Γ := g0) (N := 26) Tryd.func55 rfl rfl fun vs K h => ?_
 unfold maskedS at h
 split at h
 ·rename_i d m
  obtain ⟨hd, h⟩ := h
  refine ⟨_, _, _, _, h, trivial, by simp, fun w I => ?_⟩
  refine seq_k fun _ hK1 => ?_; refine region_k g0_ok fun _ hK2 => ?_
  refine sS fun _ hS => ?_; (repeat refine aI (by first | omega | exact trivial | rfl | (simp [hd] <;> omega) | exact hd.symm) ?_); apply hS; clear hS
  refine sS1 ?_
  refine s_nil ?_; apply hK2; apply hK1; refine seq_k fun _ hK3 => ?_; refine region_k g0_ok fun _ hK4 => ?_
  refine sS fun _ hS => ?_; (repeat refine aI qVf0 ?_); apply hS; clear hS
  refine sS1 ?_
  refine s_nil ?_; apply hK4; apply hK3; refine seq_k fun _ hK5 => ?_; refine seq_k fun _ hK6 => ?_; refine region_k g0_ok fun _ hK7 => ?_
  refine sS1 ?_
  refine s_nil ?_; apply hK7; apply hK6; refine WP_block ?_
  refine WP_loop (α := Nat × Nat) (fun k => [(1, .c (.u8 m)), (2, .c (.ptr 0 0)), (5, .c (.slice 1 0 k.1 k.2)), (6, .c (.int .i64 k.1))]) (fun k => [(0, .own 24 (.u8s d) 32), (1, .own 5 (.u8s (masked d m k.1)) k.2)]) 2 (fun k => k.1 ≤ 64) (fun k => 64 - k.1) ?_ ?_
  ·refine dnS [] id (0, 0) (Nat.zero_le _) [0, 1] ?_ ?_ ?_ ?_
   ·exact uVf0
   ·exact uVf1
   ·exact uVf2
   ·exact uVf2
  ·intro k hk
   have hlen := masked_length d m k.1
   refine seq_k fun _ hK8 => ?_; refine seq_k fun _ hK9 => ?_; refine region_k g0_ok fun _ hK10 => ?_
   refine sS1 ?_
   refine sS fun _ hS => ?_; (repeat refine aI qVf0 ?_); apply hS; clear hS; refine s_nil ?_; apply hK10; apply hK9
   refine WP_cond (b := _) rfl (fun h_t10 => ?_) (fun h_t10 => ?_)
   ·try simp only [decide_eq_true_eq] at h_t10
    refine WP_skip ?_; apply hK8; refine seq_k fun _ hK11 => ?_; refine WP_block ?_; refine seq_k fun _ hK12 => ?_; refine region_k g0_ok fun _ hK13 => ?_
    iterate 2 refine sS1 ?_
    refine s_nil ?_; apply hK13; apply hK12; refine seq_k fun _ hK14 => ?_; refine seq_k fun _ hK15 => ?_; refine region_k g0_ok fun _ hK16 => ?_
    refine sS1 ?_
    refine sS fun _ hS => ?_; (repeat refine aI qVf0 ?_); apply hS; clear hS; refine s_nil ?_; apply hK16; apply hK15
    refine WP_cond (b := _) rfl (fun h_t15 => ?_) (fun h_t15 => ?_)
    ·try simp only [decide_eq_true_eq] at h_t15
     refine region_k g0_ok fun _ hK17 => ?_
     refine sS1 ?_
     refine sS fun _ hS => ?_; (repeat refine aI qVf0 ?_); apply hS; clear hS
     refine sS fun _ hS => ?_; (repeat refine aI qVf0 ?_); (first | apply hS | (refine ite_yes qVf0 ?_; apply hS)); clear hS
     refine sS1 ?_
     refine sS fun _ hS => ?_; (repeat refine aI qVf0 ?_); apply hS; clear hS
     refine sS1 ?_
     refine s_nil ?_; apply hK17; apply hK14; refine region_k g0_ok fun _ hK18 => ?_
     iterate 2 refine sS1 ?_
     refine sS fun _ hS => ?_; (repeat refine aI qVf1 ?_); apply hS; clear hS
     refine sS fun _ hS => ?_; (repeat first | refine aI (by first | omega | exact trivial | rfl | (simp [hlen] <;> omega)) ?_ | refine whole_yes qVf1 ?_ | refine whole_sub ?_); (intro cap3 hcap3; apply hS); clear hS
     refine sS1 ?_
     refine s_nil ?_; apply hK18; refine done_block ?_; apply hK11; refine region_k g0_ok fun _ hK19 => ?_
     refine sS1 ?_
     refine sS fun _ hS => ?_; (repeat refine aI (by first | omega | exact trivial | rfl | (simp <;> omega)) ?_); apply hS; clear hS
     refine sS1 ?_
     refine s_nil ?_; apply hK19
     refine dnS [] (fun i => if i = 1 then 3 else i) (k.1 + 1, cap3) ⟨by omega, by omega⟩ [0, 3] ?_ ?_ ?_ ?_
     ·exact uVf0
     ·repeat' (first | exact trivial | refine aI ?_ ?_ | rfl | omega | decide | exact Nat.lt_of_sub_pos (by decide))
      all_goals first | exact hd | (show (_ : List UInt8) = _; simp only [Nat.zero_add, Nat.mul_one]; first | exact masked_lo d m k.1 (by omega) | exact masked_hi d m k.1 (by omega)) | (show (_ : List UInt8) = _; simp [masked]; done) | (simp; done)
     ·exact uVf2
     ·exact uVf2
    ·try simp only [decide_eq_false_iff_not, Int.not_lt] at h_t15
     refine WP_skip ?_; apply hK14; refine region_k g0_ok fun _ hK20 => ?_
     iterate 2 refine sS1 ?_
     refine sS fun _ hS => ?_; (repeat refine aI qVf1 ?_); apply hS; clear hS
     refine sS fun _ hS => ?_; (repeat first | refine aI (by first | omega | exact trivial | rfl | (simp [hlen] <;> omega)) ?_ | refine whole_yes qVf1 ?_ | refine whole_sub ?_); (intro cap3 hcap3; apply hS); clear hS
     refine sS1 ?_
     refine s_nil ?_; apply hK20; refine done_block ?_; apply hK11; refine region_k g0_ok fun _ hK21 => ?_
     refine sS1 ?_
     refine sS fun _ hS => ?_; (repeat refine aI (by first | omega | exact trivial | rfl | (simp <;> omega)) ?_); apply hS; clear hS
     refine sS1 ?_
     refine s_nil ?_; apply hK21
     refine dnS [] (fun i => if i = 1 then 3 else i) (k.1 + 1, cap3) ⟨by omega, by omega⟩ [0, 3] ?_ ?_ ?_ ?_
     ·exact uVf0
     ·repeat' (first | exact trivial | refine aI ?_ ?_ | rfl | omega | decide | exact Nat.lt_of_sub_pos (by decide))
      all_goals first | exact hd | (show (_ : List UInt8) = _; simp only; first | exact masked_lo d m k.1 (by omega) | exact masked_hi d m k.1 (by omega)) | (show (_ : List UInt8) = _; simp [masked]; done) | (simp; done)
     ·exact uVf2
     ·exact uVf2
   ·try simp only [decide_eq_false_iff_not, Int.not_lt] at h_t10
    refine WP_exit ?_; refine done_thenx ?_; refine done_thenx ?_
    refine Done_hit ?_
    apply hK5; refine seq_k fun _ hK22 => ?_
    obtain ⟨k, cap0⟩ := k
    have hk64 : k = 64 := by simp at h_t10 hk; omega
    subst hk64
    refine region_k g0_ok fun _ hK23 => ?_
    iterate 2 refine sS1 ?_
    refine s_nil ?_; apply hK23; apply hK22
    refine WP_ret (Done_own g0_ok (fun _ _ h => h) (by decide) [.tmp 4] rfl ?_)
    show _ ∧ _
    repeat' (first | exact trivial | refine aI ?_ ?_ | rfl | omega | decide | exact Nat.lt_of_sub_pos (by decide))
 ·exact h.elim

end Go.Proofs.YtnhmglhbhnhnhaaDoor

namespace Go.Proofs.YtnhmglhbhnhnhaaDoor
set_option linter.unusedVariables false
open Go.Ab Go.RowKit

theorem qVg0 {a : Prop} (h : a := by first | omega | exact trivial | rfl | (simp [hd, hm, hs] <;> omega) | exact hd.symm | exact (hs _).symm) : a := h
theorem qVg1 {a : Prop} (h : a := by first | omega | exact trivial | rfl | (simp [hd] <;> omega) | exact hd.symm | exact (hs _).symm) : a := h
theorem qVg2 {a : Prop} (h : a := by first | omega | exact trivial | rfl | (simp [hs] <;> omega) | exact hd.symm | exact (hs _).symm) : a := h
theorem qVg3 {a : Prop} (h : a := by first | omega | exact trivial | rfl | (simp [hm, hs] <;> omega) | exact hd.symm | exact (hs _).symm) : a := h

def keyed (d l : List UInt8) : List UInt8 := Sha.sum (masked d 92 64 ++ Sha.sum (masked d 54 64 ++ l))
theorem keyed_length (d l : List UInt8) : (keyed d l).length = 32 := Sha.sum_length _
noncomputable def g5 : Ctx := { P := Tryd.prog, ty := ty, glob := gl, fs := [(56, .flat sumS), (55, .own maskedS), (45, .own bytesS)] }
theorem g5_ok : g5.OK := ⟨tyOK, ⟨⟨enters_mk Tryd.func56 (by kernel_rfl) rfl, sumR_ok⟩, ⟨enters_mk Tryd.func55 (by kernel_rfl) rfl, maskedR_ok⟩, ⟨enters_mk Tryd.func45 (by kernel_rfl) rfl, bytesR_ok⟩, trivial⟩, mixed⟩
@[simp] theorem g5_ty : g5.ty = ty := rfl

attribute [local irreducible] Sha.sum masked
def keyedS : QSpec := fun vs K => match vs with
  | [.agg (.u8s d), .c (.ds n (.u8s l))] => (d.length = 32 ∧ n = l.length ∧ n ≤ 1000000) ∧ K (.agg (.u8s (keyed d l)))
  | _ => False
set_option maxHeartbeats 400000 in
theorem keyedR_ok : FlatOK Tryd.prog gl 46 keyedS := by
 refine flat_of (Γ := g5) (N := 21) Tryd.func46 rfl rfl fun vs K h => ?_
 unfold keyedS at h
 split at h
 ·rename_i d n l
  obtain ⟨⟨hd, hn, hl⟩, h⟩ := h
  subst hn
  refine ⟨_, h, rfl, by simp, fun w I => ?_⟩
  have hm := masked_length d
  have hs := fun b => Sha.sum_length b
  refine seq_k fun _ hK1 => ?_; refine region_k g5_ok fun _ hK2 => ?_
  refine sS fun _ hS => ?_; (repeat refine aI qVg0 ?_); apply hS; clear hS
  refine sS fun _ hS => ?_; (repeat refine aI qVg0 ?_); apply hS; clear hS; refine s_nil ?_; apply hK2; apply hK1; refine seq_k fun _ hK3 => ?_; refine region_k g5_ok fun _ hK4 => ?_
  refine sS fun _ hS => ?_; (repeat refine aI qVg1 ?_); (first | apply hS | (refine ite_yes qVg1 ?_; apply hS)); clear hS
  refine sS fun _ hS => ?_; (repeat first | refine aI qVg0 ?_ | refine whole_yes qVg0 ?_ | refine whole_sub ?_); (first | apply hS | (intro cap1 hcap1; apply hS)); clear hS
  refine sS1 ?_
  refine s_nil ?_; apply hK4; apply hK3; refine seq_k fun _ hK5 => ?_; refine region_k g5_ok fun _ hK6 => ?_
  iterate 2 refine sS1 ?_
  refine sS fun _ hS => ?_; (repeat first | refine aI (by first | omega | exact trivial | rfl | (simp [hm] <;> omega) | exact hd.symm | exact (hs _).symm) ?_ | refine whole_yes qVg0 ?_ | refine whole_sub ?_); (intro cap2 hcap2; apply hS); clear hS
  refine sS fun _ hS => ?_; (repeat first | refine aI (by first | omega | exact trivial | rfl | (simp [hm] <;> omega) | exact hd.symm | exact (hs _).symm) ?_ | refine whole_yes (by first | omega | exact trivial | rfl | (simp [hm] <;> omega) | exact hd.symm | exact (hs _).symm) ?_ | refine whole_sub ?_); (first | apply hS | (intro cap3 hcap3; apply hS)); clear hS
  refine sS fun _ hS => ?_; (repeat refine aI qVg0 ?_); apply hS; clear hS
  refine sS0 fun _ hS => ?_; (repeat refine aI qVg2 ?_); (first | apply hS | (refine splice_full qVg2 ?_; apply hS)); clear hS; refine s_nil ?_; apply hK6; apply hK5; refine seq_k fun _ hK7 => ?_; refine region_k g5_ok fun _ hK8 => ?_
  refine sS fun _ hS => ?_; (repeat refine aI qVg1 ?_); (first | apply hS | (refine ite_yes qVg1 ?_; apply hS)); clear hS
  refine sS fun _ hS => ?_; (repeat first | refine aI qVg0 ?_ | refine whole_yes qVg0 ?_ | refine whole_sub ?_); (first | apply hS | (intro cap1 hcap1; apply hS)); clear hS
  refine sS1 ?_
  refine s_nil ?_; apply hK8; apply hK7; refine seq_k fun _ hK9 => ?_; refine region_k g5_ok fun _ hK10 => ?_
  refine sS1 ?_
  refine sS fun _ hS => ?_; (repeat refine aI qVg2 ?_); (first | apply hS | (refine ite_yes qVg2 ?_; apply hS)); clear hS
  refine sS fun _ hS => ?_; (repeat first | refine aI qVg2 ?_ | refine whole_yes qVg0 ?_ | refine whole_sub ?_); (first | apply hS | (intro cap2 hcap2; apply hS)); clear hS
  refine sS fun _ hS => ?_; (repeat first | refine aI qVg3 ?_ | refine whole_yes qVg2 ?_ | refine whole_sub ?_); (intro cap3 hcap3; apply hS); clear hS
  refine sS fun _ hS => ?_; (repeat first | refine aI qVg3 ?_ | refine whole_yes qVg3 ?_ | refine whole_sub ?_); (first | apply hS | (intro cap4 hcap4; apply hS)); clear hS
  refine sS0 fun _ hS => ?_; (repeat refine aI qVg2 ?_); (first | apply hS | (refine splice_full qVg2 ?_; apply hS)); clear hS; refine s_nil ?_; apply hK10; apply hK9
  refine WP_ret (Done_flat g5_ok (fun _ _ h => h) (by first | rfl | assumption) [.cell 4 24] rfl ?_)
  repeat refine aI (by first | omega | exact trivial | rfl | (simp [hs] <;> omega)) ?_
  try refine ite_yes (by first | omega | exact trivial | rfl | (simp [hs] <;> omega)) ?_
  show _ = _
  rfl
 ·exact h.elim

end Go.Proofs.YtnhmglhbhnhnhaaDoor

namespace Go.Proofs.YtnhmglhbhnhnhaaDoor
set_option linter.unusedVariables false
open Go.Ab Go.RowKit

theorem qVi0 {a : Prop} (h : a := by first | omega | exact trivial | rfl | (simp [hs, hl, hws, hcs] <;> omega) | exact hs.symm | exact hws.symm | exact hcs.symm) : a := h
theorem qVi1 {a : Prop} (h : a := by first | omega | exact trivial | rfl | (simp <;> omega) | exact hs.symm | exact hws.symm | exact hcs.symm) : a := h
theorem qVi2 {a : Prop} (h : a := by first | omega | exact trivial | rfl | (simp [hl] <;> omega) | exact hs.symm | exact hws.symm | exact hcs.symm) : a := h
theorem qVi3 {a : Prop} (h : a := by first | omega | exact trivial | rfl | (simp [hs, hl, hws, hcs, hlen] <;> omega) | exact hs.symm | exact hws.symm | exact hcs.symm) : a := h
theorem qVi4 {a : Prop} (h : a := by first | omega | exact trivial | rfl | (simp [hlen] <;> omega) | exact hs.symm | exact hws.symm | exact hcs.symm) : a := h
theorem qVi5 {a : Prop} (h : a := by first | omega | exact trivial | rfl | (simp [hs] <;> omega) | exact hs.symm | exact hws.symm | exact hcs.symm) : a := h
theorem qVi6 {a : Prop} (h : a := by first | omega | exact trivial | rfl | (simp [hs, hl, hws, hcs, hlen] <;> omega) | exact hlen.symm) : a := h
theorem qVi7 {a : Prop} (h : a := by first | omega | exact trivial | rfl | (simp [hlen] <;> omega) | exact hlen.symm) : a := h
theorem qVi8 {a : Prop} (h : a := by first | omega | exact trivial | rfl | (simp [hlen2] <;> omega) | exact hs.symm | exact hws.symm | exact hcs.symm) : a := h
theorem qVi9 {a : Prop} (h : a := by first | omega | exact trivial | rfl | (simp [hs, hl, hws, hcs, hlen2, hlen64] <;> omega) | exact hs.symm | exact hws.symm | exact hcs.symm) : a := h
theorem uVi0 {a : Prop} (h : a := by
    repeat' (first | exact trivial | refine aI ?_ ?_ | rfl | omega | decide | exact Nat.lt_of_sub_pos (by decide))) : a := h
theorem uVi1 {a : Prop} (h : a := by
    repeat' (first | exact trivial | refine aI ?_ ?_ | rfl | omega | decide | exact Nat.lt_of_sub_pos (by decide))
    all_goals first | exact hs | exact hlen | (show (_ : List UInt32) = _; simp only [Nat.zero_add, Nat.mul_one]; exact e1)) : a := h

theorem rot_and (k : Nat) (h0 : 0 < k) (h1 : k < 32) : UInt64.ofInt (-(k : Int)) &&& 31 = UInt64.ofNat (32 - k) := by
  have h : ∀ k : Fin 32, 0 < k.val → UInt64.ofInt (-(k.val : Int)) &&& 31 = UInt64.ofNat (32 - k.val) := by decide +kernel
  exact h ⟨k, h1⟩ h0
theorem rot_nat (k : Nat) (h1 : k < 32) : (UInt64.ofNat (32 - k)).toNat = 32 - k := by
  have h : ∀ k : Fin 32, (UInt64.ofNat (32 - k.val)).toNat = 32 - k.val := by decide +kernel
  exact h ⟨k, h1⟩
theorem rot_sub (k : Nat) (h1 : k < 32) : (32 - UInt64.ofNat (32 - k)).toNat = k := by
  have h : ∀ k : Fin 32, (32 - UInt64.ofNat (32 - k.val)).toNat = k.val := by decide +kernel
  exact h ⟨k, h1⟩

def rotlS : QSpec := fun vs K => match vs with
  | [.c (.u32 x), .c (.int .i64 k)] => (-32 < k ∧ k < 0) ∧ K (.c (.u32 (Sha.rotr x (-k).toNat)))
  | _ => False
set_option maxHeartbeats 400000 in
theorem rotl_ok : FlatOK Tryd.prog gl 68 rotlS := by
 refine flat_of (Γ := g0) (N := 17) Tryd.func68 rfl rfl fun vs K h => ?_
 unfold rotlS at h
 split at h
 ·rename_i x k
  obtain ⟨⟨h0, h1⟩, h⟩ := h
  refine ⟨_, h, rfl, by simp, fun w I => ?_⟩
  have hr1 := rot_and (-k).toNat (by omega) (by omega)
  rw [show -(((-k).toNat : Nat) : Int) = k by omega] at hr1
  have hr2 := rot_nat (-k).toNat (by omega)
  have hr3 := rot_sub (-k).toNat (by omega)
  refine seq_k fun _ hK1 => ?_; refine region_k g0_ok fun _ hK2 => ?_
  refine sS1 ?_
  refine s_nil ?_; apply hK2; apply hK1; refine seq_k fun _ hK3 => ?_; refine region_k g0_ok fun _ hK4 => ?_
  refine sS1 ?_
  refine sS fun _ hS => ?_; (repeat first | refine aI (by first | omega | exact trivial | rfl | (simp <;> omega)) ?_ | refine whole_yes (by first | omega | exact trivial | rfl | (simp <;> omega)) ?_ | refine whole_sub ?_); apply hS; clear hS
  refine sS fun _ hS => ?_; (repeat refine aI (by first | omega | exact trivial | rfl | (simp <;> omega)) ?_); apply hS; clear hS
  refine sS1 ?_
  refine s_nil ?_; apply hK4; apply hK3; refine seq_k fun _ hK5 => ?_; refine region_k g0_ok fun _ hK6 => ?_
  iterate 2 refine sS1 ?_
  refine sS fun _ hS => ?_; (repeat refine aI (by first | omega | exact trivial | rfl | (simp <;> omega)) ?_); apply hS; clear hS
  iterate 2 refine sS1 ?_
  refine sS fun _ hS => ?_; (repeat refine aI (by first | omega | exact trivial | rfl | (simp <;> omega)) ?_); apply hS; clear hS
  refine sS fun _ hS => ?_; (repeat refine aI (by first | omega | exact trivial | rfl | (simp <;> omega)) ?_); apply hS; clear hS
  refine sS fun _ hS => ?_; (repeat refine aI (by first | omega | exact trivial | rfl | (simp <;> omega)) ?_); apply hS; clear hS
  refine sS1 ?_
  refine s_nil ?_; apply hK6; apply hK5
  refine WP_ret (Done_flat g0_ok (fun _ _ h => h) (by first | rfl | assumption) [.tmp 4] rfl ?_)
  repeat refine aI (by first | omega | exact trivial | rfl | (simp <;> omega)) ?_
  try refine ite_yes (by first | omega | exact trivial | rfl | (simp <;> omega)) ?_
  show SV.c (.u32 (shl32 x (((UInt64.ofInt k &&& 31).toNat : Nat) : Int).toNat ||| shr32 x (((32 - (UInt64.ofInt k &&& 31)).toNat : Nat) : Int).toNat)) = _
  rw [hr1, Int.toNat_natCast, Int.toNat_natCast, hr2, hr3, Sha.rotr, UInt32.or_comm]
 ·exact h.elim

theorem sched_or (l : List UInt8) (k : Nat) (h : k < 16) : (Sha.schedArr l k).set k (shl32 (l.getD (4 * k) 0).toUInt32 24 ||| shl32 (l.getD (4 * k + 1) 0).toUInt32 16 ||| shl32 (l.getD (4 * k + 2) 0).toUInt32 8 ||| (l.getD (4 * k + 3) 0).toUInt32) = Sha.schedArr l (k + 1) := by
  rw [← Sha.schedArr_step l k (by omega), Sha.next, if_pos (by rw [Sha.sched_length]; exact h), Sha.word, Sha.sched_length]
theorem addAll_comm (s t : List UInt32) : Sha.addAll s t = Sha.addAll t s := by
  rw [Sha.addAll, Sha.addAll, List.zipWith_comm]
  congr 1
  funext x y
  exact UInt32.add_comm _ _
noncomputable def g4 : Ctx := { P := Tryd.prog, ty := ty, glob := gl, fs := [(68, .flat rotlS)] }
theorem g4_ok : g4.OK := ⟨tyOK, ⟨⟨enters_mk Tryd.func68 (by kernel_rfl) rfl, rotl_ok⟩, trivial⟩, mixed⟩
@[simp] theorem g4_ty : g4.ty = ty := rfl

attribute [local irreducible] Sha.sched Sha.consts Sha.rounds Sha.addTo Sha.schedArr Sha.compress Sha.rotr
def compressP : PSpec := fun te c cap off vs K => match c, vs with
  | .u32s s, [.c (.ds n (.u8s l))] => (te = 97 ∧ cap = 8 ∧ off = 0 ∧ n = 64 ∧ l.length = 64 ∧ s.length = 8) ∧ K (.u32s (Sha.compress s l)) undefV
  | _, _ => False
set_option maxHeartbeats 2000000 in
theorem compress_ok : PtrOK Tryd.prog gl 63 compressP := by
 refine ptr_of (Γ := g4) (N := 205) Tryd.func63 rfl rfl fun te c cap off vs K h => ?_
 unfold compressP at h
 split at h
 ·rename_i s n l
  obtain ⟨⟨hte, hcap, hoff, hn, hl, hs⟩, h⟩ := h
  subst hte hcap hoff hn
  refine ⟨_, _, h, rfl, rfl, by simp, fun w I b => ?_⟩
  rw [Sha.compress]
  have hws : (Sha.sched l 64).length = 64 := Sha.sched_length l 64
  have hcs := consts_length
  refine seq_k fun _ hK1 => ?_; refine region_k g4_ok fun _ hK2 => ?_
  refine sS fun _ hS => ?_; (repeat refine aI qVi0 ?_); apply hS; clear hS; refine s_nil ?_; apply hK2; apply hK1; refine seq_k fun _ hK3 => ?_; refine seq_k fun _ hK4 => ?_; refine region_k g4_ok fun _ hK5 => ?_
  refine sS1 ?_
  refine s_nil ?_; apply hK5; apply hK4; refine WP_block ?_
  refine WP_loop (α := Nat) (fun k => [(0, .c (.ptr 0 0)), (1, .c (.ds 64 (.u8s l))), (4, .c (.ptr 1 0)), (17, .c (.int .i64 k))]) (fun k => [(0, .own 97 (.u32s (s)) 8), (1, .own 106 (.u32s (Sha.schedArr l k)) 64)]) 2 (fun k => k ≤ 16) (fun k => 16 - k) ?_ ?_
  ·refine Done_some [] id 0 (Nat.zero_le _) ⟨?_, ?_, (by decide : List.Nodup ([0, 1] : List Nat)), ?_, ?_, ⟨Nat.le_of_ble_eq_true rfl, fun i hi => rfl⟩⟩
   ·exact uVi0
   ·repeat' (first | exact trivial | refine aI ?_ ?_ | rfl | omega | decide | exact Nat.lt_of_sub_pos (by decide))
    all_goals first | exact hs | exact hlen | (show (_ : List UInt32) = _; simp [Sha.schedArr, Sha.sched])
   ·exact uVi0
   ·exact uVi0
  ·intro k hk
   have hlen : (Sha.schedArr l k).length = 64 := Sha.schedArr_length l k (by omega)
   refine seq_k fun _ hK6 => ?_; refine region_k g4_ok fun _ hK7 => ?_
   refine sS fun _ hS => ?_; (repeat refine aI qVi0 ?_); apply hS; clear hS; refine s_nil ?_; apply hK7; apply hK6; refine seq_k fun _ hK8 => ?_
   refine WP_cond (b := _) rfl (fun h_t18 => ?_) (fun h_t18 => ?_)
   ·try simp only [decide_eq_true_eq] at h_t18
    refine WP_skip ?_; apply hK8; refine seq_k fun _ hK9 => ?_; refine WP_block ?_; refine seq_k fun _ hK10 => ?_; refine region_k g4_ok fun _ hK11 => ?_
    iterate 2 refine sS1 ?_
    refine s_nil ?_; apply hK11; apply hK10
    have hk16 : k < 16 := by omega
    refine tail_k g4_ok 35 (by kernel_rfl) fun _ hK12 => ?_
    simp only [List.take_succ_cons, List.take_zero, List.drop_succ_cons, List.drop_zero]
    iterate 3 refine qQ1 ?_
    refine qS fun _ hS => ?_; (repeat refine aI qVi1 ?_); apply hS; clear hS
    refine qS fun _ hS => ?_; (repeat refine aI qVi2 ?_); apply hS; clear hS
    refine qS fun _ hS => ?_; (repeat refine aI qVi2 ?_); (first | apply hS | (refine ite_yes qVi3 ?_; apply hS)); clear hS
    refine qS fun _ hS => ?_; (repeat first | refine aI qVi3 ?_ | refine whole_yes qVi3 ?_ | refine whole_sub ?_); apply hS; clear hS
    refine qS fun _ hS => ?_; (repeat refine aI qVi3 ?_); apply hS; clear hS
    iterate 2 refine qQ1 ?_
    refine qS fun _ hS => ?_; (repeat refine aI qVi1 ?_); apply hS; clear hS
    refine qS fun _ hS => ?_; (repeat refine aI qVi1 ?_); apply hS; clear hS
    refine qS fun _ hS => ?_; (repeat refine aI qVi2 ?_); apply hS; clear hS
    refine qS fun _ hS => ?_; (repeat refine aI qVi2 ?_); (first | apply hS | (refine ite_yes qVi3 ?_; apply hS)); clear hS
    refine qS fun _ hS => ?_; (repeat first | refine aI qVi3 ?_ | refine whole_yes qVi3 ?_ | refine whole_sub ?_); apply hS; clear hS
    refine qS fun _ hS => ?_; (repeat refine aI qVi3 ?_); apply hS; clear hS
    refine qS fun _ hS => ?_; (repeat refine aI qVi3 ?_); apply hS; clear hS
    iterate 2 refine qQ1 ?_
    refine qS fun _ hS => ?_; (repeat refine aI qVi1 ?_); apply hS; clear hS
    refine qS fun _ hS => ?_; (repeat refine aI qVi1 ?_); apply hS; clear hS
    refine qS fun _ hS => ?_; (repeat refine aI qVi2 ?_); apply hS; clear hS
    refine qS fun _ hS => ?_; (repeat refine aI qVi2 ?_); (first | apply hS | (refine ite_yes qVi3 ?_; apply hS)); clear hS
    refine qS fun _ hS => ?_; (repeat first | refine aI qVi3 ?_ | refine whole_yes qVi3 ?_ | refine whole_sub ?_); apply hS; clear hS
    refine qS fun _ hS => ?_; (repeat refine aI qVi3 ?_); apply hS; clear hS
    refine qS fun _ hS => ?_; (repeat refine aI qVi3 ?_); apply hS; clear hS
    iterate 2 refine qQ1 ?_
    refine qS fun _ hS => ?_; (repeat refine aI qVi1 ?_); apply hS; clear hS
    refine qS fun _ hS => ?_; (repeat refine aI qVi1 ?_); apply hS; clear hS
    refine qS fun _ hS => ?_; (repeat refine aI qVi2 ?_); apply hS; clear hS
    refine qS fun _ hS => ?_; (repeat refine aI qVi2 ?_); (first | apply hS | (refine ite_yes qVi3 ?_; apply hS)); clear hS
    refine qS fun _ hS => ?_; (repeat first | refine aI qVi3 ?_ | refine whole_yes qVi3 ?_ | refine whole_sub ?_); apply hS; clear hS
    refine qS fun _ hS => ?_; (repeat refine aI qVi3 ?_); apply hS; clear hS
    refine qS fun _ hS => ?_; (repeat refine aI qVi4 ?_); apply hS; clear hS; refine q_nil ?_
    refine sS0 fun _ hS => ?_; (repeat refine aI qVi4 ?_); (first | apply hS | (refine splice_full qVi3 ?_; apply hS)); clear hS; refine s_nil ?_; apply hK12
    have e1 := sched_or l k hk16
    refine done_block ?_; apply hK9; refine region_k g4_ok fun _ hK13 => ?_
    refine sS fun _ hS => ?_; (repeat refine aI qVi1 ?_); apply hS; clear hS
    refine sS1 ?_
    refine s_nil ?_; apply hK13
    refine Done_some [] id (k + 1) ⟨by omega, by omega⟩ ⟨?_, ?_, (by decide : List.Nodup ([0, 1] : List Nat)), ?_, ?_, ⟨Nat.le_of_ble_eq_true rfl, fun i hi => rfl⟩⟩
    ·exact uVi0
    ·exact uVi1
    ·exact uVi0
    ·exact uVi0
   ·try simp only [decide_eq_false_iff_not, Int.not_lt] at h_t18
    refine WP_exit ?_; refine done_thenx ?_; refine done_thenx ?_
    refine Done_hit ?_
    apply hK3; refine seq_k fun _ hK14 => ?_; refine seq_k fun _ hK15 => ?_; refine region_k g4_ok fun _ hK16 => ?_
    refine sS1 ?_
    refine s_nil ?_; apply hK16; apply hK15; refine WP_block ?_
    obtain rfl : k = 16 := by omega
    refine WP_loop (α := Nat) (fun k => [(0, .c (.ptr 0 0)), (1, .c (.ds 64 (.u8s l))), (4, .c (.ptr 1 0)), (6, .c (.int .i64 k))]) (fun k => [(0, .own 97 (.u32s (s)) 8), (1, .own 106 (.u32s (Sha.schedArr l k)) 64)]) 2 (fun k => 16 ≤ k ∧ k ≤ 64) (fun k => 64 - k) ?_ ?_
    ·refine Done_some [] id 16 (by omega) ⟨?_, ?_, (by decide : List.Nodup ([0, 1] : List Nat)), ?_, ?_, ⟨Nat.le_of_ble_eq_true rfl, fun i hi => rfl⟩⟩
     ·exact uVi0
     ·exact uVi0
     ·exact uVi0
     ·exact uVi0
    ·intro k hk
     have hlen : (Sha.schedArr l k).length = 64 := Sha.schedArr_length l k hk.2
     refine seq_k fun _ hK17 => ?_; refine seq_k fun _ hK18 => ?_; refine region_k g4_ok fun _ hK19 => ?_
     refine sS1 ?_
     refine sS fun _ hS => ?_; (repeat refine aI qVi0 ?_); apply hS; clear hS; refine s_nil ?_; apply hK19; apply hK18
     refine WP_cond (b := _) rfl (fun h_t57 => ?_) (fun h_t57 => ?_)
     ·try simp only [decide_eq_true_eq] at h_t57
      refine WP_skip ?_; apply hK17; refine seq_k fun _ hK20 => ?_; refine WP_block ?_; refine seq_k fun _ hK21 => ?_
      have hk64 : k < 64 := by omega
      refine quiet_k g4_ok (by kernel_rfl) fun _ hK22 => ?_
      refine qQ1 ?_
      refine qS fun _ hS => ?_; (repeat refine aI qVi1 ?_); apply hS; clear hS
      refine qS fun _ hS => ?_; (repeat refine aI qVi4 ?_); apply hS; clear hS
      refine qS fun _ hS => ?_; (repeat refine aI qVi4 ?_); (first | apply hS | (refine ite_yes qVi3 ?_; apply hS)); clear hS
      refine qQ1 ?_
      refine qS fun _ hS => ?_; (repeat refine aI qVi1 ?_); apply hS; clear hS
      refine qS fun _ hS => ?_; (repeat refine aI qVi4 ?_); apply hS; clear hS
      refine qS fun _ hS => ?_; (repeat refine aI qVi4 ?_); (first | apply hS | (refine ite_yes qVi3 ?_; apply hS)); clear hS
      iterate 2 refine qQ1 ?_
      refine q_nil ?_; apply hK22; apply hK21; refine seq_k fun _ hK23 => ?_; refine region_k g4_ok fun _ hK24 => ?_
      refine sS1 ?_
      refine sS fun _ hS => ?_; (repeat first | refine aI qVi0 ?_ | refine whole_yes qVi0 ?_ | refine whole_sub ?_); (first | apply hS | (intro cap1 hcap1; apply hS)); clear hS
      refine sS1 ?_
      refine sS fun _ hS => ?_; (repeat first | refine aI qVi0 ?_ | refine whole_yes qVi0 ?_ | refine whole_sub ?_); (first | apply hS | (intro cap3 hcap3; apply hS)); clear hS
      refine sS fun _ hS => ?_; (repeat refine aI qVi0 ?_); apply hS; clear hS
      refine sS1 ?_
      refine sS fun _ hS => ?_; (repeat refine aI qVi0 ?_); apply hS; clear hS
      refine sS fun _ hS => ?_; (repeat refine aI qVi0 ?_); apply hS; clear hS
      refine sS1 ?_
      refine s_nil ?_; apply hK24; apply hK23; refine seq_k fun _ hK25 => ?_; refine region_k g4_ok fun _ hK26 => ?_
      refine sS1 ?_
      refine sS fun _ hS => ?_; (repeat first | refine aI qVi0 ?_ | refine whole_yes qVi0 ?_ | refine whole_sub ?_); (first | apply hS | (intro cap1 hcap1; apply hS)); clear hS
      refine sS1 ?_
      refine sS fun _ hS => ?_; (repeat first | refine aI qVi0 ?_ | refine whole_yes qVi0 ?_ | refine whole_sub ?_); (first | apply hS | (intro cap3 hcap3; apply hS)); clear hS
      refine sS fun _ hS => ?_; (repeat refine aI qVi0 ?_); apply hS; clear hS
      refine sS1 ?_
      refine sS fun _ hS => ?_; (repeat refine aI qVi0 ?_); apply hS; clear hS
      refine sS fun _ hS => ?_; (repeat refine aI qVi0 ?_); apply hS; clear hS
      refine sS1 ?_
      refine s_nil ?_; apply hK26; apply hK25
      refine tail_k g4_ok 15 (by kernel_rfl) fun _ hK27 => ?_
      simp only [List.take_succ_cons, List.take_zero, List.drop_succ_cons, List.drop_zero]
      iterate 2 refine qQ1 ?_
      refine qS fun _ hS => ?_; (repeat refine aI qVi1 ?_); apply hS; clear hS
      refine qS fun _ hS => ?_; (repeat refine aI qVi4 ?_); apply hS; clear hS
      refine qS fun _ hS => ?_; (repeat refine aI qVi4 ?_); (first | apply hS | (refine ite_yes qVi3 ?_; apply hS)); clear hS
      refine qQ1 ?_
      refine qS fun _ hS => ?_; (repeat refine aI qVi3 ?_); apply hS; clear hS
      refine qQ1 ?_
      refine qS fun _ hS => ?_; (repeat refine aI qVi1 ?_); apply hS; clear hS
      refine qS fun _ hS => ?_; (repeat refine aI qVi4 ?_); apply hS; clear hS
      refine qS fun _ hS => ?_; (repeat refine aI qVi4 ?_); (first | apply hS | (refine ite_yes qVi3 ?_; apply hS)); clear hS
      refine qS fun _ hS => ?_; (repeat refine aI qVi3 ?_); apply hS; clear hS
      refine qQ1 ?_
      refine qS fun _ hS => ?_; (repeat refine aI qVi3 ?_); apply hS; clear hS
      refine qS fun _ hS => ?_; (repeat refine aI qVi4 ?_); apply hS; clear hS; refine q_nil ?_
      refine sS0 fun _ hS => ?_; (repeat refine aI qVi4 ?_); (first | apply hS | (refine splice_full qVi3 ?_; apply hS)); clear hS; refine s_nil ?_; apply hK27
      have e1 := sched_hi l k hk.1 (by omega)
      rw [show k - 15 = ((k : Int) - 15).toNat by omega, show k - 2 = ((k : Int) - 2).toNat by omega, show k - 7 = ((k : Int) - 7).toNat by omega, show k - 16 = ((k : Int) - 16).toNat by omega] at e1
      refine done_block ?_; apply hK20; refine region_k g4_ok fun _ hK28 => ?_
      refine sS1 ?_
      refine sS fun _ hS => ?_; (repeat refine aI qVi1 ?_); apply hS; clear hS
      refine sS1 ?_
      refine s_nil ?_; apply hK28
      refine Done_some [] id (k + 1) ⟨by omega, by omega⟩ ⟨?_, ?_, (by decide : List.Nodup ([0, 1] : List Nat)), ?_, ?_, ⟨Nat.le_of_ble_eq_true rfl, fun i hi => rfl⟩⟩
      ·exact uVi0
      ·exact uVi1
      ·exact uVi0
      ·exact uVi0
     ·try simp only [decide_eq_false_iff_not, Int.not_lt] at h_t57
      refine WP_exit ?_; refine done_thenx ?_; refine done_thenx ?_
      refine Done_hit ?_
      apply hK14; refine seq_k fun _ hK29 => ?_
      obtain rfl : k = 64 := by omega
      refine region_k g4_ok fun _ hK30 => ?_
      refine sS1 ?_
      refine sS fun _ hS => ?_; (repeat refine aI qVi5 ?_); apply hS; clear hS
      refine sS fun _ hS => ?_; (repeat refine aI qVi5 ?_); (first | apply hS | (refine ite_yes qVi5 ?_; apply hS)); clear hS
      refine sS fun _ hS => ?_; (repeat refine aI qVi3 ?_); apply hS; clear hS
      refine sS0 fun _ hS => ?_; (repeat refine aI qVi5 ?_); (first | apply hS | (refine splice_full qVi5 ?_; apply hS)); clear hS; refine s_nil ?_; apply hK30; apply hK29; refine seq_k fun _ hK31 => ?_; refine seq_k fun _ hK32 => ?_; refine region_k g4_ok fun _ hK33 => ?_
      refine sS fun _ hS => ?_; (repeat refine aI (by first | omega | exact trivial | rfl | (simp [hcs] <;> omega) | exact hcs.symm) ?_); (first | apply hS | (refine ite_yes (by first | omega | exact trivial | rfl | (simp [hcs] <;> omega) | exact hcs.symm) ?_; apply hS)); clear hS
      refine sS1 ?_
      refine s_nil ?_; apply hK33; apply hK32; refine WP_block ?_
      refine WP_loop (α := Nat) (fun k => [(0, .c (.ptr 0 0)), (1, .c (.ds 64 (.u8s l))), (4, .c (.ptr 1 0)), (11, .c (.ptr 2 0)), (102, .agg (.u32s Sha.consts)), (103, .c (.int .i64 k))]) (fun k => [(0, .own 97 (.u32s (s)) 8), (1, .own 106 (.u32s (Sha.sched l 64)) 64), (2, .own 97 (.u32s (Sha.rounds (Sha.sched l 64) s k)) 8)]) 3 (fun k => k ≤ 64) (fun k => 64 - k) ?_ ?_
      ·refine Done_some [] id 0 (Nat.zero_le _) ⟨?_, ?_, (by decide : List.Nodup ([0, 1, 2] : List Nat)), ?_, ?_, ⟨Nat.le_of_ble_eq_true rfl, fun i hi => rfl⟩⟩
       ·exact uVi0
       ·repeat' (first | exact trivial | refine aI ?_ ?_ | rfl | omega | decide | exact Nat.lt_of_sub_pos (by decide))
        all_goals first | exact hs | exact hlen | (show (_ : List UInt32) = _; first | (simp only [Sha.rounds]; done) | rw [Sha.schedArr_full])
       ·exact uVi0
       ·exact uVi0
      ·intro k hk
       have hlen : (Sha.rounds (Sha.sched l 64) s k).length = 8 := Sha.rounds_length (Sha.sched l 64) s hs k
       refine seq_k fun _ hK34 => ?_; refine region_k g4_ok fun _ hK35 => ?_
       refine sS fun _ hS => ?_; (repeat refine aI qVi0 ?_); apply hS; clear hS; refine s_nil ?_; apply hK35; apply hK34; refine seq_k fun _ hK36 => ?_
       refine WP_cond (b := _) rfl (fun h_t104 => ?_) (fun h_t104 => ?_)
       ·try simp only [decide_eq_true_eq] at h_t104
        refine WP_skip ?_; apply hK36; refine seq_k fun _ hK37 => ?_; refine WP_block ?_; refine seq_k fun _ hK38 => ?_; refine region_k g4_ok fun _ hK39 => ?_
        refine sS1 ?_
        refine sS fun _ hS => ?_; (repeat refine aI (by first | omega | exact trivial | rfl | (simp [hcs] <;> omega) | exact hcs) ?_); apply hS; clear hS
        iterate 2 refine sS1 ?_
        refine s_nil ?_; apply hK39; apply hK38; refine seq_k fun _ hK40 => ?_; refine quiet_k g4_ok (by kernel_rfl) fun _ hK41 => ?_
        refine qS fun _ hS => ?_; (repeat refine aI qVi4 ?_); apply hS; clear hS
        refine qS fun _ hS => ?_; (repeat refine aI qVi4 ?_); (first | apply hS | (refine ite_yes qVi3 ?_; apply hS)); clear hS
        refine qS fun _ hS => ?_; (repeat refine aI qVi4 ?_); apply hS; clear hS
        refine qS fun _ hS => ?_; (repeat refine aI qVi4 ?_); (first | apply hS | (refine ite_yes qVi3 ?_; apply hS)); clear hS
        refine qS fun _ hS => ?_; (repeat first | refine aI qVi3 ?_ | refine whole_yes qVi3 ?_ | refine whole_sub ?_); (first | apply hS | (intro cap4 hcap4; apply hS)); clear hS
        refine qS fun _ hS => ?_; (repeat refine aI qVi4 ?_); apply hS; clear hS
        refine qS fun _ hS => ?_; (repeat refine aI qVi4 ?_); (first | apply hS | (refine ite_yes qVi3 ?_; apply hS)); clear hS
        refine qS fun _ hS => ?_; (repeat first | refine aI qVi3 ?_ | refine whole_yes qVi3 ?_ | refine whole_sub ?_); (first | apply hS | (intro cap7 hcap7; apply hS)); clear hS
        refine qS fun _ hS => ?_; (repeat refine aI qVi3 ?_); apply hS; clear hS
        refine qS fun _ hS => ?_; (repeat refine aI qVi4 ?_); apply hS; clear hS
        refine qS fun _ hS => ?_; (repeat refine aI qVi4 ?_); (first | apply hS | (refine ite_yes qVi3 ?_; apply hS)); clear hS
        refine qS fun _ hS => ?_; (repeat first | refine aI qVi3 ?_ | refine whole_yes qVi3 ?_ | refine whole_sub ?_); (first | apply hS | (intro cap11 hcap11; apply hS)); clear hS
        refine qS fun _ hS => ?_; (repeat refine aI qVi3 ?_); apply hS; clear hS
        refine qS fun _ hS => ?_; (repeat refine aI qVi3 ?_); apply hS; clear hS
        refine qS fun _ hS => ?_; (repeat refine aI qVi4 ?_); apply hS; clear hS
        refine qS fun _ hS => ?_; (repeat refine aI qVi4 ?_); (first | apply hS | (refine ite_yes qVi3 ?_; apply hS)); clear hS
        refine qS fun _ hS => ?_; (repeat refine aI qVi4 ?_); apply hS; clear hS
        refine qS fun _ hS => ?_; (repeat refine aI qVi4 ?_); (first | apply hS | (refine ite_yes qVi3 ?_; apply hS)); clear hS
        refine qS fun _ hS => ?_; (repeat refine aI qVi3 ?_); apply hS; clear hS
        refine qS fun _ hS => ?_; (repeat refine aI qVi4 ?_); apply hS; clear hS
        refine qS fun _ hS => ?_; (repeat refine aI qVi4 ?_); (first | apply hS | (refine ite_yes qVi3 ?_; apply hS)); clear hS
        refine qS fun _ hS => ?_; (repeat refine aI qVi3 ?_); apply hS; clear hS
        refine qS fun _ hS => ?_; (repeat refine aI qVi4 ?_); apply hS; clear hS
        refine qS fun _ hS => ?_; (repeat refine aI qVi4 ?_); (first | apply hS | (refine ite_yes qVi3 ?_; apply hS)); clear hS
        refine qS fun _ hS => ?_; (repeat refine aI qVi3 ?_); apply hS; clear hS
        refine qS fun _ hS => ?_; (repeat refine aI qVi3 ?_); apply hS; clear hS
        refine qS fun _ hS => ?_; (repeat refine aI qVi3 ?_); apply hS; clear hS
        refine qQ1 ?_
        refine qS fun _ hS => ?_; (repeat refine aI qVi3 ?_); apply hS; clear hS
        refine qQ1 ?_
        refine qS fun _ hS => ?_; (repeat refine aI (by first | omega | exact trivial | rfl | (simp [hws] <;> omega) | exact hs.symm | exact hws.symm | exact hcs.symm) ?_); apply hS; clear hS
        refine qS fun _ hS => ?_; (repeat refine aI (by first | omega | exact trivial | rfl | (simp [hws] <;> omega) | exact hs.symm | exact hws.symm | exact hcs.symm) ?_); (first | apply hS | (refine ite_yes qVi3 ?_; apply hS)); clear hS
        refine qS fun _ hS => ?_; (repeat refine aI qVi3 ?_); apply hS; clear hS
        refine qQ1 ?_
        refine q_nil ?_; apply hK41; apply hK40; refine seq_k fun _ hK42 => ?_; refine quiet_k g4_ok (by kernel_rfl) fun _ hK43 => ?_
        refine qS fun _ hS => ?_; (repeat refine aI qVi4 ?_); apply hS; clear hS
        refine qS fun _ hS => ?_; (repeat refine aI qVi4 ?_); (first | apply hS | (refine ite_yes qVi3 ?_; apply hS)); clear hS
        refine qS fun _ hS => ?_; (repeat first | refine aI qVi3 ?_ | refine whole_yes qVi3 ?_ | refine whole_sub ?_); (first | apply hS | (intro cap2 hcap2; apply hS)); clear hS
        refine qS fun _ hS => ?_; (repeat refine aI qVi4 ?_); apply hS; clear hS
        refine qS fun _ hS => ?_; (repeat refine aI qVi4 ?_); (first | apply hS | (refine ite_yes qVi3 ?_; apply hS)); clear hS
        refine qS fun _ hS => ?_; (repeat first | refine aI qVi3 ?_ | refine whole_yes qVi3 ?_ | refine whole_sub ?_); (first | apply hS | (intro cap5 hcap5; apply hS)); clear hS
        refine qS fun _ hS => ?_; (repeat refine aI qVi3 ?_); apply hS; clear hS
        refine qS fun _ hS => ?_; (repeat refine aI qVi4 ?_); apply hS; clear hS
        refine qS fun _ hS => ?_; (repeat refine aI qVi4 ?_); (first | apply hS | (refine ite_yes qVi3 ?_; apply hS)); clear hS
        refine qS fun _ hS => ?_; (repeat first | refine aI qVi3 ?_ | refine whole_yes qVi3 ?_ | refine whole_sub ?_); (first | apply hS | (intro cap9 hcap9; apply hS)); clear hS
        refine qS fun _ hS => ?_; (repeat refine aI qVi3 ?_); apply hS; clear hS
        refine qS fun _ hS => ?_; (repeat refine aI qVi4 ?_); apply hS; clear hS
        refine qS fun _ hS => ?_; (repeat refine aI qVi4 ?_); (first | apply hS | (refine ite_yes qVi3 ?_; apply hS)); clear hS
        refine qS fun _ hS => ?_; (repeat refine aI qVi4 ?_); apply hS; clear hS
        refine qS fun _ hS => ?_; (repeat refine aI qVi4 ?_); (first | apply hS | (refine ite_yes qVi3 ?_; apply hS)); clear hS
        refine qS fun _ hS => ?_; (repeat refine aI qVi3 ?_); apply hS; clear hS
        refine qS fun _ hS => ?_; (repeat refine aI qVi4 ?_); apply hS; clear hS
        refine qS fun _ hS => ?_; (repeat refine aI qVi4 ?_); (first | apply hS | (refine ite_yes qVi3 ?_; apply hS)); clear hS
        refine qS fun _ hS => ?_; (repeat refine aI qVi4 ?_); apply hS; clear hS
        refine qS fun _ hS => ?_; (repeat refine aI qVi4 ?_); (first | apply hS | (refine ite_yes qVi3 ?_; apply hS)); clear hS
        refine qS fun _ hS => ?_; (repeat refine aI qVi3 ?_); apply hS; clear hS
        refine qS fun _ hS => ?_; (repeat refine aI qVi3 ?_); apply hS; clear hS
        refine qS fun _ hS => ?_; (repeat refine aI qVi4 ?_); apply hS; clear hS
        refine qS fun _ hS => ?_; (repeat refine aI qVi4 ?_); (first | apply hS | (refine ite_yes qVi3 ?_; apply hS)); clear hS
        refine qS fun _ hS => ?_; (repeat refine aI qVi4 ?_); apply hS; clear hS
        refine qS fun _ hS => ?_; (repeat refine aI qVi4 ?_); (first | apply hS | (refine ite_yes qVi3 ?_; apply hS)); clear hS
        refine qS fun _ hS => ?_; (repeat refine aI qVi3 ?_); apply hS; clear hS
        refine qS fun _ hS => ?_; (repeat refine aI qVi3 ?_); apply hS; clear hS
        refine qS fun _ hS => ?_; (repeat refine aI qVi3 ?_); apply hS; clear hS
        refine qQ1 ?_
        refine q_nil ?_; apply hK43; apply hK42; refine region_k g4_ok fun _ hK44 => ?_
        iterate 2 refine sS1 ?_
        refine sS fun _ hS => ?_; (repeat refine aI qVi6 ?_); apply hS; clear hS
        refine sS fun _ hS => ?_; (repeat refine aI qVi7 ?_); apply hS; clear hS
        refine sS fun _ hS => ?_; (repeat refine aI qVi7 ?_); (first | apply hS | (refine ite_yes qVi6 ?_; apply hS)); clear hS
        refine sS fun _ hS => ?_; (repeat refine aI qVi7 ?_); apply hS; clear hS
        refine sS fun _ hS => ?_; (repeat refine aI qVi7 ?_); (first | apply hS | (refine ite_yes qVi6 ?_; apply hS)); clear hS
        refine sS fun _ hS => ?_; (repeat refine aI qVi7 ?_); apply hS; clear hS
        refine sS fun _ hS => ?_; (repeat refine aI qVi7 ?_); (first | apply hS | (refine ite_yes qVi6 ?_; apply hS)); clear hS
        refine sS fun _ hS => ?_; (repeat refine aI qVi7 ?_); apply hS; clear hS
        refine sS fun _ hS => ?_; (repeat refine aI qVi7 ?_); (first | apply hS | (refine ite_yes qVi6 ?_; apply hS)); clear hS
        refine sS1 ?_
        refine sS fun _ hS => ?_; (repeat refine aI qVi6 ?_); apply hS; clear hS
        refine sS fun _ hS => ?_; (repeat refine aI qVi7 ?_); apply hS; clear hS
        refine sS fun _ hS => ?_; (repeat refine aI qVi7 ?_); (first | apply hS | (refine ite_yes qVi6 ?_; apply hS)); clear hS
        refine sS fun _ hS => ?_; (repeat refine aI qVi7 ?_); apply hS; clear hS
        refine sS fun _ hS => ?_; (repeat refine aI qVi7 ?_); (first | apply hS | (refine ite_yes qVi6 ?_; apply hS)); clear hS
        refine sS fun _ hS => ?_; (repeat refine aI qVi7 ?_); apply hS; clear hS
        refine sS fun _ hS => ?_; (repeat refine aI qVi7 ?_); (first | apply hS | (refine ite_yes qVi6 ?_; apply hS)); clear hS
        refine sS fun _ hS => ?_; (repeat refine aI qVi6 ?_); apply hS; clear hS
        refine sS0 fun _ hS => ?_; (repeat refine aI qVi7 ?_); (first | apply hS | (refine splice_full qVi7 ?_; apply hS)); clear hS; refine s_nil ?_; apply hK44; refine done_block ?_; apply hK37; refine region_k g4_ok fun _ hK45 => ?_
        refine sS fun _ hS => ?_; (repeat refine aI qVi1 ?_); apply hS; clear hS
        refine sS1 ?_
        refine s_nil ?_; apply hK45
        refine Done_some [] id (k + 1) ⟨by omega, by omega⟩ ⟨?_, ?_, (by decide : List.Nodup ([0, 1, 2] : List Nat)), ?_, ?_, ⟨Nat.le_of_ble_eq_true rfl, fun i hi => rfl⟩⟩
        ·exact uVi0
        ·repeat' (first | exact trivial | refine aI ?_ ?_ | rfl | omega | decide | exact Nat.lt_of_sub_pos (by decide))
         all_goals first | exact hs | exact hlen | (show (_ : List UInt32) = _; simp [Sha.rounds, Sha.round, Sha.mixX, Sha.mixY])
        ·exact uVi0
        ·exact uVi0
       ·try simp only [decide_eq_false_iff_not, Int.not_lt] at h_t104
        refine WP_exit ?_; refine done_thenx ?_; refine done_thenx ?_
        refine Done_hit ?_
        apply hK31; refine seq_k fun _ hK46 => ?_; refine region_k g4_ok fun _ hK47 => ?_
        refine sS1 ?_
        refine s_nil ?_; apply hK47; apply hK46; refine WP_block ?_
        obtain rfl : k = 64 := by omega
        have hlen64 := hlen
        refine WP_loop (α := Nat) (fun k => [(0, .c (.ptr 0 0)), (11, .c (.ptr 2 0)), (190, .c (.int .i64 k))]) (fun k => [(0, .own 97 (.u32s (Sha.addTo s (Sha.rounds (Sha.sched l 64) s 64) k)) 8), (1, .own 106 (.u32s (Sha.sched l 64)) 64), (2, .own 97 (.u32s (Sha.rounds (Sha.sched l 64) s 64)) 8)]) 3 (fun k => k ≤ 8) (fun k => 8 - k) ?_ ?_
        ·refine Done_some [] id 0 (Nat.zero_le _) ⟨?_, ?_, (by decide : List.Nodup ([0, 1, 2] : List Nat)), ?_, ?_, ⟨Nat.le_of_ble_eq_true rfl, fun i hi => rfl⟩⟩
         ·exact uVi0
         ·repeat' (first | exact trivial | refine aI ?_ ?_ | rfl | omega | decide | exact Nat.lt_of_sub_pos (by decide))
          all_goals first | exact hs | exact hlen | (show (_ : List UInt32) = _; simp [Sha.addTo])
         ·exact uVi0
         ·exact uVi0
        ·intro k hk
         have hlen2 : (Sha.addTo s (Sha.rounds (Sha.sched l 64) s 64) k).length = 8 := Sha.addTo_length s _ k hs hlen64
         refine seq_k fun _ hK48 => ?_; refine region_k g4_ok fun _ hK49 => ?_
         refine sS fun _ hS => ?_; (repeat refine aI qVi0 ?_); apply hS; clear hS; refine s_nil ?_; apply hK49; apply hK48; refine seq_k fun _ hK50 => ?_
         refine WP_cond (b := _) rfl (fun h_t191 => ?_) (fun h_t191 => ?_)
         ·try simp only [decide_eq_true_eq] at h_t191
          refine WP_skip ?_; apply hK50; refine seq_k fun _ hK51 => ?_; refine WP_block ?_; refine seq_k fun _ hK52 => ?_; refine region_k g4_ok fun _ hK53 => ?_
          iterate 2 refine sS1 ?_
          refine s_nil ?_; apply hK53; apply hK52
          refine tail_k g4_ok 11 (by kernel_rfl) fun _ hK54 => ?_
          simp only [List.take_succ_cons, List.take_zero, List.drop_succ_cons, List.drop_zero]
          iterate 2 refine qQ1 ?_
          refine qS fun _ hS => ?_; (repeat refine aI qVi8 ?_); apply hS; clear hS
          refine qS fun _ hS => ?_; (repeat refine aI qVi8 ?_); apply hS; clear hS
          refine qS fun _ hS => ?_; (repeat refine aI qVi8 ?_); (first | apply hS | (refine ite_yes qVi9 ?_; apply hS)); clear hS
          refine qQ1 ?_
          refine qS fun _ hS => ?_; (repeat refine aI (by first | omega | exact trivial | rfl | (simp [hlen64] <;> omega) | exact hs.symm | exact hws.symm | exact hcs.symm) ?_); apply hS; clear hS
          refine qS fun _ hS => ?_; (repeat refine aI (by first | omega | exact trivial | rfl | (simp [hlen64] <;> omega) | exact hs.symm | exact hws.symm | exact hcs.symm) ?_); (first | apply hS | (refine ite_yes qVi9 ?_; apply hS)); clear hS
          refine qS fun _ hS => ?_; (repeat refine aI qVi9 ?_); apply hS; clear hS
          refine qS fun _ hS => ?_; (repeat refine aI qVi8 ?_); apply hS; clear hS
          refine qS fun _ hS => ?_; (repeat refine aI qVi8 ?_); apply hS; clear hS; refine q_nil ?_
          refine sS0 fun _ hS => ?_; (repeat refine aI qVi8 ?_); (first | apply hS | (refine splice_full qVi9 ?_; apply hS)); clear hS; refine s_nil ?_; apply hK54
          have e1 := Sha.addTo_step s _ k hs hlen64 (by omega)
          rw [← Sha.addTo_get s _ k hs hlen64 (by omega)] at e1
          refine done_block ?_; apply hK51; refine region_k g4_ok fun _ hK55 => ?_
          refine sS fun _ hS => ?_; (repeat refine aI qVi1 ?_); apply hS; clear hS
          refine sS1 ?_
          refine s_nil ?_; apply hK55
          refine Done_some [] id (k + 1) ⟨by omega, by omega⟩ ⟨?_, ?_, (by decide : List.Nodup ([0, 1, 2] : List Nat)), ?_, ?_, ⟨Nat.le_of_ble_eq_true rfl, fun i hi => rfl⟩⟩
          ·exact uVi0
          ·exact uVi1
          ·exact uVi0
          ·exact uVi0
         ·try simp only [decide_eq_false_iff_not, Int.not_lt] at h_t191
          refine WP_exit ?_; refine done_thenx ?_; refine done_thenx ?_
          refine Done_hit ?_
          refine Done_ptr0 g4_ok (fun _ _ h => h) rfl ?_
          obtain rfl : k = 8 := by omega
          show Option.some (SObj.own 97 (.u32s (Sha.addTo s (Sha.rounds (Sha.sched l 64) s 64) 8)) 8) = _
          rw [Sha.addTo_full _ _ hs hlen64, addAll_comm]
 ·exact h.elim

end Go.Proofs.YtnhmglhbhnhnhaaDoor

namespace Go.Proofs.YtnhmglhbhnhnhaaDoor
set_option linter.unusedVariables false
open Go.Ab Go.RowKit

def lists (ps : List (List UInt8)) : List Cell := ps.map fun p => .ds p.length (.u8s p)
@[simp] theorem lists_length (ps : List (List UInt8)) : (lists ps).length = ps.length := by simp [lists]
theorem get_lists {ps : List (List UInt8)} {i : Nat} (h : i < ps.length) : (Cont.cells (lists ps)).get i = .ds (ps.getD i []).length (.u8s (ps.getD i [])) := by
  simp [Cont.get, lists, List.getD_eq_getElem?_getD, h]
theorem allTo_app {f : Cell → Cell → Prop} : ∀ {l l' m m' : List Cell}, allTo f l l' → allTo f m m' → allTo f (l ++ m) (l' ++ m')
  | [], [], _, _, _, h => h
  | _ :: _, _ :: _, _, _, h, k => ⟨h.1, allTo_app h.2 k⟩
  | [], _ :: _, _, _, h, _ => h.elim
  | _ :: _, [], _, _, h, _ => h.elim
theorem getD_mem (ps : List (List UInt8)) (k : Nat) (h : k < ps.length) : ps.getD k [] ∈ ps := by
  rw [List.getD_eq_getElem?_getD, List.getElem?_eq_getElem h, Option.getD_some]
  exact List.getElem_mem _

end Go.Proofs.YtnhmglhbhnhnhaaDoor

namespace Go.Proofs.YtnhmglhbhnhnhaaDoor
set_option linter.unusedVariables false
open Go.Ab Go.RowKit

def hashS : QSpec := fun vs K => ∃ ps, vs = [.c (.ds ps.length (.cells (lists ps)))] ∧ (ps.length ≤ 3000 ∧ ps.flatten.length ≤ 1048576) ∧ K (.agg (.u8s (Sha.sum ps.flatten)))
noncomputable def g7 : Ctx := { P := Tryd.prog, ty := ty, glob := gl, fs := [(58, .flat hashS)] }
theorem g7_ok (h27 : FlatOK Tryd.prog gl 58 hashS) : g7.OK := ⟨tyOK, ⟨⟨enters_mk Tryd.func58 (by kernel_rfl) rfl, h27⟩, trivial⟩, mixed⟩
@[simp] theorem g7_ty : g7.ty = ty := rfl


end Go.Proofs.YtnhmglhbhnhnhaaDoor

namespace Go.Proofs.YtnhmglhbhnhnhaaDoor
set_option linter.unusedVariables false
open Go.Ab Go.RowKit

theorem qVm0 {a : Prop} (h : a := by first | omega | exact trivial | rfl | (simp [hd] <;> omega) | (refine aI ?_ ?_ <;> exact trivial) | exact ⟨trivial, trivial, trivial⟩) : a := h
theorem qVm1 {a : Prop} (h : a := by first | omega | exact trivial | rfl | (simp [hd, hl54, hl92] <;> omega) | (refine aI ?_ ?_ <;> exact trivial) | exact ⟨trivial, trivial, trivial⟩) : a := h
theorem qVm2 {a : Prop} (h : a := by first | omega | exact trivial | rfl | (simp [hl54] <;> omega) | (refine aI ?_ ?_ <;> exact trivial) | exact ⟨trivial, trivial, trivial⟩) : a := h
theorem qVm3 {a : Prop} (h : a := by first | omega | exact trivial | rfl | (simp [hl92] <;> omega) | (refine aI ?_ ?_ <;> exact trivial) | exact ⟨trivial, trivial, trivial⟩) : a := h
theorem qVm4 {a : Prop} (h : a := by first | omega | exact trivial | rfl | (simp [hd, hs, hm] <;> omega) | exact (hs _).symm | exact (hm _ _).symm | (refine aI ?_ ?_ <;> exact trivial) | exact ⟨trivial, trivial, trivial⟩) : a := h
theorem qVm5 {a : Prop} (h : a := by first | omega | exact trivial | rfl | (simp [hd, hs, hm] <;> omega) | exact (hs _).symm | (refine aI ?_ ?_ <;> exact trivial) | exact ⟨trivial, trivial, trivial⟩) : a := h
theorem qVm6 {a : Prop} (h : a := by first | omega | exact trivial | rfl | (simp [hs] <;> omega) | exact (hs _).symm | (refine aI ?_ ?_ <;> exact trivial) | exact ⟨trivial, trivial, trivial⟩) : a := h
theorem uVm0 {a : Prop} (h : a := by
    repeat' (first | exact trivial | refine aI ?_ ?_ | rfl | omega | decide | (show (_ : Nat) < _; decide))) : a := h
theorem uVm1 {a : Prop} (h : a := by
    repeat' (first | exact trivial | refine aI ?_ ?_ | rfl | omega | decide | (show (_ : Nat) < _; decide))
    all_goals first | exact hd | (show (_ : List UInt8) = _; exact zeros64 d _) | (show (_ : List UInt8) = _; simp only [Nat.zero_add, Nat.mul_one]; first | exact mArr_lo d _ k hk32 | exact mArr_hi d _ k hk32 hk64) | skip) : a := h
theorem uVm2 {a : Prop} (h : a := by
    repeat' (first | exact trivial | refine aI ?_ ?_ | rfl | omega | decide | (show (_ : Nat) < _; decide))
    all_goals first | (simp; done) | (rw [mArr_full]; done) | (simp [mArr_length]; done) | (simp [mArr_full, hm, hs]; done) | skip) : a := h

def mArr (d : List UInt8) (m : UInt8) (k : Nat) : List UInt8 := masked d m k ++ List.replicate (64 - k) 0
theorem mArr_length (d : List UInt8) (m : UInt8) (k : Nat) (h : k ≤ 64) : (mArr d m k).length = 64 := by simp [mArr, masked_length]; omega
theorem mArr_full (d : List UInt8) (m : UInt8) : mArr d m 64 = masked d m 64 := by simp [mArr]
theorem mArr_set (d : List UInt8) (m x : UInt8) (k : Nat) (h : k < 64) (hx : masked d m k ++ [x] = masked d m (k + 1)) : (mArr d m k).set k x = mArr d m (k + 1) := by
  have e : List.replicate (64 - k) (0 : UInt8) = 0 :: List.replicate (64 - (k + 1)) 0 := by
    rw [← List.replicate_succ]; congr 1; omega
  rw [mArr, e, List.set_append_right _ _ (by simp [masked_length]), masked_length, Nat.sub_self, List.set_cons_zero, mArr, ← hx, List.append_assoc, List.singleton_append]
theorem mArr_lo (d : List UInt8) (m : UInt8) (k : Nat) (h : k < 32) : (mArr d m k).set k (d.getD k 0 ^^^ m) = mArr d m (k + 1) := mArr_set d m _ k (by omega) (masked_lo d m k h)
theorem mArr_hi (d : List UInt8) (m : UInt8) (k : Nat) (h : 32 ≤ k) (h2 : k < 64) : (mArr d m k).set k (0 ^^^ m) = mArr d m (k + 1) := by
  rw [UInt8.zero_xor]
  exact mArr_set d m _ k h2 (masked_hi d m k h)
theorem zeros64 (d : List UInt8) (m : UInt8) : List.replicate 64 0 = mArr d m 0 := by simp [mArr, masked]
attribute [local irreducible] Sha.sum mArr
set_option maxHeartbeats 1000000 in
theorem keyed_ok (h27 : FlatOK Tryd.prog gl 58 hashS) : FlatOK Tryd.prog gl 52 keyedS := by
 refine flat_of (Γ := g7) (N := 35) Tryd.func52 rfl rfl fun vs K h => ?_
 unfold keyedS at h
 split at h
 ·rename_i d n l
  obtain ⟨⟨hd, hn, hl⟩, h⟩ := h
  subst hn
  refine ⟨_, h, rfl, by simp, fun w I => ?_⟩
  have hs := Sha.sum_length
  have hm := masked_length d
  rw [keyed]
  refine seq_k fun _ hK1 => ?_
  refine region_k (g7_ok h27) fun _ hK2 => ?_
  refine sS fun _ hS => ?_; (repeat refine aI (by first | omega | exact trivial | rfl | (simp [hd] <;> omega) | exact hd.symm | (refine aI ?_ ?_ <;> exact trivial) | exact ⟨trivial, trivial, trivial⟩) ?_); apply hS; clear hS
  refine sS fun _ hS => ?_; (repeat refine aI (by first | omega | exact trivial | rfl | (simp [hd] <;> omega) | exact hd.symm | (refine aI ?_ ?_ <;> exact trivial) | exact ⟨trivial, trivial, trivial⟩) ?_); apply hS; clear hS; refine s_nil ?_; apply hK2; apply hK1; refine seq_k fun _ hK3 => ?_
  refine region_k (g7_ok h27) fun _ hK4 => ?_
  refine sS fun _ hS => ?_; (repeat refine aI qVm0 ?_); apply hS; clear hS
  refine sS fun _ hS => ?_; (repeat refine aI qVm0 ?_); apply hS; clear hS; refine s_nil ?_; apply hK4; apply hK3; refine seq_k fun _ hK5 => ?_; refine seq_k fun _ hK6 => ?_
  refine region_k (g7_ok h27) fun _ hK7 => ?_
  refine sS1 ?_
  refine s_nil ?_; apply hK7; apply hK6; refine WP_block ?_
  refine WP_loop (α := Nat) (fun k => [(1, .c (.ds l.length (.u8s l))), (2, .c (.ptr 0 0)), (4, .c (.ptr 1 0)), (5, .c (.ptr 2 0)), (6, .c (.ptr 3 0)), (10, .c (.int .i64 k))]) (fun k => [(0, .own 24 (.u8s d) 32), (1, .own 24 (.u8s (List.replicate 32 0)) 32), (2, .own 95 (.u8s (mArr d 54 k)) 64), (3, .own 95 (.u8s (mArr d 92 k)) 64)]) 4 (fun k => k ≤ 64) (fun k => 64 - k) ?_ ?_
  ·refine dnS [] id 0 (Nat.zero_le _) [0, 1, 2, 3] ?_ ?_ ?_ ?_
   ·exact uVm0
   ·exact uVm1
   ·exact uVm0
   ·exact uVm0
  ·intro k hk
   have hl54 := mArr_length d 54 k hk
   have hl92 := mArr_length d 92 k hk
   refine seq_k fun _ hK8 => ?_
   refine region_k (g7_ok h27) fun _ hK9 => ?_
   refine sS fun _ hS => ?_; (repeat refine aI qVm0 ?_); apply hS; clear hS; refine s_nil ?_; apply hK9; apply hK8; refine seq_k fun _ hK10 => ?_
   refine WP_cond (b := _) rfl (fun h_t11 => ?_) (fun h_t11 => ?_)
   ·have hk64 : k < 64 := by first | omega | (simp at h_t11; omega)
    refine WP_skip ?_; apply hK10; refine seq_k fun _ hK11 => ?_; refine WP_block ?_; refine seq_k fun _ hK12 => ?_
    refine region_k (g7_ok h27) fun _ hK13 => ?_
    iterate 2 refine sS1 ?_
    refine s_nil ?_; apply hK13; apply hK12; refine seq_k fun _ hK14 => ?_
    refine region_k (g7_ok h27) fun _ hK15 => ?_
    refine sS1 ?_
    refine s_nil ?_; apply hK15; apply hK14; refine seq_k fun _ hK16 => ?_; refine seq_k fun _ hK17 => ?_
    refine region_k (g7_ok h27) fun _ hK18 => ?_
    refine sS1 ?_
    refine sS fun _ hS => ?_; (repeat refine aI qVm0 ?_); apply hS; clear hS; refine s_nil ?_; apply hK18; apply hK17
    refine WP_cond (b := _) rfl (fun h_t14 => ?_) (fun h_t14 => ?_)
    ·have hk32 : k < 32 := by first | omega | (simp at h_t14; omega)
     refine region_k (g7_ok h27) fun _ hK19 => ?_
     refine sS1 ?_
     refine sS fun _ hS => ?_; (repeat refine aI qVm0 ?_); apply hS; clear hS
     refine sS fun _ hS => ?_; (repeat refine aI qVm0 ?_); (first | apply hS | (refine ite_yes qVm0 ?_; apply hS)); clear hS
     refine sS1 ?_
     refine s_nil ?_; apply hK19; apply hK16
     refine region_k (g7_ok h27) fun _ hK20 => ?_
     iterate 3 refine sS1 ?_
     refine sS fun _ hS => ?_; (repeat refine aI qVm1 ?_); apply hS; clear hS
     refine sS1 ?_
     refine sS fun _ hS => ?_; (repeat refine aI qVm1 ?_); apply hS; clear hS
     refine sS fun _ hS => ?_; (repeat refine aI qVm2 ?_); apply hS; clear hS
     refine sS0 fun _ hS => ?_; (repeat refine aI qVm2 ?_); (first | apply hS | (refine splice_full qVm1 ?_; apply hS)); clear hS
     refine sS fun _ hS => ?_; (repeat refine aI qVm3 ?_); apply hS; clear hS
     refine sS0 fun _ hS => ?_; (repeat refine aI qVm3 ?_); (first | apply hS | (refine splice_full qVm1 ?_; apply hS)); clear hS; refine s_nil ?_; apply hK20; refine done_block ?_; apply hK11
     refine region_k (g7_ok h27) fun _ hK21 => ?_
     refine sS fun _ hS => ?_; (repeat refine aI (by first | omega | exact trivial | rfl | (simp <;> omega) | (refine aI ?_ ?_ <;> exact trivial) | exact ⟨trivial, trivial, trivial⟩) ?_); apply hS; clear hS
     refine sS1 ?_
     refine s_nil ?_; apply hK21
     refine dnS [] id (k + 1) ⟨by omega, by omega⟩ [0, 1, 2, 3] ?_ ?_ ?_ ?_
     ·exact uVm0
     ·exact uVm1
     ·exact uVm0
     ·exact uVm0
    ·have hk32 : 32 ≤ k := by first | omega | (simp at h_t14; omega)
     refine WP_skip ?_; apply hK16
     refine region_k (g7_ok h27) fun _ hK22 => ?_
     iterate 3 refine sS1 ?_
     refine sS fun _ hS => ?_; (repeat refine aI qVm1 ?_); apply hS; clear hS
     refine sS1 ?_
     refine sS fun _ hS => ?_; (repeat refine aI qVm1 ?_); apply hS; clear hS
     refine sS fun _ hS => ?_; (repeat refine aI qVm2 ?_); apply hS; clear hS
     refine sS0 fun _ hS => ?_; (repeat refine aI qVm2 ?_); (first | apply hS | (refine splice_full qVm1 ?_; apply hS)); clear hS
     refine sS fun _ hS => ?_; (repeat refine aI qVm3 ?_); apply hS; clear hS
     refine sS0 fun _ hS => ?_; (repeat refine aI qVm3 ?_); (first | apply hS | (refine splice_full qVm1 ?_; apply hS)); clear hS; refine s_nil ?_; apply hK22; refine done_block ?_; apply hK11
     refine region_k (g7_ok h27) fun _ hK23 => ?_
     refine sS fun _ hS => ?_; (repeat refine aI (by first | omega | exact trivial | rfl | (simp <;> omega) | (refine aI ?_ ?_ <;> exact trivial) | exact ⟨trivial, trivial, trivial⟩) ?_); apply hS; clear hS
     refine sS1 ?_
     refine s_nil ?_; apply hK23
     refine dnS [] id (k + 1) ⟨by omega, by omega⟩ [0, 1, 2, 3] ?_ ?_ ?_ ?_
     ·exact uVm0
     ·exact uVm1
     ·exact uVm0
     ·exact uVm0
   ·try simp only [decide_eq_false_iff_not, Int.not_lt] at h_t11
    refine WP_exit ?_; refine done_thenx ?_; refine done_thenx ?_
    refine Done_hit ?_
    apply hK5; refine seq_k fun _ hK24 => ?_
    obtain rfl : k = 64 := by first | omega | (simp at h_t11; omega)
    refine leW [2, 3] id [(1, .c (.ds l.length (.u8s l))), (4, .c (.ptr 1 0)), (5, .c (.dp (.u8s (masked d 54 64)) 0)), (6, .c (.dp (.u8s (masked d 92 64)) 0))] [(1, .own 24 (.u8s (List.replicate 32 0)) 32)] 4 [1] ?_ ?_ ?_ ?_ ?_
    ·exact uVm2
    ·exact uVm2
    ·exact uVm0
    ·exact uVm0
    refine region_k (g7_ok h27) fun _ hK25 => ?_
    refine sS fun _ hS => ?_; (repeat refine aI (by first | omega | exact trivial | rfl | (simp [hm] <;> omega) | exact (hs _).symm | exact (hm _ _).symm | (refine aI ?_ ?_ <;> exact trivial) | exact ⟨trivial, trivial, trivial⟩) ?_); (first | apply hS | (refine ite_yes qVm4 ?_; (repeat refine aI qVm4 ?_); apply hS)); clear hS
    refine sS1 ?_
    refine sS fun _ hS => ?_; (repeat refine aI qVm4 ?_); apply hS; clear hS
    refine sS fun _ hS => ?_; (repeat first | refine aI (by first | omega | exact trivial | rfl | (simp <;> omega) | exact (hs _).symm | exact (hm _ _).symm | (refine aI ?_ ?_ <;> exact trivial) | exact ⟨trivial, trivial, trivial⟩) ?_ | refine whole_yes qVm4 ?_ | refine whole_sub ?_); refine Exists.intro [masked d 54 64, l] ?_; refine aI rfl ?_; refine aI (by simp [hm]; omega) ?_; rw [show [masked d 54 64, l].flatten = masked d 54 64 ++ l by simp]; (repeat refine aI qVm4 ?_); (first | apply hS | (intro cap3 hcap3; apply hS)); clear hS
    refine sS fun _ hS => ?_; (repeat refine aI qVm4 ?_); apply hS; clear hS
    refine sS0 fun _ hS => ?_; (repeat refine aI (by first | omega | exact trivial | rfl | (simp [hs] <;> omega) | exact (hs _).symm | exact (hm _ _).symm | (refine aI ?_ ?_ <;> exact trivial) | exact ⟨trivial, trivial, trivial⟩) ?_); (first | apply hS | (refine splice_full (by first | omega | exact trivial | rfl | (simp [hs] <;> omega) | exact (hs _).symm | exact (hm _ _).symm | (refine aI ?_ ?_ <;> exact trivial) | exact ⟨trivial, trivial, trivial⟩) ?_; apply hS)); clear hS; refine s_nil ?_; apply hK25; apply hK24; refine seq_k fun _ hK26 => ?_
    refine leW [5] id [(4, .c (.ptr 1 0)), (6, .c (.dp (.u8s (masked d 92 64)) 0)), (9, .c (.dp (.u8s (Sha.sum (masked d 54 64 ++ l))) 0))] [(1, .own 24 (.u8s (List.replicate 32 0)) 32)] 8 [1] ?_ ?_ ?_ ?_ ?_
    ·repeat' (first | exact trivial | refine aI ?_ ?_ | rfl | omega | decide | (show (_ : Nat) < _; decide))
     all_goals first | (simp; done) | (rw [mArr_full]; done) | (simp; done) | (simp [hs]; done) | skip
    ·exact uVm2
    ·exact uVm0
    ·exact uVm0
    refine sched_k (g7_ok h27) [(0, true), (1, true), (2, false), (3, false), (4, false)] rfl (by kernel_rfl) (by kernel_rfl) fun _ hK27 => ?_
    refine dR fun _ hS => ?_; (repeat refine aI (by first | omega | exact trivial | rfl | (simp [hm] <;> omega) | exact (hs _).symm | (refine aI ?_ ?_ <;> exact trivial) | exact ⟨trivial, trivial, trivial⟩) ?_); (first | apply hS | (refine ite_yes qVm5 ?_; (repeat refine aI qVm5 ?_); apply hS)); clear hS
    refine dR fun _ hS => ?_; (repeat refine aI qVm6 ?_); (first | apply hS | (refine ite_yes qVm6 ?_; (repeat refine aI qVm5 ?_); apply hS)); clear hS
    refine dG fun _ hS => ?_; (repeat refine aI qVm5 ?_); apply hS; clear hS
    refine dG fun _ hS => ?_; (repeat first | refine aI (by first | omega | exact trivial | rfl | (simp <;> omega) | exact (hs _).symm | (refine aI ?_ ?_ <;> exact trivial) | exact ⟨trivial, trivial, trivial⟩) ?_ | refine whole_yes qVm5 ?_ | refine whole_sub ?_); refine Exists.intro [masked d 92 64, Sha.sum (masked d 54 64 ++ l)] ?_; refine aI (by simp [lists, hs, hm]) ?_; refine aI (by simp [hm, hs]) ?_; rw [show [masked d 92 64, Sha.sum (masked d 54 64 ++ l)].flatten = masked d 92 64 ++ Sha.sum (masked d 54 64 ++ l) by simp]; (repeat refine aI qVm5 ?_); (first | apply hS | (intro cap3 hcap3; apply hS)); clear hS
    refine d_grow0 rfl rfl rfl fun _ hS => ?_
    repeat refine aI qVm6 ?_
    first | apply hS | (refine splice_full qVm6 ?_; apply hS)
    clear hS; refine d_nil ?_; apply hK27; apply hK26
    refine WP_ret (Done_flat (g7_ok h27) (fun _ _ h => h) (by first | rfl | assumption) [.cell 4 24] rfl ?_)
    repeat refine aI (by first | omega | exact trivial | rfl | (simp [hs] <;> omega)) ?_
    try refine ite_yes (by first | omega | exact trivial | rfl | (simp [hs] <;> omega)) ?_
    show _ = _
    rfl
 ·exact h.elim

end Go.Proofs.YtnhmglhbhnhnhaaDoor

namespace Go.Proofs.YtnhmglhbhnhnhaaDoor
set_option linter.unusedVariables false
open Go.Ab Go.RowKit

theorem qVx0 {a : Prop} (h : a := by first | omega | exact trivial | rfl | exact inR_i64.mpr ⟨by omega, by omega⟩ | (simp <;> omega) | (refine aI ?_ ?_ <;> exact trivial) | exact ⟨trivial, trivial, trivial⟩) : a := h
theorem qVx1 {a : Prop} (h : a := by first | omega | exact trivial | rfl | exact inR_i64.mpr ⟨by omega, by omega⟩ | (simp [padZ_length] <;> omega) | (refine aI ?_ ?_ <;> exact trivial) | exact ⟨trivial, trivial, trivial⟩) : a := h
theorem qVx2 {a : Prop} (h : a := by first | omega | exact trivial | rfl | exact inR_i64.mpr ⟨by omega, by omega⟩ | (simp [padZ_length, hlen] <;> omega) | (refine aI ?_ ?_ <;> exact trivial) | exact ⟨trivial, trivial, trivial⟩) : a := h
theorem qVx3 {a : Prop} (h : a := by first | omega | exact trivial | rfl | exact inR_i64.mpr ⟨by omega, by omega⟩ | (simp [padZ_length] <;> omega) | exact hdl | (refine aI ?_ ?_ <;> exact trivial) | exact ⟨trivial, trivial, trivial⟩) : a := h
theorem uVx0 {a : Prop} (h : a := by
    repeat' (first | exact trivial | refine aI ?_ ?_ | rfl | omega | decide | (show (_ : Nat) < _; decide))
    all_goals first | (show (_ : List UInt8) = _; simp [cat]; done) | (show (_ : UInt64) = _; simp [cat]; done) | (simp [cat]; done) | (simp [cat] <;> omega) | skip) : a := h
theorem uVx1 {a : Prop} (h : a := by
    repeat' (first | exact trivial | refine aI ?_ ?_ | rfl | omega | decide | (show (_ : Nat) < _; decide))) : a := h
theorem uVx2 {a : Prop} (h : a := by
    repeat' (first | exact trivial | refine aI ?_ ?_ | rfl | omega | decide | (show (_ : Nat) < _; decide))
    all_goals first | (show (_ : List UInt8) = _; rw [← e1]; simp only [Nat.mul_one, Int.toNat_natCast]; done) | (show (_ : UInt64) = _; rw [← e1]; simp only [List.length_append, Nat.mul_one, Int.toNat_natCast]; exact e2) | (rw [← e1]; simp <;> omega) | (simp <;> omega) | skip) : a := h
theorem uVx3 {a : Prop} (h : a := by
    repeat' (first | exact trivial | refine aI ?_ ?_ | rfl | omega | decide | (show (_ : Nat) < _; decide))
    all_goals first | (show (_ : List UInt8) = _; exact e1) | (simp [padZ_length] <;> omega) | (simp [padZ_length, padB_length l0 _ hk, padB_length l0 (k.1 + 1) (by omega)] <;> omega) | skip) : a := h
theorem uVx4 {a : Prop} (h : a := by
    repeat' (first | exact trivial | refine aI ?_ ?_ | rfl | omega | decide | (show (_ : Nat) < _; decide))
    all_goals simp [padB_full, hpl]) : a := h

def cat (ps : List (List UInt8)) (k : Nat) : List UInt8 := (ps.take k).flatten
theorem cat_full (ps : List (List UInt8)) : cat ps ps.length = ps.flatten := by rw [cat, List.take_length]
theorem cat_step (ps : List (List UInt8)) (k : Nat) (h : k < ps.length) : cat ps k ++ ps.getD k [] = cat ps (k + 1) := by
  rw [cat, cat, List.take_add_one, List.flatten_append, List.getElem?_eq_getElem h, Option.toList_some, List.getD_eq_getElem?_getD, List.getElem?_eq_getElem h, Option.getD_some]
  simp
theorem cat_le (ps : List (List UInt8)) (k : Nat) : (cat ps k).length ≤ ps.flatten.length := by
  have : ps.flatten = cat ps k ++ (ps.drop k).flatten := by rw [cat, ← List.flatten_append, List.take_append_drop]
  rw [this, List.length_append]; omega

def boxOf (ps : List (List UInt8)) : Cell := .dp (.cells [.ds ps.length (.cells (lists ps))]) 0
theorem box_low (ps : List (List UInt8)) : SV.low 0 (.c (.clo 67 [boxOf ps])) := fun x hx => by
  rw [List.mem_singleton.1 hx]
  trivial
def blocksS : QSpec := fun vs K => ∃ ps, vs = [.c (.ds ps.length (.cells (lists ps)))] ∧ K (.c (.clo 67 [boxOf ps]))
theorem blocks_ok : DataOK Tryd.prog gl 62 blocksS := by
 refine data_of (Γ := g0) (N := 4) Tryd.func62 rfl rfl fun vs K h => ?_
 obtain ⟨ps, rfl, h⟩ := h
 refine ⟨_, h, box_low ps, by simp, fun w I => ?_⟩
 refine seq_k fun _ hK1 => ?_; refine region_k g0_ok fun _ hK2 => ?_
 refine sS fun _ hS => ?_; (repeat refine aI qVx0 ?_); apply hS; clear hS
 refine sS1 ?_
 refine s_nil ?_; apply hK2; apply hK1; refine seq_k fun _ hK3 => ?_; refine region_k g0_ok fun _ hK4 => ?_
 refine sS fun _ hS => ?_; (repeat refine aI qVx0 ?_); apply hS; clear hS
 refine sS1 ?_
 refine s_nil ?_; apply hK4; apply hK3
 refine WP_ret (Done_data g0_ok (fun _ _ h => h) (box_low ps) [0] [.tmp 2] rfl ?_)
 repeat' (first | exact trivial | refine aI ?_ ?_ | rfl | omega | decide | (show (_ : Nat) < _; decide))
 all_goals exact Nat.one_pos

def chunk (p : List UInt8) (k : Nat) : List UInt8 := (p.drop (64 * k)).take 64
def chunks (p : List UInt8) : List SV := (List.range (p.length / 64)).map fun k => .c (.ds 64 (.u8s (chunk p k)))
theorem chunks_length (p : List UInt8) : (chunks p).length = p.length / 64 := by simp [chunks]
theorem chunks_get {p : List UInt8} {k : Nat} (h : k < p.length / 64) : (chunks p)[k]? = some (.c (.ds 64 (.u8s (chunk p k)))) := by
  simp [chunks, h]

theorem seq_ok (ps : List (List UInt8)) (hn : ps.length ≤ 3000) (hb : ps.flatten.length ≤ 1048576) : SeqOK Tryd.prog gl 67 [.c (boxOf ps)] (chunks (Sha.pad ps.flatten)) := by
 intro I W cs l hG hlt hargs J hab hround hJ0
 rw [show (#[.func (.yield l) #[] #[]] ++ cs.toArray : Array Value) = (.func (.yield l) #[] #[] :: cs).toArray by simp]
 refine calls_of_WP (Γ := g0) (N := 55) (C := pureC W I) (β := noVal) (n := 0) (H := []) (vs := [.c (.raw (.func (.yield l) #[] #[])), .c (boxOf ps)]) (xs := .func (.yield l) #[] #[] :: cs) Tryd.func67 rfl rfl (by simp) (HeapOK.init hlt) hG ⟨Nat.le_refl _, fun i hi => absurd hi (Nat.not_lt_zero i)⟩ rfl ⟨by simpa using hargs.1, fun j v hv => ?_⟩ ?_
 ·cases j with
  | zero => cases hv; exact ⟨_, rfl, (SV.rel_flat (x := .c (.raw _)) rfl).2 rfl, SV.flat_low rfl⟩
  | succ j => exact hargs.2 j v hv
 obtain ⟨l0, hl0⟩ : ∃ l0, l0 = ps.flatten := ⟨_, rfl⟩
 rw [← hl0] at hb hround
 rw [← hl0]
 have hB : (8 : UInt64) * l0.length.toUInt64 = 8 * l0.length.toUInt64 := rfl
 have hz := zeros_lt l0.length
 have hpm := pad_mod l0
 have hpl := pad_length l0
 have hcf : cat ps ps.length = l0 := hl0 ▸ cat_full ps
 have hcl : ∀ k, (cat ps k).length ≤ l0.length := fun k => hl0 ▸ cat_le ps k
 refine seq_k fun _ hK1 => ?_; refine region_k g0_ok fun _ hK2 => ?_
 refine sS1 ?_
 refine s_nil ?_; apply hK2; apply hK1; refine seq_k fun _ hK3 => ?_; refine region_k g0_ok fun _ hK4 => ?_
 refine sS1 ?_
 refine s_nil ?_; apply hK4; apply hK3; refine seq_k fun _ hK5 => ?_; refine seq_k fun _ hK6 => ?_; refine region_k g0_ok fun _ hK7 => ?_
 refine sS fun _ hS => ?_; (repeat refine aI qVx0 ?_); (first | apply hS | (refine ite_yes qVx1 ?_; apply hS)); clear hS
 refine sS fun _ hS => ?_; (repeat refine aI qVx1 ?_); apply hS; clear hS
 refine sS1 ?_
 refine s_nil ?_; apply hK7; apply hK6; refine WP_block ?_
 refine WP_nil 3 5 (.u8s []) rfl rfl trivial ?_
 refine WP_loop (α := Nat × Nat) (fun k => [(0, .c (.raw (.func (.yield l) #[] #[]))), (3, .c (.slice 0 0 (cat ps k.1).length k.2)), (4, .c (.u64 (cat ps k.1).length.toUInt64)), (8, .c (.ds ps.length (.cells (lists ps)))), (9, .c (.int .i64 ps.length)), (10, .c (.int .i64 k.1))]) (fun k => [(0, .own 5 (.u8s (cat ps k.1)) k.2)]) 1 (fun k => k.1 ≤ ps.length) (fun k => ps.length - k.1) ?_ ?_
 ·refine dnS [] id (0, 0) (Nat.zero_le _) [0] ?_ ?_ ?_ ?_
  ·exact uVx0
  ·exact uVx0
  ·exact uVx1
  ·exact uVx1
 ·intro k hk
  have hlen := hcl k.1
  refine seq_k fun _ hK8 => ?_; refine region_k g0_ok fun _ hK9 => ?_
  refine sS fun _ hS => ?_; (repeat refine aI qVx1 ?_); apply hS; clear hS; refine s_nil ?_; apply hK9; apply hK8; refine seq_k fun _ hK10 => ?_
  refine WP_cond (b := _) rfl (fun h_t11 => ?_) (fun h_t11 => ?_)
  ·try simp only [decide_eq_true_eq] at h_t11
   refine WP_skip ?_; apply hK10; refine seq_k fun _ hK11 => ?_; refine WP_block ?_; refine seq_k fun _ hK12 => ?_
   have hkl : k.1 < ps.length := by omega
   have e1 := cat_step ps k.1 hkl
   have hlen2 := hcl (k.1 + 1)
   rw [← e1, List.length_append] at hlen2
   have e2 : (cat ps k.1).length.toUInt64 + UInt64.ofInt ((ps.getD k.1 []).length : Int) = ((cat ps k.1).length + (ps.getD k.1 []).length).toUInt64 := by rw [ofIntNat]; exact (UInt64.ofNat_add _ _).symm
   refine region_k g0_ok fun _ hK13 => ?_
   refine sS fun _ hS => ?_; (repeat refine aI qVx0 ?_); apply hS; clear hS
   refine sS fun _ hS => ?_; (repeat refine aI qVx0 ?_); (first | apply hS | (refine ite_yes qVx1 ?_; apply hS)); clear hS
   refine sS fun _ hS => ?_
   rw [get_lists]
   rotate_left 1
   ·first | omega | (simp <;> omega)
   apply hS
   clear hS; refine s_nil ?_; apply hK13; apply hK12; refine seq_k fun _ hK14 => ?_; refine region_k g0_ok fun _ hK15 => ?_
   iterate 2 refine sS1 ?_
   refine sS fun _ hS => ?_; (repeat first | refine aI (by first | omega | exact trivial | rfl | exact inR_i64.mpr ⟨by omega, by omega⟩ | (simp <;> omega) | (simp only [Nat.mul_one, Int.toNat_natCast]; exact ⟨by omega, by omega, trivial⟩) | (refine aI ?_ ?_ <;> exact trivial) | exact ⟨trivial, trivial, trivial⟩) ?_ | refine whole_yes (by first | omega | exact trivial | rfl | exact inR_i64.mpr ⟨by omega, by omega⟩ | (simp [padZ_length] <;> omega) | (simp only [Nat.mul_one, Int.toNat_natCast]; exact ⟨by omega, by omega, trivial⟩) | (refine aI ?_ ?_ <;> exact trivial) | exact ⟨trivial, trivial, trivial⟩) ?_ | refine whole_sub ?_); (intro cap2 hcap2; apply hS); clear hS
   refine sS1 ?_
   refine s_nil ?_; apply hK15; apply hK14; refine region_k g0_ok fun _ hK16 => ?_
   iterate 2 refine sS1 ?_
   refine sS fun _ hS => ?_; (repeat refine aI qVx1 ?_); apply hS; clear hS
   refine sS fun _ hS => ?_; (repeat first | refine aI qVx1 ?_ | refine whole_yes qVx1 ?_ | refine whole_sub ?_); apply hS; clear hS
   refine sS fun _ hS => ?_; (repeat refine aI qVx1 ?_); apply hS; clear hS
   refine sS1 ?_
   refine s_nil ?_; apply hK16; refine done_block ?_; apply hK11; refine region_k g0_ok fun _ hK17 => ?_
   refine sS fun _ hS => ?_; (repeat refine aI qVx1 ?_); apply hS; clear hS
   refine sS1 ?_
   refine s_nil ?_; apply hK17
   refine dnS [] (fun _ => 1) (k.1 + 1, cap2) ⟨by omega, by omega⟩ [1] ?_ ?_ ?_ ?_
   ·exact uVx2
   ·exact uVx2
   ·exact uVx1
   ·exact uVx1
  ·try simp only [decide_eq_false_iff_not, Int.not_lt] at h_t11
   refine WP_exit ?_; refine done_thenx ?_; refine done_thenx ?_
   refine Done_hit ?_
   apply hK5; refine seq_k fun _ hK18 => ?_; refine region_k g0_ok fun _ hK19 => ?_
   refine sS1 ?_
   refine sS fun _ hS => ?_; (repeat refine aI qVx1 ?_); apply hS; clear hS
   refine sS fun _ hS => ?_; (repeat first | refine aI qVx0 ?_ | refine whole_yes qVx1 ?_ | refine whole_sub ?_); (intro cap2 hcap2; apply hS); clear hS
   refine sS1 ?_
   refine s_nil ?_; apply hK19; apply hK18; refine seq_k fun _ hK20 => ?_; refine WP_block ?_
   obtain ⟨k, cap0⟩ := k
   obtain rfl : k = ps.length := by simp at hk ⊢; omega
   refine WP_loop (α := Nat × Nat) (fun k => [(0, .c (.raw (.func (.yield l) #[] #[]))), (3, .c (.slice 0 0 (padZ l0 k.1).length k.2)), (4, .c (.u64 l0.length.toUInt64))]) (fun k => [(0, .own 5 (.u8s (padZ l0 k.1)) k.2)]) 1 (fun k => k.1 ≤ Sha.zeros l0.length) (fun k => Sha.zeros l0.length - k.1) ?_ ?_
   ·refine dnS [] (fun _ => 2) (0, cap2) (Nat.zero_le _) [2] ?_ ?_ ?_ ?_
    ·repeat' (first | exact trivial | refine aI ?_ ?_ | rfl | omega | decide | (show (_ : Nat) < _; decide))
     all_goals first | (show (_ : List UInt8) = _; simp [hcf, padZ, padB]; done) | (show (_ : UInt64) = _; simp [hcf]; done) | (simp [hcf, padZ_length]; done) | (simp [hcf, padZ_length, padB, Sha.be64] <;> omega) | skip
    ·repeat' (first | exact trivial | refine aI ?_ ?_ | rfl | omega | decide | (show (_ : Nat) < _; decide))
     all_goals first | (show (_ : List UInt8) = _; simp [hcf, padZ]; done) | (show (_ : UInt64) = _; simp [hcf]; done) | (simp [hcf, padZ_length, padB, Sha.be64]; done) | (simp [hcf, padZ_length, padB, Sha.be64] <;> omega) | skip
    ·exact uVx1
    ·exact uVx1
   ·intro k hk
    have hlen := padZ_length l0 k.1
    refine seq_k fun _ hK21 => ?_; refine seq_k fun _ hK22 => ?_; refine region_k g0_ok fun _ hK23 => ?_
    refine sS1 ?_
    refine sS fun _ hS => ?_; (repeat refine aI qVx1 ?_); apply hS; clear hS
    refine sS fun _ hS => ?_; (repeat refine aI qVx1 ?_); apply hS; clear hS
    refine sS fun _ hS => ?_; (repeat refine aI qVx1 ?_); apply hS; clear hS; refine s_nil ?_; apply hK23; apply hK22
    refine WP_cond (b := _) rfl (fun h_t29 => ?_) (fun h_t29 => ?_)
    ·try simp only [decide_eq_false_iff_not, Bool.not_eq_eq_eq_not, Bool.not_true] at h_t29
     refine WP_skip ?_; apply hK21; refine WP_block ?_; refine region_k g0_ok fun _ hK24 => ?_
     refine sS1 ?_
     refine sS fun _ hS => ?_; (repeat refine aI qVx1 ?_); apply hS; clear hS
     refine sS fun _ hS => ?_; (repeat first | refine aI qVx1 ?_ | refine whole_yes qVx1 ?_ | refine whole_sub ?_); (intro cap2 hcap2; apply hS); clear hS
     refine sS1 ?_
     refine s_nil ?_; apply hK24
     have e1 := padZ_step l0 k.1
     refine done_block ?_
     refine dnS [] (fun _ => 2) (k.1 + 1, cap2) ⟨by unfold Sha.zeros at *; omega, by unfold Sha.zeros at *; omega⟩ [2] ?_ ?_ ?_ ?_
     ·exact uVx3
     ·exact uVx3
     ·exact uVx1
     ·exact uVx1
    ·try simp only [decide_eq_true_eq, Bool.not_eq_eq_eq_not, Bool.not_false] at h_t29
     refine WP_exit ?_; refine done_thenx ?_; refine done_thenx ?_
     refine Done_hit ?_
     apply hK20; refine seq_k fun _ hK25 => ?_; refine seq_k fun _ hK26 => ?_; refine region_k g0_ok fun _ hK27 => ?_
     refine sS1 ?_
     refine s_nil ?_; apply hK27; apply hK26; refine WP_block ?_
     have hk0 : k.1 = Sha.zeros l0.length := by unfold Sha.zeros at *; omega
     obtain ⟨k, cap0⟩ := k
     subst hk0
     refine WP_loop (α := Nat × Nat) (fun k => [(0, .c (.raw (.func (.yield l) #[] #[]))), (3, .c (.slice 0 0 (padB l0 k.1).length k.2)), (4, .c (.u64 l0.length.toUInt64)), (7, .c (.int .i64 (56 - 8 * (k.1 : Int))))]) (fun k => [(0, .own 5 (.u8s (padB l0 k.1)) k.2)]) 1 (fun k => k.1 ≤ 8) (fun k => 8 - k.1) ?_ ?_
     ·refine dnS [] id (0, cap0) (Nat.zero_le _) [0] ?_ ?_ ?_ ?_
      ·repeat' (first | exact trivial | refine aI ?_ ?_ | rfl | omega | decide | (show (_ : Nat) < _; decide))
       all_goals first | (show (_ : List UInt8) = _; simp [hcf, padZ, padB]; done) | (show (_ : UInt64) = _; simp [hcf]; done) | (simp [padZ_length, padB, Sha.be64]; done) | (simp [hcf, padZ_length, padB, Sha.be64] <;> omega) | skip
      ·repeat' (first | exact trivial | refine aI ?_ ?_ | rfl | omega | decide | (show (_ : Nat) < _; decide))
       all_goals first | (show (_ : List UInt8) = _; simp [padZ, padB]; done) | (show (_ : UInt64) = _; simp [hcf]; done) | (simp [hcf, padZ_length, padB, Sha.be64]; done) | (simp [hcf, padZ_length, padB, Sha.be64] <;> omega) | skip
      ·exact uVx1
      ·exact uVx1
     ·intro k hk
      have hlen := padB_length l0 k.1 hk
      refine seq_k fun _ hK28 => ?_; refine seq_k fun _ hK29 => ?_; refine region_k g0_ok fun _ hK30 => ?_
      refine sS1 ?_
      refine sS fun _ hS => ?_; (repeat refine aI qVx1 ?_); apply hS; clear hS; refine s_nil ?_; apply hK30; apply hK29
      refine WP_cond (b := _) rfl (fun h_t34 => ?_) (fun h_t34 => ?_)
      ·try simp only [decide_eq_true_eq] at h_t34
       refine WP_skip ?_; apply hK28; refine seq_k fun _ hK31 => ?_; refine WP_block ?_; refine region_k g0_ok fun _ hK32 => ?_
       iterate 2 refine sS1 ?_
       refine sS fun _ hS => ?_; (repeat refine aI qVx2 ?_); apply hS; clear hS
       refine sS1 ?_
       refine sS fun _ hS => ?_; (repeat refine aI qVx2 ?_); apply hS; clear hS
       refine sS fun _ hS => ?_; (repeat first | refine aI qVx2 ?_ | refine whole_yes qVx2 ?_ | refine whole_sub ?_); apply hS; clear hS
       refine sS fun _ hS => ?_; (repeat refine aI qVx2 ?_); apply hS; clear hS
       refine sS fun _ hS => ?_; (repeat first | refine aI (by first | omega | exact trivial | rfl | exact inR_i64.mpr ⟨by omega, by omega⟩ | (simp [hlen] <;> omega) | (refine aI ?_ ?_ <;> exact trivial) | exact ⟨trivial, trivial, trivial⟩) ?_ | refine whole_yes qVx2 ?_ | refine whole_sub ?_); (intro cap7 hcap7; apply hS); clear hS
       refine sS1 ?_
       refine s_nil ?_; apply hK32
       have e1 := padB_step l0 k.1 (by omega)
       rw [show 56 - 8 * k.1 = (56 - 8 * (k.1 : Int)).toNat by omega] at e1
       refine done_block ?_; apply hK31; refine region_k g0_ok fun _ hK33 => ?_
       refine sS1 ?_
       refine sS fun _ hS => ?_; (repeat refine aI qVx1 ?_); apply hS; clear hS
       refine sS1 ?_
       refine s_nil ?_; apply hK33
       refine dnS [] (fun _ => 2) (k.1 + 1, cap7) ⟨by omega, by omega⟩ [2] ?_ ?_ ?_ ?_
       ·repeat' (first | exact trivial | refine aI ?_ ?_ | rfl | omega | decide | (show (_ : Nat) < _; decide))
        all_goals first | (show (_ : List UInt8) = _; exact e1) | (simp <;> omega) | (simp [padB_length l0 _ hk, padB_length l0 (k.1 + 1) (by omega)] <;> omega) | skip
       ·exact uVx3
       ·exact uVx1
       ·exact uVx1
      ·try simp only [decide_eq_false_iff_not, Int.not_le] at h_t34
       refine WP_exit ?_; refine done_thenx ?_; refine done_thenx ?_
       refine Done_hit ?_
       apply hK25
       obtain ⟨k, cap0⟩ := k
       obtain rfl : k = 8 := by simp at h_t34 hk; omega
       refine leW [0] id [(0, .c (.raw (.func (.yield l) #[] #[]))), (3, .c (.ds ((Sha.pad l0).length - 64 * (0)) (.u8s ((Sha.pad l0).drop (64 * (0))))))] [] 1 [] ?_ ?_ ?_ ?_ ?_
       ·exact uVx4
       ·exact uVx4
       ·exact uVx1
       ·exact uVx1
       refine WP_block ?_
       refine WP_atJ (J := J 0) hJ0 (hab 0) fun a1 w1 hA => ?_
       refine wp_loop_nat (fun k a w => k ≤ (Sha.pad l0).length / 64 ∧ AtJ g0 55 (J k) [(0, .c (.raw (.func (.yield l) #[] #[]))), (3, .c (.ds ((Sha.pad l0).length - 64 * (k)) (.u8s ((Sha.pad l0).drop (64 * (k))))))] a w) ((Sha.pad l0).length / 64) (fun _ _ _ h => h.1) ?_ 0 a1 w1 ⟨Nat.zero_le _, hA⟩
       intro k a w ⟨hk, hA⟩
       refine hA.wp fun D w0 n hJk => ?_
       refine seq_k fun _ hK34 => ?_; refine seq_k fun _ hK35 => ?_; refine region_k g0_ok fun _ hK36 => ?_
       refine sS1 ?_
       refine sS fun _ hS => ?_; (repeat refine aI qVx1 ?_); apply hS; clear hS
       refine sS fun _ hS => ?_; (repeat refine aI qVx1 ?_); apply hS; clear hS; refine s_nil ?_; apply hK36; apply hK35
       refine WP_cond (b := _) rfl (fun h_t47 => ?_) (fun h_t47 => ?_)
       ·try simp only [decide_eq_true_eq] at h_t47
        refine WP_skip ?_; apply hK34
        have hkK : k < (Sha.pad l0).length / 64 := by simp at h_t47; omega
        have hdl : (Cont.u8s ((Sha.pad l0).drop (64 * k))).len = ((Sha.pad l0).length - 64 * k) * 1 := by simp
        refine WP_atJ (J := J k) hJk (hab k) fun a2 w2 hA2 => ?_
        refine wp_seq (wp_block (wp_seq ?_))
        refine region_yield (J := J k) (J' := J (k + 1)) g0_ok (hab k) (hab (k + 1)) 3 rfl rfl rfl rfl rfl (by decide) (y := .c (.ds 64 (.u8s (chunk (Sha.pad l0) k)))) (l := l) (fun D w v m hj hv => hround k D w _ v m (chunks_get hkK) hj hv) (arg := .tmp 52) rfl (E2 := [(0, .c (.raw (.func (.yield l) #[] #[]))), (3, .c (.ds ((Sha.pad l0).length - 64 * (k)) (.u8s ((Sha.pad l0).drop (64 * (k)))))), (54, .c (.bool false))]) (fun n => ?_) hA2 (fun a3 w3 hA3 => ?_)
        ·simp only [List.take_succ_cons, List.take_zero, List.drop_succ_cons, List.drop_zero]
         refine y_step rfl (by decide) rfl (by intro c h; cases h) fun _ hS => ?_
         repeat refine aI (by first | omega | exact trivial | rfl | exact hdl | (simp; omega)) ?_
         apply hS
         clear hS
         refine y_step rfl (by decide) rfl (by intro c h; cases h) fun _ hS => ?_
         repeat refine aI (by first | omega | exact trivial | rfl | exact hdl | (simp; omega)) ?_
         apply hS
         clear hS
         refine y_step rfl (by decide) rfl (by intro c h; cases h) fun _ hS => ?_
         repeat refine aI (by first | omega | exact trivial | rfl | exact hdl | (simp; omega)) ?_
         apply hS
         clear hS
         refine y_nil ?_
         refine ⟨rfl, rfl, trivial, ?_⟩
         refine y_step rfl (by decide) rfl (by intro c h; cases h) fun _ hS => ?_
         apply hS
         clear hS
         refine y_nil ?_
         exact Env.sub_of (List.forall_mem_cons.2 ⟨rfl, List.forall_mem_cons.2 ⟨rfl, List.forall_mem_cons.2 ⟨rfl, fun _ h => by cases h⟩⟩⟩)
        simp only [Exit.then]
        refine hA3.wp fun D3 w3 n3 hJ3 => ?_
        refine WP_cond (b := false) rfl (fun h => absurd h (by decide)) (fun _ => ?_)
        refine WP_skip ?_; refine done_block ?_; refine done_then ?_
        refine Done_wp ?_
        refine region_k g0_ok fun _ hK37 => ?_
        refine sS1 ?_
        refine sS fun _ hS => ?_; (repeat refine aI qVx3 ?_); (first | apply hS | (refine ite_yes qVx3 ?_; (repeat refine aI qVx3 ?_); apply hS)); clear hS
        refine sS1 ?_
        refine s_nil ?_; apply hK37
        intro β I a w hS
        refine ⟨hkK, (hS.atJ hJ3 (hab (k + 1))).sub (Env.sub_of (List.forall_mem_cons.2 ⟨rfl, List.forall_mem_cons.2 ⟨?_, fun _ h => by cases h⟩⟩))⟩
        show some _ = some _
        simp only [Option.some.injEq, SV.c.injEq, Cell.ds.injEq, Cont.drop, Cont.u8s.injEq, List.drop_drop]
        exact ⟨by omega, rfl⟩
       ·try simp only [decide_eq_false_iff_not, Int.not_lt] at h_t47
        refine WP_exit ?_; refine done_thenx ?_; refine done_thenx ?_
        refine Done_hit ?_
        obtain rfl : k = (Sha.pad l0).length / 64 := by simp at h_t47; omega
        refine Done_normal0 g0_ok rfl rfl fun β I a w hS => ⟨⟨_, rfl⟩, I, ?_⟩
        rw [chunks_length]
        exact hab _ _ _ _ _ _ _ _ hJk hS.heap
       
end Go.Proofs.YtnhmglhbhnhnhaaDoor

namespace Go.Proofs.YtnhmglhbhnhnhaaDoor
set_option linter.unusedVariables false
open Go.Ab Go.RowKit

theorem qVy0 {a : Prop} (h : a := by first | omega | exact trivial | rfl | exact inR_i64.mpr ⟨by omega, by omega⟩ | (simp [hst] <;> omega) | (refine aI ?_ ?_ <;> exact trivial) | exact ⟨trivial, trivial, trivial⟩) : a := h
theorem qVy1 {a : Prop} (h : a := by first | omega | exact trivial | rfl | exact inR_i64.mpr ⟨by omega, by omega⟩ | (simp [hst] <;> omega) | exact hst.symm | (refine aI ?_ ?_ <;> exact trivial) | exact ⟨trivial, trivial, trivial⟩) : a := h
theorem qVy2 {a : Prop} (h : a := by first | omega | exact trivial | rfl | exact inR_i64.mpr ⟨by omega, by omega⟩ | (simp [hst, hlen, hlen2] <;> omega) | (refine aI ?_ ?_ <;> exact trivial) | exact ⟨trivial, trivial, trivial⟩) : a := h
theorem qVy3 {a : Prop} (h : a := by first | omega | exact trivial | rfl | exact inR_i64.mpr ⟨by omega, by omega⟩ | (simp [hlen2] <;> omega) | exact hlen2.symm | (refine aI ?_ ?_ <;> exact trivial) | exact ⟨trivial, trivial, trivial⟩) : a := h
theorem uVy0 {a : Prop} (h : a := by
    repeat' (first | exact trivial | refine aI ?_ ?_ | rfl | omega | decide | (show (_ : Nat) < _; decide))
    all_goals first | (simp; done) | (simp <;> omega) | skip) : a := h
theorem uVy1 {a : Prop} (h : a := by
    repeat' (first | exact trivial | refine aI ?_ ?_ | rfl | omega | decide | (show (_ : Nat) < _; decide))
    all_goals first | exact hst | (show (_ : List UInt32) = _; first | exact hse.symm | rfl) | (show (_ : List UInt8) = _; simp [outArr]; done) | (show (_ : List UInt8) = _; simp only [Nat.zero_add, Nat.mul_one]; exact e1) | (simp; done) | skip) : a := h
theorem uVy2 {a : Prop} (h : a := by
    repeat' (first | exact trivial | refine aI ?_ ?_ | rfl | omega | decide | (show (_ : Nat) < _; decide))
    all_goals exact SV.low_mono (Nat.zero_le _) (box_low ps)) : a := h
theorem uVy3 {a : Prop} (h : a := by
    repeat' (first | exact trivial | refine aI ?_ ?_ | rfl | omega | decide | (show (_ : Nat) < _; decide))) : a := h

noncomputable def gy : Ctx := { P := Tryd.prog, ty := ty, glob := gl, fs := [(62, .data blocksS), (63, .gen (ptrS compressP))] }
theorem gy_ok : gy.OK := ⟨tyOK, ⟨⟨enters_mk Tryd.func62 (by kernel_rfl) rfl, blocks_ok⟩, ⟨enters_mk Tryd.func63 (by kernel_rfl) rfl, gen_ptr compress_ok⟩, trivial⟩, mixed⟩
@[simp] theorem gy_ty : gy.ty = ty := rfl


theorem fold_zero (p : List UInt8) : Sha.fold p 0 = [1779033703, 3144134277, 1013904242, 2773480762, 1359893119, 2600822924, 528734635, 1541459225] := rfl
attribute [local irreducible] Sha.pad Sha.compress Sha.start Sha.out outArr
set_option maxHeartbeats 1000000 in
theorem hash_ok : FlatOK Tryd.prog gl 58 hashS := by
 refine flat_ofM (Γ := gy) (N := 30) Tryd.func58 rfl rfl fun vs K h => ?_
 obtain ⟨ps, rfl, ⟨hn, hb⟩, h⟩ := h
 refine ⟨_, h, rfl, by simp, fun w I => ?_⟩
 have hst : Sha.start.length = 8 := start_length
 have hse := fold_zero (Sha.pad ps.flatten)
 obtain ⟨p, hp⟩ : ∃ p, p = Sha.pad ps.flatten := ⟨_, rfl⟩
 have hseq := seq_ok ps hn hb
 rw [Sha.sum]
 rw [← hp] at hseq hse ⊢
 refine seq_k fun _ hK1 => ?_; refine region_k gy_ok fun _ hK2 => ?_
 refine sS fun _ hS => ?_; (repeat refine aI qVy0 ?_); apply hS; clear hS; refine s_nil ?_; apply hK2; apply hK1; refine seq_k fun _ hK3 => ?_; refine region_k gy_ok fun _ hK4 => ?_
 refine sS fun _ hS => ?_; (repeat refine aI qVy1 ?_); apply hS; clear hS
 refine sS fun _ hS => ?_; (repeat refine aI qVy1 ?_); apply hS; clear hS
 refine sS0 fun _ hS => ?_; (repeat refine aI (by first | omega | exact trivial | rfl | exact inR_i64.mpr ⟨by omega, by omega⟩ | (simp <;> omega) | exact hst.symm | (refine aI ?_ ?_ <;> exact trivial) | exact ⟨trivial, trivial, trivial⟩) ?_); (first | apply hS | (refine splice_full qVy1 ?_; apply hS)); clear hS; refine s_nil ?_; apply hK4; apply hK3
 refine seq_kC fun _ hK5 => ?_
 refine seq_k fun _ hK6 => ?_; refine region_k gy_ok fun _ hK7 => ?_
 refine sS1 ?_
 refine sS fun _ hS => ?_; (repeat first | refine aI qVy0 ?_ | refine whole_yes qVy0 ?_ | refine whole_sub ?_); refine Exists.intro ps ?_; refine aI rfl ?_; (repeat refine aI qVy0 ?_); (first | apply hS | (intro cap1 hcap1; apply hS)); clear hS; refine s_nil ?_; apply hK7; apply hK6
 refine leW [] id [(0, .c (.ds ps.length (.cells (lists ps)))), (2, .c (.ptr 0 0)), (3, .c (.ptr 1 0)), (9, .c (.clo 67 [boxOf ps]))] [(0, .own 24 (.u8s (List.replicate 32 0)) 32), (1, .own 97 (.u32s (Sha.fold p (0))) 8)] 2 [0, 1] ?_ ?_ ?_ ?_ ?_
 ·exact uVy0
 ·exact uVy1
 ·exact uVy2
 ·exact uVy2
 refine WP_block ?_
 refine WP_rangeF gy_ok (caps := [boxOf ps]) (enters_mk Tryd.func67 (by kernel_rfl) rfl) hseq rfl (fun v hv => ?_) (by decide) (fun k => [(0, .own 24 (.u8s (List.replicate 32 0)) 32), (1, .own 97 (.u32s (Sha.fold p (k))) 8)]) rfl ?_ ?_ (fun k => (4, .c (.ds 64 (.u8s (chunk p k)))) :: (10, .c (.ds 64 (.u8s (chunk p k)))) :: [(0, .c (.ds ps.length (.cells (lists ps)))), (2, .c (.ptr 0 0)), (3, .c (.ptr 1 0)), (9, .c (.clo 67 [boxOf ps]))]) ?_ ?_ ?_
 ·rw [List.mem_singleton.1 hv]
  trivial
 ·intro k id o ho
  simp only [Heap.get] at ho ⊢
  split at ho
  ·exact ⟨_, if_pos (by assumption)⟩
  ·split at ho
   ·rename_i h1 h2; subst h2; exact ⟨_, rfl⟩
   ·cases ho
 ·intro k id o ho
  simp only [Heap.get] at ho
  split at ho
  ·rename_i h1; cases ho; subst h1; exact ⟨by decide, trivial⟩
  ·split at ho
   ·rename_i h1 h2; cases ho; subst h2; exact ⟨by decide, trivial⟩
   ·cases ho
 ·intro k x hx C' ro m Q hQ
  have hk : k < p.length / 64 := by rw [← chunks_length]; exact (List.getElem?_eq_some_iff.1 hx).1
  rw [chunks_get hk] at hx
  cases hx
  refine WPi_region gy_ok fun _ hK => ?_
  refine y_step rfl (by decide) rfl (by intro c h; cases h) fun _ hS => ?_
  apply hS
  refine y_nil ?_
  exact hK _ _ _ hQ
 ·intro k x hx C' ro m Q hQ
  have hk : k < p.length / 64 := by rw [← chunks_length]; exact (List.getElem?_eq_some_iff.1 hx).1
  have hlen : (Sha.fold p k).length = 8 := Sha.fold_length _ k
  have hcl : (chunk p k).length = 64 := by simp [chunk]; omega
  refine WPi_block ?_
  refine WPi_region gy_ok fun _ hK => ?_
  refine y_step rfl (by decide) rfl (by intro c h; cases h) fun _ hS => ?_
  apply hS
  clear hS
  refine y_step rfl (by decide) rfl (by intro c h; cases h) fun _ hS => ?_
  refine aI ⟨rfl, (show 0 < (Sha.fold p k).length by omega), fun v hv => by rw [List.mem_singleton.1 hv]; trivial⟩ ?_
  refine aI ⟨rfl, rfl, rfl, rfl, hcl, hlen⟩ ?_
  apply hS
  refine y_nil ?_
  exact hK _ _ _ (hQ _ _ _ (Heap.sub_of (List.forall_mem_cons.2 ⟨rfl, List.forall_mem_cons.2 ⟨rfl, fun _ h => by cases h⟩⟩)))
 ·intro β1 I1 w1 d hH1 hd0 hA
  rw [chunks_length] at hH1 hA ⊢
  refine done_block ?_
  refine hK5 _ _ _ _ ?_
  refine seq_k fun _ hK8 => ?_; refine region_k gy_ok fun _ hK9 => ?_
  refine sS fun _ hS => ?_; (repeat refine aI qVy0 ?_); apply hS; clear hS; refine s_nil ?_; apply hK9; apply hK8; refine seq_k fun _ hK10 => ?_; refine seq_k fun _ hK11 => ?_; refine region_k gy_ok fun _ hK12 => ?_
  refine sS1 ?_
  refine s_nil ?_; apply hK12; apply hK11; refine WP_block ?_
  have hlen : (Sha.fold p (p.length / 64)).length = 8 := Sha.fold_length _ _
  refine WP_loop (α := Nat) (fun k => [(0, .c (.ds ps.length (.cells (lists ps)))), (2, .c (.ptr 0 0)), (3, .c (.ptr 1 0)), (5, .c (.ptr 2 0)), (13, .c (.int .i64 k))]) (fun k => [(0, .own 24 (.u8s (List.replicate 32 0)) 32), (1, .own 97 (.u32s (Sha.fold p (p.length / 64))) 8), (2, .own 24 (.u8s (outArr (Sha.fold p (p.length / 64)) k)) 32)]) 3 (fun k => k ≤ 32) (fun k => 32 - k) ?_ ?_
  ·refine Done_some [] id 0 (Nat.zero_le _) ⟨?_, ?_, (by decide : List.Nodup ([0, 1, 2] : List Nat)), ?_, ?_, ⟨(show 2 ≤ 3 by decide), fun i _ => rfl⟩⟩
   ·exact uVy0
   ·exact uVy1
   ·exact uVy3
   ·exact uVy3
  ·intro k hk
   have hlen2 := outArr_length (Sha.fold p (p.length / 64)) k hk
   refine seq_k fun _ hK13 => ?_; refine region_k gy_ok fun _ hK14 => ?_
   refine sS fun _ hS => ?_; (repeat refine aI qVy0 ?_); apply hS; clear hS; refine s_nil ?_; apply hK14; apply hK13; refine seq_k fun _ hK15 => ?_
   refine WP_cond (b := _) rfl (fun h_t14 => ?_) (fun h_t14 => ?_)
   ·try simp only [decide_eq_true_eq] at h_t14
    refine WP_skip ?_; apply hK15; refine seq_k fun _ hK16 => ?_; refine WP_block ?_; refine seq_k fun _ hK17 => ?_; refine region_k gy_ok fun _ hK18 => ?_
    iterate 2 refine sS1 ?_
    refine s_nil ?_; apply hK18; apply hK17; refine region_k gy_ok fun _ hK19 => ?_
    iterate 2 refine sS1 ?_
    refine sS fun _ hS => ?_; (repeat refine aI (by first | omega | exact trivial | rfl | exact inR_i64.mpr ⟨by omega, by omega⟩ | (simp <;> omega) | (refine aI ?_ ?_ <;> exact trivial) | exact ⟨trivial, trivial, trivial⟩) ?_); apply hS; clear hS
    refine sS fun _ hS => ?_; (repeat refine aI (by first | omega | exact trivial | rfl | exact inR_i64.mpr ⟨by omega, by omega⟩ | (simp [hlen] <;> omega) | (refine aI ?_ ?_ <;> exact trivial) | exact ⟨trivial, trivial, trivial⟩) ?_); apply hS; clear hS
    refine sS fun _ hS => ?_; (repeat refine aI (by first | omega | exact trivial | rfl | exact inR_i64.mpr ⟨by omega, by omega⟩ | (simp [hlen] <;> omega) | (refine aI ?_ ?_ <;> exact trivial) | exact ⟨trivial, trivial, trivial⟩) ?_); (first | apply hS | (refine ite_yes qVy2 ?_; apply hS)); clear hS
    refine sS1 ?_
    refine sS fun _ hS => ?_; (repeat refine aI qVy2 ?_); apply hS; clear hS
    refine sS fun _ hS => ?_; (repeat refine aI qVy2 ?_); apply hS; clear hS
    refine sS fun _ hS => ?_; (repeat refine aI qVy2 ?_); apply hS; clear hS
    refine sS fun _ hS => ?_; (repeat refine aI qVy2 ?_); apply hS; clear hS
    refine sS fun _ hS => ?_; (repeat first | refine aI qVy2 ?_ | refine whole_yes qVy2 ?_ | refine whole_sub ?_); apply hS; clear hS
    refine sS fun _ hS => ?_; (repeat refine aI (by first | omega | exact trivial | rfl | exact inR_i64.mpr ⟨by omega, by omega⟩ | (simp [hlen2] <;> omega) | (refine aI ?_ ?_ <;> exact trivial) | exact ⟨trivial, trivial, trivial⟩) ?_); apply hS; clear hS
    refine sS0 fun _ hS => ?_; (repeat refine aI (by first | omega | exact trivial | rfl | exact inR_i64.mpr ⟨by omega, by omega⟩ | (simp [hlen2] <;> omega) | (refine aI ?_ ?_ <;> exact trivial) | exact ⟨trivial, trivial, trivial⟩) ?_); (first | apply hS | (refine splice_full qVy2 ?_; apply hS)); clear hS; refine s_nil ?_; apply hK19
    have e1 := outArr_step (Sha.fold p (p.length / 64)) k (by omega)
    rw [show k / 4 = ((k : Int) / 4).toNat by omega, show 24 - 8 * (k % 4) = (24 - 8 * ((k : Int) % 4)).toNat by omega] at e1
    refine done_block ?_; apply hK16; refine region_k gy_ok fun _ hK20 => ?_
    refine sS fun _ hS => ?_; (repeat refine aI qVy0 ?_); apply hS; clear hS
    refine sS1 ?_
    refine s_nil ?_; apply hK20
    refine Done_some [] id (k + 1) ⟨by omega, by omega⟩ ⟨?_, ?_, (by decide : List.Nodup ([0, 1, 2] : List Nat)), ?_, ?_, ⟨(show 2 ≤ 3 by decide), fun i _ => rfl⟩⟩
    ·exact uVy0
    ·exact uVy1
    ·exact uVy3
    ·exact uVy3
   ·try simp only [decide_eq_false_iff_not, Int.not_lt] at h_t14
    refine WP_exit ?_; refine done_thenx ?_; refine done_thenx ?_
    refine Done_hit ?_
    apply hK10; refine seq_k fun _ hK21 => ?_; refine region_k gy_ok fun _ hK22 => ?_
    refine sS fun _ hS => ?_; (repeat refine aI qVy3 ?_); (first | apply hS | (refine ite_yes qVy3 ?_; apply hS)); clear hS
    refine sS0 fun _ hS => ?_; (repeat refine aI qVy3 ?_); (first | apply hS | (refine splice_full qVy3 ?_; apply hS)); clear hS; refine s_nil ?_; apply hK22; apply hK21
    refine WP_ret (Done_flatM gy_ok hH1 hd0 hA (fun _ _ h => h) rfl [.cell 2 24] rfl ?_)
    repeat refine aI (by first | omega | exact trivial | rfl | (simp [hlen2] <;> omega)) ?_
    try refine ite_yes (by first | omega | exact trivial | rfl | (simp [hlen2] <;> omega)) ?_
    obtain rfl : k = 32 := by omega
    show SV.agg (.u8s (outArr _ 32)) = _
    rw [outArr_full]
 
end Go.Proofs.YtnhmglhbhnhnhaaDoor

namespace Go.Sto

def bitStep (c : UInt32) : UInt32 := if c % 2 = 1 then c / 2 ^^^ 3988292384 else c / 2
def bitsN : Nat → UInt32 → UInt32
 | 0, c => c
 | k + 1, c => bitStep (bitsN k c)
def crcByte (c : UInt32) (b : UInt8) : UInt32 := bitsN 8 (c ^^^ b.toUInt32)
def crcFold (c : UInt32) (l : List UInt8) : UInt32 := l.foldl crcByte c
def crcL (l : List UInt8) : UInt32 := ~~~ crcFold 4294967295 l

theorem half_bit (c : UInt32) : (c / 2).toNat.testBit 31 = false := by
 refine Nat.testBit_lt_two_pow ?_
 have := c.toNat_lt
 rw [UInt32.toNat_div]
 show c.toNat / 2 < 2 ^ 31
 omega
theorem odd_bit (c : UInt32) : (c / 2 ^^^ 3988292384).toNat.testBit 31 = true := by
 rw [UInt32.toNat_xor, Nat.testBit_xor, half_bit]
 decide
theorem half_inj {c d : UInt32} (h : c / 2 = d / 2) (p : c % 2 = d % 2) : c = d := by
 have h1 := congrArg UInt32.toNat h
 have h2 := congrArg UInt32.toNat p
 rw [UInt32.toNat_div, UInt32.toNat_div] at h1
 rw [UInt32.toNat_mod, UInt32.toNat_mod] at h2
 apply UInt32.toNat_inj.1
 have e : (2 : UInt32).toNat = 2 := rfl
 rw [e] at h1 h2
 omega
theorem even_of {c : UInt32} (h : ¬ c % 2 = 1) : c % 2 = 0 := by
 apply UInt32.toNat_inj.1
 have h2 : ¬ (c % 2).toNat = 1 := fun e => h (UInt32.toNat_inj.1 e)
 rw [UInt32.toNat_mod] at h2 ⊢
 have e : (2 : UInt32).toNat = 2 := rfl
 rw [e] at h2 ⊢
 show c.toNat % 2 = 0
 omega
theorem bitStep_inj {c d : UInt32} (h : bitStep c = bitStep d) : c = d := by
 unfold bitStep at h
 split at h <;> rename_i h1 <;> split at h <;> rename_i h2
 ·refine half_inj ?_ (h1.trans h2.symm)
  have := congrArg (· ^^^ (3988292384 : UInt32)) h
  simpa [UInt32.xor_assoc] using this
 ·have := odd_bit c; rw [h, half_bit] at this; cases this
 ·have := odd_bit d; rw [← h, half_bit] at this; cases this
 ·exact half_inj h ((even_of h1).trans (even_of h2).symm)
theorem bitsN_inj {c d : UInt32} : ∀ k, bitsN k c = bitsN k d → c = d
 | 0, h => h
 | k + 1, h => bitsN_inj k (bitStep_inj h)
theorem xor_cancel {a b c : UInt32} (h : a ^^^ c = b ^^^ c) : a = b := by
 have := congrArg (· ^^^ c) h
 simpa [UInt32.xor_assoc] using this
theorem crcByte_inj {c d : UInt32} {b : UInt8} (h : crcByte c b = crcByte d b) : c = d := xor_cancel (bitsN_inj 8 h)
theorem crcByte_inj2 {c : UInt32} {b b' : UInt8} (h : crcByte c b = crcByte c b') : b = b' := by
 have h1 := bitsN_inj 8 h
 rw [UInt32.xor_comm c, UInt32.xor_comm c] at h1
 have h2 := congrArg UInt32.toNat (xor_cancel h1)
 rw [UInt8.toNat_toUInt32, UInt8.toNat_toUInt32] at h2
 exact UInt8.toNat_inj.1 h2
theorem crcFold_app (c : UInt32) (x y : List UInt8) : crcFold c (x ++ y) = crcFold (crcFold c x) y := List.foldl_append ..
theorem crcFold_inj : ∀ {l : List UInt8} {c d : UInt32}, crcFold c l = crcFold d l → c = d
 | [], _, _, h => h
 | _ :: l, _, _, h => crcByte_inj (crcFold_inj (l := l) h)
theorem compl_inj {a b : UInt32} (h : ~~~a = ~~~b) : a = b := by
 have := congrArg (~~~ ·) h
 simpa using this
theorem crc_changed {x y : List UInt8} {b b' : UInt8} (h : crcL (x ++ b :: y) = crcL (x ++ b' :: y)) : b = b' := by
 have h1 := compl_inj h
 rw [crcFold_app, crcFold_app] at h1
 exact crcByte_inj2 (crcFold_inj (l := y) h1)
theorem set_split {l : List UInt8} {p : Nat} (hp : p < l.length) (v : UInt8) : l = l.take p ++ l[p] :: l.drop (p + 1) ∧ l.set p v = l.take p ++ v :: l.drop (p + 1) := by
 refine ⟨?_, List.set_eq_take_append_cons_drop .. |>.trans (if_pos hp)⟩
 rw [← List.drop_eq_getElem_cons hp, List.take_append_drop]
theorem crc_set {l : List UInt8} {p : Nat} (hp : p < l.length) {v : UInt8} (hv : v ≠ l[p]) : crcL (l.set p v) ≠ crcL l := by
 obtain ⟨h1, h2⟩ := set_split hp v
 intro h
 rw [h2] at h
 rw [show crcL l = crcL (l.take p ++ l[p] :: l.drop (p + 1)) from congrArg crcL h1] at h
 exact hv (crc_changed h)

attribute [local irreducible] crcL crcFold crcByte bitsN

def num4 (n : Nat) : List UInt8 := [.ofNat (n / 16777216), .ofNat (n / 65536), .ofNat (n / 256), .ofNat n]
def val4 (l : List UInt8) : Nat := (l.getD 0 0).toNat * 16777216 + (l.getD 1 0).toNat * 65536 + (l.getD 2 0).toNat * 256 + (l.getD 3 0).toNat
theorem num4_length (n : Nat) : (num4 n).length = 4 := rfl
theorem val_num (n : Nat) (h : n < 4294967296) (r : List UInt8) : val4 (num4 n ++ r) = n := by
 simp only [val4, num4, List.cons_append, List.getD_cons_zero, List.getD_cons_succ, UInt8.toNat_ofNat']
 omega
theorem num_val {l : List UInt8} (h : 4 ≤ l.length) : num4 (val4 l) = l.take 4 := by
 match l, h with
 | a :: b :: c :: d :: r, _ =>
  have ha := a.toNat_lt; have hb := b.toNat_lt; have hc := c.toNat_lt; have hd := d.toNat_lt
  simp only [val4, num4, List.getD_cons_zero, List.getD_cons_succ, List.take_succ_cons, List.take_zero]
  have k : ∀ (x : UInt8) (m : Nat), m % 256 = x.toNat → UInt8.ofNat m = x := fun x m e => UInt8.toNat_inj.1 (by rw [UInt8.toNat_ofNat']; exact e)
  rw [k a _ (by omega), k b _ (by omega), k c _ (by omega), k d _ (by omega)]
theorem num_inj {m n : Nat} (hm : m < 4294967296) (hn : n < 4294967296) (h : num4 m = num4 n) : m = n := by
 have h1 := val_num m hm []
 rw [h, val_num n hn []] at h1
 exact h1.symm
theorem crcnum_inj {x y : UInt32} (h : num4 x.toNat = num4 y.toNat) : x = y := UInt32.toNat_inj.1 (num_inj x.toNat_lt y.toNat_lt h)

structure Piece where
 key : List UInt8
 b : List UInt8
 seal' : List UInt8
def Piece.ok (s : Piece) : Prop := s.key.length = 32 ∧ s.seal'.length = 32 ∧ s.b.length ≤ 65536
def Piece.body (s : Piece) : List UInt8 := s.key ++ s.b ++ s.seal'
def Piece.size (s : Piece) : Nat := 76 + s.b.length
def headB (n : Nat) : List UInt8 := num4 n ++ num4 (crcL (num4 n)).toNat
def Piece.rec' (s : Piece) : List UInt8 := headB s.b.length ++ (s.body ++ num4 (crcL s.body).toNat)
theorem headB_length (n : Nat) : (headB n).length = 8 := rfl
theorem body_length {s : Piece} (h : s.ok) : s.body.length = 64 + s.b.length := by
 simp only [Piece.body, List.length_append, h.1, h.2.1]; omega
theorem rec_length {s : Piece} (h : s.ok) : s.rec'.length = s.size := by
 simp only [Piece.rec', List.length_append, headB_length, body_length h, num4_length, Piece.size]; omega

def bodyB (l : List UInt8) (n : Nat) : List UInt8 := (l.drop 8).take (64 + n)
def sumB (l : List UInt8) (n : Nat) : List UInt8 := (l.drop (72 + n)).take 4
def headOK (l : List UInt8) : Bool := decide (76 ≤ l.length) && decide (num4 (crcL (l.take 4)).toNat = (l.drop 4).take 4)
def pieceB (l : List UInt8) (n : Nat) : Piece := ⟨(bodyB l n).take 32, ((bodyB l n).drop 32).take n, (bodyB l n).drop (32 + n)⟩
def recordL (l : List UInt8) : Option (Piece × Nat) :=
 if headOK l = true ∧ val4 l ≤ 65536 ∧ 76 + val4 l ≤ l.length ∧ num4 (crcL (bodyB l (val4 l))).toNat = sumB l (val4 l) then some (pieceB l (val4 l), 76 + val4 l) else none

theorem record_ok {l : List UInt8} {s : Piece} {n : Nat} (h : recordL l = some (s, n)) : s.ok ∧ n = s.size ∧ n ≤ l.length ∧ l.take n = s.rec' := by
 unfold recordL at h
 split at h
 ·rename_i hc
  obtain ⟨h1, h2, h3, h4⟩ := hc
  simp only [headOK, Bool.and_eq_true, decide_eq_true_eq] at h1
  generalize hv : val4 l = v at *
  simp only [Option.some.injEq, Prod.mk.injEq] at h
  obtain ⟨rfl, rfl⟩ := h
  have hbl : (bodyB l v).length = 64 + v := by simp only [bodyB, List.length_take, List.length_drop]; omega
  have hb : (pieceB l v).b.length = v := by simp only [pieceB, List.length_take, List.length_drop, hbl]; omega
  have hok : (pieceB l v).ok := ⟨by simp only [pieceB, List.length_take, hbl]; omega, by simp only [pieceB, List.length_drop, hbl]; omega, by omega⟩
  refine ⟨hok, by rw [Piece.size, hb], h3, ?_⟩
  have hbody : (pieceB l v).body = bodyB l v := by
   simp only [Piece.body, pieceB]
   rw [List.append_assoc, show (bodyB l v).drop (32 + v) = ((bodyB l v).drop 32).drop v by rw [List.drop_drop], List.take_append_drop, List.take_append_drop]
  rw [Piece.rec', hb, hbody, h4, headB]
  have hh : num4 v = l.take 4 := by rw [← hv]; exact num_val (by omega)
  rw [hh, h1.2]
  simp only [bodyB, sumB]
  have e1 : l.take 4 ++ (l.drop 4).take 4 = l.take 8 := by
   rw [show (8 : Nat) = 4 + 4 from rfl, List.take_add]
  have e2 : (l.drop 8).take (64 + v) ++ (l.drop (72 + v)).take 4 = (l.drop 8).take (68 + v) := by
   have e := List.take_add (l := l.drop 8) (i := 64 + v) (j := 4)
   rw [List.drop_drop, show 8 + (64 + v) = 72 + v by omega, show 64 + v + 4 = 68 + v by omega] at e
   exact e.symm
  rw [e1, e2, show 76 + v = 8 + (68 + v) by omega, List.take_add]
 ·cases h
theorem record_of {s : Piece} (h : s.ok) (r : List UInt8) : recordL (s.rec' ++ r) = some (s, s.size) := by
 have hl := rec_length h
 have hbl := body_length h
 have hv : val4 (s.rec' ++ r) = s.b.length := by
  rw [Piece.rec', headB, List.append_assoc, List.append_assoc]
  exact val_num _ (by have := h.2.2; omega) _
 have hd8 : (s.rec' ++ r).drop 8 = s.body ++ (num4 (crcL s.body).toNat ++ r) := by
  rw [Piece.rec', List.append_assoc, List.append_assoc, List.drop_left' (headB_length _)]
 have hb : bodyB (s.rec' ++ r) s.b.length = s.body := by
  rw [bodyB, hd8, List.take_left' (by rw [hbl])]
 have hs : sumB (s.rec' ++ r) s.b.length = num4 (crcL s.body).toNat := by
  rw [sumB, show 72 + s.b.length = 8 + (64 + s.b.length) by omega, ← List.drop_drop, hd8, List.drop_left' (by rw [hbl]), List.take_left' (num4_length _)]
 have hk : headOK (s.rec' ++ r) = true := by
  simp only [headOK, Bool.and_eq_true, decide_eq_true_eq, List.length_append, hl, Piece.size]
  refine ⟨by omega, ?_⟩
  rw [Piece.rec', headB, List.append_assoc, List.append_assoc, List.take_left' (num4_length _), List.drop_left' (num4_length _), List.take_left' (num4_length _)]
 have hp : pieceB (s.rec' ++ r) s.b.length = s := by
  rw [pieceB, hb]
  obtain ⟨k, b, q⟩ := s
  obtain ⟨h1, h2, h3⟩ := h
  simp only [Piece.body] at *
  simp only [Piece.mk.injEq]
  refine ⟨?_, ?_, ?_⟩
  ·rw [List.append_assoc, List.take_left' h1]
  ·rw [List.append_assoc, List.drop_left' h1, List.take_left' rfl]
  ·rw [List.drop_left' (by rw [List.length_append, h1])]
 unfold recordL
 rw [hv, if_pos ⟨hk, h.2.2, by rw [List.length_append, hl, Piece.size]; omega, by rw [hb, hs]⟩, hp]
 rfl
theorem record_short {s : Piece} (h : s.ok) {t : Nat} (ht : t < s.size) : recordL (s.rec'.take t) = none := by
 have hl := rec_length h
 cases hr : recordL (s.rec'.take t) with
 | none => rfl
 | some p =>
  obtain ⟨s', n⟩ := p
  obtain ⟨h1, h2, h3, h4⟩ := record_ok hr
  have h5 : recordL s.rec' = some (s', n) := by
   have e : s.rec' = s'.rec' ++ s.rec'.drop n := by
    rw [← h4, List.take_take, Nat.min_eq_left (by rw [List.length_take] at h3; omega), List.take_append_drop]
   rw [e, h2]; exact record_of h1 _
  have h6 := record_of h []
  rw [List.append_nil, h5] at h6
  simp only [Option.some.injEq, Prod.mk.injEq] at h6
  rw [List.length_take] at h3
  omega

theorem set_self {l : List UInt8} {p : Nat} {v : UInt8} (hp : p < l.length) (h : l.set p v = l) : v = l[p] := by
 have : (l.set p v)[p]'(by simpa using hp) = l[p] := by simp only [h]
 simpa using this
theorem app_inj {a b c d : List UInt8} (h : a ++ b = c ++ d) (hl : a.length = c.length) : a = c ∧ b = d := List.append_inj h hl
theorem set_left {a b : List UInt8} {p : Nat} (hp : p < a.length) (v : UInt8) : (a ++ b).set p v = a.set p v ++ b := by
 rw [List.set_append, if_pos hp]
theorem set_right {a b : List UInt8} {p : Nat} (hp : a.length ≤ p) (v : UInt8) : (a ++ b).set p v = a ++ b.set (p - a.length) v := by
 rw [List.set_append, if_neg (by omega)]
theorem get_left {a b : List UInt8} {p : Nat} (hp : p < a.length) (h : p < (a ++ b).length) : (a ++ b)[p] = a[p] := List.getElem_append_left hp
theorem get_right {a b : List UInt8} {p : Nat} (hp : a.length ≤ p) (h : p < (a ++ b).length) : (a ++ b)[p] = b[p - a.length]'(by rw [List.length_append] at h; omega) := List.getElem_append_right hp
theorem rec_changed {s s' : Piece} (h : s.ok) (h' : s'.ok) {p : Nat} {v : UInt8} (hp : p < s.rec'.length) (hv : v ≠ s.rec'[p]) {r : List UInt8} (e : (s.rec'.set p v ++ r).take s'.size = s'.rec') : False := by
 have hl := rec_length h
 have hl' := rec_length h'
 have hb := body_length h
 have hb' := body_length h'
 have hm : s.b.length < 4294967296 := by have := h.2.2; omega
 have hm' : s'.b.length < 4294967296 := by have := h'.2.2; omega
 -- what stands behind the whole record
 obtain ⟨q, hq⟩ : ∃ q, s.rec'.set p v ++ r = s'.rec' ++ q := ⟨_, by rw [← e, List.take_append_drop]⟩
 have hx : s.rec' = headB s.b.length ++ (s.body ++ num4 (crcL s.body).toNat) := rfl
 have hx' : s'.rec' = headB s'.b.length ++ (s'.body ++ num4 (crcL s'.body).toNat) := rfl
 by_cases hp8 : p < 8
 ·-- in the head
  have h1 : s.rec'.set p v = (headB s.b.length).set p v ++ (s.body ++ num4 (crcL s.body).toNat) := by rw [hx, set_left (by rw [headB_length]; exact hp8)]
  have hv1 : v ≠ (headB s.b.length)[p]'(by rw [headB_length]; exact hp8) := by
   intro ev; apply hv; rw [ev]; simp only [hx]; rw [get_left]
  rw [h1, hx'] at hq
  simp only [List.append_assoc] at hq
  have h2 := (app_inj (a := (headB s.b.length).set p v) (c := headB s'.b.length) hq (by rw [List.length_set, headB_length, headB_length])).1
  by_cases hp4 : p < 4
  ·have h3 : (headB s.b.length).set p v = (num4 s.b.length).set p v ++ num4 (crcL (num4 s.b.length)).toNat := by rw [headB, set_left (by rw [num4_length]; exact hp4)]
   have hv2 : v ≠ (num4 s.b.length)[p]'(by rw [num4_length]; exact hp4) := by
    intro ev; apply hv1; rw [ev]; simp only [headB]; rw [get_left]
   rw [h3] at h2
   obtain ⟨h4, h5⟩ := app_inj (c := num4 s'.b.length) (d := num4 (crcL (num4 s'.b.length)).toNat) h2 (by rw [List.length_set, num4_length, num4_length])
   have h6 := crcnum_inj h5
   rw [← h4] at h6
   exact crc_set _ hv2 h6.symm
  ·have h3 : (headB s.b.length).set p v = num4 s.b.length ++ (num4 (crcL (num4 s.b.length)).toNat).set (p - 4) v := by rw [headB, set_right (by rw [num4_length]; omega), num4_length]
   rw [h3] at h2
   obtain ⟨h4, h5⟩ := app_inj (c := num4 s'.b.length) (d := num4 (crcL (num4 s'.b.length)).toNat) h2 ((num4_length _).trans (num4_length _).symm)
   have h7 := num_inj hm hm' h4
   rw [← h7] at h5
   have h8 := set_self (by rw [num4_length]; omega) h5
   apply hv1; rw [h8]; simp only [headB]; rw [get_right (by rw [num4_length]; omega)]
   simp only [num4_length]
 ·-- behind the head
  have hq8 : p - 8 < (s.body ++ num4 (crcL s.body).toNat).length := by
   rw [hx, List.length_append, headB_length] at hp; omega
  have h1 : s.rec'.set p v = headB s.b.length ++ (s.body ++ num4 (crcL s.body).toNat).set (p - 8) v := by rw [hx, set_right (by rw [headB_length]; omega), headB_length]
  have hv1 : v ≠ (s.body ++ num4 (crcL s.body).toNat)[p - 8] := by
   intro ev; apply hv; rw [ev]
   exact (get_right (a := headB s.b.length) (b := s.body ++ num4 (crcL s.body).toNat) (by rw [headB_length]; omega) hp).symm
  rw [h1, hx'] at hq
  simp only [List.append_assoc] at hq
  rw [← List.append_assoc s'.body] at hq
  obtain ⟨h2, h3⟩ := app_inj (a := headB s.b.length) (c := headB s'.b.length) hq ((headB_length _).trans (headB_length _).symm)
  have h4 := (app_inj (a := num4 s.b.length) (c := num4 s'.b.length) h2 ((num4_length _).trans (num4_length _).symm)).1
  have h7 := num_inj hm hm' h4
  have h9 : (s.body ++ num4 (crcL s.body).toNat).set (p - 8) v = s'.body ++ num4 (crcL s'.body).toNat := (app_inj (a := (s.body ++ num4 (crcL s.body).toNat).set (p - 8) v) (c := s'.body ++ num4 (crcL s'.body).toNat) h3 (by
   rw [List.length_set, List.length_append, List.length_append, num4_length, num4_length]; omega)).1
  by_cases hpb : p - 8 < s.body.length
  ·have hv2 : v ≠ s.body[p - 8] := by
    intro ev; apply hv1; rw [ev]; rw [get_left]
   rw [set_left hpb] at h9
   obtain ⟨h10, h11⟩ := app_inj h9 (by rw [List.length_set]; omega)
   have h12 := crcnum_inj h11
   rw [← h10] at h12
   exact crc_set hpb hv2 h12.symm
  ·rw [set_right (by omega)] at h9
   obtain ⟨h10, h11⟩ := app_inj h9 (by omega)
   rw [← h10] at h11
   have h13 : p - 8 - s.body.length < (num4 (crcL s.body).toNat).length := by rw [List.length_append] at hq8; omega
   have h12 := set_self h13 h11
   apply hv1; rw [h12]; rw [get_right (by omega)]
theorem record_changed {s : Piece} (h : s.ok) {p : Nat} {v : UInt8} (hp : p < s.rec'.length) (hv : v ≠ s.rec'[p]) (r : List UInt8) (t : Nat) : recordL ((s.rec'.set p v ++ r).take t) = none := by
 cases hr : recordL ((s.rec'.set p v ++ r).take t) with
 | none => rfl
 | some q =>
  obtain ⟨s', n⟩ := q
  obtain ⟨h1, h2, h3, h4⟩ := record_ok hr
  subst h2
  rw [List.take_take, Nat.min_eq_left (by rw [List.length_take] at h3; omega)] at h4
  exact (rec_changed h h1 hp hv h4).elim

def piecesF : Nat → List UInt8 → List Piece
 | 0, _ => []
 | f + 1, l => match recordL l with
  | some (s, n) => s :: piecesF f (l.drop n)
  | none => []
def pieces (l : List UInt8) : List Piece := piecesF l.length l
def total (ps : List Piece) : Nat := (ps.map Piece.size).sum
def recs (ps : List Piece) : List UInt8 := (ps.map Piece.rec').flatten
theorem piecesF_fuel : ∀ (f g : Nat) (l : List UInt8), l.length ≤ f → l.length ≤ g → piecesF f l = piecesF g l
 | 0, 0, _, _, _ => rfl
 | 0, g + 1, l, h, _ => by
  have : l = [] := List.length_eq_zero_iff.1 (by omega)
  subst this
  rfl
 | f + 1, 0, l, _, h => by
  have : l = [] := List.length_eq_zero_iff.1 (by omega)
  subst this
  rfl
 | f + 1, g + 1, l, hf, hg => by
  rw [piecesF, piecesF]
  cases hr : recordL l with
  | none => rfl
  | some p =>
   obtain ⟨s, n⟩ := p
   obtain ⟨h1, h2, h3, h4⟩ := record_ok hr
   have hn : 76 ≤ n := by rw [h2, Piece.size]; omega
   show s :: _ = s :: _
   rw [piecesF_fuel f g (l.drop n) (by rw [List.length_drop]; omega) (by rw [List.length_drop]; omega)]
theorem pieces_eq (l : List UInt8) : pieces l = match recordL l with | some (s, n) => s :: pieces (l.drop n) | none => [] := by
 rw [pieces]
 cases hl : l.length with
 | zero =>
  have : l = [] := List.length_eq_zero_iff.1 hl
  subst this
  rfl
 | succ f =>
  rw [piecesF]
  cases hr : recordL l with
  | none => rfl
  | some p =>
   obtain ⟨s, n⟩ := p
   obtain ⟨h1, h2, h3, h4⟩ := record_ok hr
   have hn : 76 ≤ n := by rw [h2, Piece.size]; omega
   show s :: _ = s :: pieces (l.drop n)
   rw [pieces, piecesF_fuel f (l.drop n).length (l.drop n) (by rw [List.length_drop]; omega) (Nat.le_refl _)]
theorem pieces_none {l : List UInt8} (h : recordL l = none) : pieces l = [] := by rw [pieces_eq, h]
theorem pieces_some {l : List UInt8} {s : Piece} {n : Nat} (h : recordL l = some (s, n)) : pieces l = s :: pieces (l.drop n) := by rw [pieces_eq, h]
theorem pieces_app : ∀ {ps : List Piece} (_ : ∀ s ∈ ps, s.ok) (r : List UInt8), pieces (recs ps ++ r) = ps ++ pieces r
 | [], _, r => rfl
 | s :: ps, h, r => by
  have hs := h s List.mem_cons_self
  rw [recs, List.map_cons, List.flatten_cons, List.append_assoc, pieces_some (record_of hs _), List.drop_left' (rec_length hs)]
  exact congrArg (s :: ·) (pieces_app (fun s hs => h s (List.mem_cons_of_mem _ hs)) r)
theorem recs_length : ∀ {ps : List Piece} (_ : ∀ s ∈ ps, s.ok), (recs ps).length = total ps
 | [], _ => rfl
 | s :: ps, h => by
  rw [recs, List.map_cons, List.flatten_cons, List.length_append, rec_length (h s List.mem_cons_self), ← recs, recs_length fun s hs => h s (List.mem_cons_of_mem _ hs)]
  rfl
theorem pieces_spec (l : List UInt8) : (∀ s ∈ pieces l, s.ok) ∧ l = recs (pieces l) ++ l.drop (total (pieces l)) ∧ recordL (l.drop (total (pieces l))) = none := by
 generalize hN : l.length = N
 induction N using Nat.strongRecOn generalizing l with
 | ind N ih =>
  cases hr : recordL l with
  | none => rw [pieces_none hr]; exact ⟨fun s hs => (by cases hs), rfl, hr⟩
  | some p =>
   obtain ⟨s, n⟩ := p
   obtain ⟨h1, h2, h3, h4⟩ := record_ok hr
   have hn : 76 ≤ n := by rw [h2, Piece.size]; omega
   obtain ⟨i1, i2, i3⟩ := ih (l.drop n).length (by rw [List.length_drop]; omega) (l.drop n) rfl
   rw [pieces_some hr]
   have ht : total (s :: pieces (l.drop n)) = n + total (pieces (l.drop n)) := by rw [h2]; rfl
   refine ⟨fun x hx => ?_, ?_, ?_⟩
   ·rcases List.mem_cons.1 hx with rfl | hx
    ·exact h1
    ·exact i1 x hx
   ·rw [ht, recs, List.map_cons, List.flatten_cons, ← recs, ← h4, List.append_assoc, ← List.drop_drop, ← i2, List.take_append_drop]
   ·rw [ht, ← List.drop_drop]; exact i3
theorem pieces_ok (l : List UInt8) : ∀ s ∈ pieces l, s.ok := (pieces_spec l).1
theorem total_le (l : List UInt8) : total (pieces l) ≤ l.length := by
 have h := congrArg List.length (pieces_spec l).2.1
 rw [List.length_append, recs_length (pieces_ok l)] at h
 omega
theorem total_take_le : ∀ (ps : List Piece) (k : Nat), total (ps.take k) ≤ total ps
 | [], k => by simp [total]
 | s :: ps, 0 => Nat.zero_le _
 | s :: ps, k + 1 => by
  rw [List.take_succ_cons]
  exact Nat.add_le_add_left (total_take_le ps k) s.size
theorem total_app (a b : List Piece) : total (a ++ b) = total a + total b := by simp [total]
theorem recs_app (a b : List Piece) : recs (a ++ b) = recs a ++ recs b := by simp [recs]
theorem total_succ {ps : List Piece} {k : Nat} {s : Piece} (h : ps[k]? = some s) : total (ps.take (k + 1)) = total (ps.take k) + s.size := by
 rw [List.take_add_one, h, total_app]
 simp [total]
theorem pieces_at {l : List UInt8} {k : Nat} {s : Piece} (h : (pieces l)[k]? = some s) : recordL (l.drop (total ((pieces l).take k))) = some (s, s.size) := by
 obtain ⟨h1, h2, h3⟩ := pieces_spec l
 have hk : k < (pieces l).length := (List.getElem?_eq_some_iff.1 h).1
 have e : pieces l = (pieces l).take k ++ s :: (pieces l).drop (k + 1) := by
  have h4 := (List.getElem?_eq_some_iff.1 h).2
  rw [← h4, ← List.drop_eq_getElem_cons hk, List.take_append_drop]
 have hok : ∀ x ∈ (pieces l).take k, x.ok := fun x hx => h1 x (List.mem_of_mem_take hx)
 have h5 : l.drop (total ((pieces l).take k)) = s.rec' ++ (recs ((pieces l).drop (k + 1)) ++ l.drop (total (pieces l))) := by
  have h6 : l = recs ((pieces l).take k) ++ (s.rec' ++ (recs ((pieces l).drop (k + 1)) ++ l.drop (total (pieces l)))) := by
   rw [← List.append_assoc s.rec', ← List.append_assoc (recs _), show s.rec' ++ recs ((pieces l).drop (k + 1)) = recs (s :: (pieces l).drop (k + 1)) from rfl, ← recs_app, ← e]
   exact h2
  have h7 := congrArg (List.drop (total ((pieces l).take k))) h6
  rwa [List.drop_left' (recs_length hok)] at h7
 rw [h5]
 exact record_of (h1 s (List.mem_of_getElem? h)) _
end Go.Sto

namespace Go.Sto
abbrev Disk := List UInt8 × Int
def dvalid (d : Disk) : Bool := decide (0 ≤ d.2 ∧ d.2 ≤ d.1.length)
def putL (d : Disk) (s : Piece) : Disk × Nat :=
 if dvalid d = true then
  if 65536 < s.b.length then (([], 0), 2)
  else if total (pieces d.1) < d.1.length then (([], 0), 290)
  else if 1048576 < total (pieces d.1) + 76 + s.b.length then (([], 0), 2)
  else ((d.1 ++ s.rec', d.2), 0)
 else (([], 0), 1)
def noPiece : Piece := ⟨List.replicate 32 0, [], List.replicate 32 0⟩
def getStep (cor : Piece → Bool) (key : List UInt8) (st : Piece × Nat) (s : Piece) : Piece × Nat :=
 if s.key = key then if cor s = true then (s, 0) else if st.2 = 3 then (st.1, 280) else st else st
def getF (cor : Piece → Bool) (key : List UInt8) (ps : List Piece) : Piece × Nat := ps.foldl (getStep cor key) (noPiece, 3)
def getL (cor : Piece → Bool) (d : Disk) (key : List UInt8) : Piece × Nat := if dvalid d = true then getF cor key (pieces d.1) else (noPiece, 1)
def getB (cor : Piece → Bool) (key : List UInt8) : List Piece → Nat → Piece × Nat
 | [], c => (noPiece, c)
 | s :: l, c => if s.key = key then if cor s = true then (s, 0) else getB cor key l 280 else getB cor key l c
def loadL (cor : Piece → Bool) (d : Disk) : (List Piece × Nat) × Nat := if dvalid d = true then (((pieces d.1).filter cor, total (pieces d.1)), 0) else (([], 0), 1)
def syncL (d : Disk) : Disk := if dvalid d = true then (d.1, d.1.length) else ([], 0)
def keepN (d : Disk) (keep : Int) : Int := min (max keep 0) (d.1.length - d.2)
def crashB (d : Disk) (keep at' : Int) (by' : UInt8) : List UInt8 :=
 if 0 ≤ at' ∧ at' < keepN d keep then (d.1.take (d.2 + keepN d keep).toNat).set (d.2 + at').toNat by' else d.1.take (d.2 + keepN d keep).toNat
def crashL (d : Disk) (keep at' : Int) (by' : UInt8) : Disk := if dvalid d = true then (crashB d keep at' by', (crashB d keep at' by').length) else ([], 0)
def repairN (cor : Piece → Bool) (l : List UInt8) : Nat := total ((pieces l).takeWhile cor)
def repairL (cor : Piece → Bool) (d : Disk) : Disk := if dvalid d = true then (d.1.take (repairN cor d.1), min d.2 (repairN cor d.1)) else ([], 0)

theorem getB_from (cor : Piece → Bool) (key : List UInt8) : ∀ l, ((getB cor key l 3).2 = 3 → (getB cor key l 3).1 = noPiece) ∧ getB cor key l 280 = if (getB cor key l 3).2 = 3 then (noPiece, 280) else getB cor key l 3
 | [] => ⟨fun _ => rfl, rfl⟩
 | s :: l => by
  obtain ⟨h1, h2⟩ := getB_from cor key l
  by_cases hk : s.key = key
  ·by_cases hc : cor s = true
   ·have e : ∀ c, getB cor key (s :: l) c = (s, 0) := fun c => by rw [getB, if_pos hk, if_pos hc]
    rw [e, e]; exact ⟨fun h => (by cases h), rfl⟩
   ·have e : ∀ c, getB cor key (s :: l) c = getB cor key l 280 := fun c => by rw [getB, if_pos hk, if_neg hc]
    rw [e, e]
    by_cases h3 : (getB cor key l 3).2 = 3
    ·have e' : getB cor key l 280 = (noPiece, 280) := by rw [h2, if_pos h3]
     rw [e']; exact ⟨fun h => (by cases h), rfl⟩
    ·have e' : getB cor key l 280 = getB cor key l 3 := by rw [h2, if_neg h3]
     rw [e']; exact ⟨fun h => absurd h h3, (if_neg h3).symm⟩
  ·have e : ∀ c, getB cor key (s :: l) c = getB cor key l c := fun c => by rw [getB, if_neg hk]
   rw [e, e]; exact ⟨h1, h2⟩
theorem getF_snoc (cor : Piece → Bool) (key : List UInt8) (ps : List Piece) (s : Piece) : getF cor key (ps ++ [s]) = getStep cor key (getF cor key ps) s := by
 rw [getF, getF, List.foldl_append]; rfl
theorem snocRec {α : Type} {P : List α → Prop} (h0 : P []) (h1 : ∀ l a, P l → P (l ++ [a])) (l : List α) : P l := by
 have key : ∀ l : List α, P l.reverse := fun l => by
  induction l with
  | nil => exact h0
  | cons a l ih => rw [List.reverse_cons]; exact h1 _ _ ih
 simpa using key l.reverse
theorem getB_eq (cor : Piece → Bool) (key : List UInt8) (ps : List Piece) : getB cor key ps.reverse 3 = getF cor key ps := by
 refine snocRec (P := fun ps => getB cor key ps.reverse 3 = getF cor key ps) rfl (fun ps s ih => ?_) ps
 ·rw [getF_snoc, List.reverse_append, List.reverse_cons, List.reverse_nil, List.nil_append, List.cons_append, List.nil_append, getB, getStep, ← ih]
  obtain ⟨h1, h2⟩ := getB_from cor key ps.reverse
  split
  ·split
   ·rfl
   ·rw [h2]
    split
    ·rename_i h3; rw [h1 h3]
    ·rfl
  ·rfl
theorem getF_spec (cor : Piece → Bool) (key : List UInt8) (ps : List Piece) :
  getF cor key ps = match (ps.filter cor).reverse.find? (fun s => decide (s.key = key)) with
   | some s => (s, 0)
   | none => (noPiece, if ps.any (fun s => decide (s.key = key)) = true then 280 else 3) := by
 refine snocRec (P := fun ps => getF cor key ps = match (ps.filter cor).reverse.find? (fun s => decide (s.key = key)) with
   | some s => (s, 0)
   | none => (noPiece, if ps.any (fun s => decide (s.key = key)) = true then 280 else 3)) rfl (fun ps s ih => ?_) ps
 ·rw [getF_snoc, ih, List.filter_append, List.any_append, getStep]
  by_cases hk : s.key = key
  ·rw [if_pos hk]
   by_cases hc : cor s = true
   ·rw [if_pos hc]
    simp [hc, hk]
   ·rw [if_neg hc]
    simp only [List.filter_cons, hc, List.filter_nil, List.append_nil, Bool.false_eq_true, if_false]
    cases hf : (ps.filter cor).reverse.find? (fun s => decide (s.key = key)) with
    | some t => simp
    | none =>
     simp only [List.any_cons, hk, decide_true, Bool.true_or, Bool.or_true, if_true]
     by_cases ha : ps.any (fun s => decide (s.key = key)) = true
     ·rw [if_pos ha]; rfl
     ·rw [if_neg ha]; rfl
  ·rw [if_neg hk]
   by_cases hc : cor s = true
   ·simp [hc, hk]
   ·simp [hc, hk]

def whole : List Piece → Nat → Nat
 | [], _ => 0
 | s :: ps, t => if s.size ≤ t then whole ps (t - s.size) + 1 else 0
theorem recs_cons (s : Piece) (ps : List Piece) : recs (s :: ps) = s.rec' ++ recs ps := rfl
theorem total_cons (s : Piece) (ps : List Piece) : total (s :: ps) = s.size + total ps := rfl
theorem pieces_one {s : Piece} (h : s.ok) (r : List UInt8) : pieces (s.rec' ++ r) = s :: pieces r := by
 rw [pieces_some (record_of h r), List.drop_left' (rec_length h)]
theorem cut_pieces : ∀ {ps : List Piece} (_ : ∀ s ∈ ps, s.ok) (t : Nat), pieces ((recs ps).take t) = ps.take (whole ps t)
 | [], _, t => by rw [show (recs []).take t = [] from List.take_nil]; rfl
 | s :: ps, h, t => by
  have hs := h s List.mem_cons_self
  have hl := rec_length hs
  rw [recs_cons, whole]
  by_cases ht : s.size ≤ t
  ·rw [if_pos ht, List.take_append, hl, List.take_of_length_le (by omega), pieces_one hs, cut_pieces (fun x hx => h x (List.mem_cons_of_mem _ hx)), List.take_succ_cons]
  ·rw [if_neg ht, List.take_append_of_le_length (by omega), pieces_none (record_short hs (by omega)), List.take_zero]
theorem set_pieces : ∀ {ps : List Piece} (_ : ∀ s ∈ ps, s.ok) {p t : Nat} {v : UInt8}, p < t → (hp : p < (recs ps).length) → v ≠ (recs ps)[p] → pieces (((recs ps).set p v).take t) = ps.take (whole ps p)
 | [], _, p, t, v, _, hp, _ => by simp [recs] at hp
 | s :: ps, h, p, t, v, hpt, hp, hv => by
  have hs := h s List.mem_cons_self
  have hl := rec_length hs
  have hpl : p < s.rec'.length + (recs ps).length := by rw [recs_cons, List.length_append] at hp; exact hp
  rw [whole]
  by_cases hps : s.size ≤ p
  ·rw [if_pos hps, recs_cons, set_right (by omega), List.take_append, hl, List.take_of_length_le (by omega), pieces_one hs]
   have hp' : p - s.size < (recs ps).length := by omega
   have hv' : v ≠ (recs ps)[p - s.size] := by
    intro e; apply hv; rw [e]
    have := get_right (a := s.rec') (b := recs ps) (p := p) (by omega) (by rw [List.length_append]; exact hpl)
    simp only [hl] at this
    exact this.symm
   rw [set_pieces (fun x hx => h x (List.mem_cons_of_mem _ hx)) (by omega) hp' hv', List.take_succ_cons]
  ·rw [if_neg hps, recs_cons, set_left (by omega), pieces_none (record_changed hs (by omega) ?_ _ _), List.take_zero]
   intro e; apply hv; rw [e]
   exact (get_left (a := s.rec') (b := recs ps) (by omega) _).symm
theorem size_pos (s : Piece) : 0 < s.size := by rw [Piece.size]; omega
theorem whole_mono : ∀ (ps : List Piece) {t t' : Nat}, t ≤ t' → whole ps t ≤ whole ps t'
 | [], _, _, _ => Nat.le_refl _
 | s :: ps, t, t', h => by
  rw [whole, whole]
  by_cases h1 : s.size ≤ t
  ·rw [if_pos h1, if_pos (by omega)]
   exact Nat.succ_le_succ (whole_mono ps (by omega))
  ·rw [if_neg h1]; exact Nat.zero_le _
theorem whole_le : ∀ (ps : List Piece) (t : Nat), whole ps t ≤ ps.length
 | [], _ => Nat.le_refl _
 | s :: ps, t => by
  rw [whole]
  split
  ·exact Nat.succ_le_succ (whole_le ps _)
  ·exact Nat.zero_le _
theorem whole_total : ∀ (ps : List Piece) {j : Nat}, j ≤ ps.length → whole ps (total (ps.take j)) = j
 | [], j, h => by rw [Nat.le_zero.1 h]; rfl
 | s :: ps, 0, _ => by
  have := size_pos s
  rw [whole, List.take_zero, show total [] = 0 from rfl, if_neg (by omega)]
 | s :: ps, j + 1, h => by
  rw [whole, List.take_succ_cons, total_cons, if_pos (by omega), Nat.add_sub_cancel_left, whole_total ps (by simpa using h)]
theorem take_pieces {ps : List Piece} (h : ∀ s ∈ ps, s.ok) {j : Nat} (hj : j ≤ ps.length) : pieces ((recs ps).take (total (ps.take j))) = ps.take j := by rw [cut_pieces h, whole_total ps hj]
theorem recs_pieces {ps : List Piece} (h : ∀ s ∈ ps, s.ok) : pieces (recs ps) = ps := by
 have := pieces_app h []
 rw [List.append_nil] at this
 rw [this, show pieces [] = [] from rfl, List.append_nil]

theorem crash_pieces {ps : List Piece} (h : ∀ s ∈ ps, s.ok) {j : Nat} (hj : j ≤ ps.length) (keep at' : Int) (by' : UInt8) :
  ∃ m, j ≤ m ∧ m ≤ ps.length ∧ pieces (crashB (recs ps, (total (ps.take j) : Nat)) keep at' by') = ps.take m := by
 obtain ⟨T, hT⟩ : ∃ T, T = total (ps.take j) := ⟨_, rfl⟩
 have hle : T ≤ (recs ps).length := by rw [recs_length h, hT]; exact total_take_le ps j
 obtain ⟨k, hk⟩ : ∃ k : Nat, keepN (recs ps, (T : Int)) keep = k := ⟨(keepN (recs ps, (T : Int)) keep).toNat, by
  have : 0 ≤ keepN (recs ps, (T : Int)) keep := by simp only [keepN]; omega
  omega⟩
 have hk2 : T + k ≤ (recs ps).length := by simp only [keepN] at hk; omega
 have hj' : ∀ t, T ≤ t → j ≤ whole ps t := fun t ht => by
  have := whole_mono ps ht
  rw [hT, whole_total ps hj] at this
  exact this
 rw [← hT, crashB]
 simp only [hk]
 rw [show ((T : Int) + (k : Int)).toNat = T + k by omega]
 by_cases hc : 0 ≤ at' ∧ at' < (k : Int)
 ·rw [if_pos hc]
  obtain ⟨p, hp⟩ : ∃ p : Nat, ((T : Int) + at').toNat = p := ⟨_, rfl⟩
  have hp1 : T ≤ p := by omega
  have hp2 : p < T + k := by omega
  have hp3 : p < (recs ps).length := by omega
  rw [hp, ← List.take_set]
  by_cases hv : by' = (recs ps)[p]
  ·rw [hv, List.set_getElem_self, cut_pieces h]
   exact ⟨_, hj' _ (by omega), whole_le _ _, rfl⟩
  ·rw [set_pieces h hp2 hp3 hv]
   exact ⟨_, hj' _ hp1, whole_le _ _, rfl⟩
 ·rw [if_neg hc, cut_pieces h]
  exact ⟨_, hj' _ (by omega), whole_le _ _, rfl⟩

theorem takeWhile_split (cor : Piece → Bool) : ∀ ps : List Piece, ∃ r, ps = ps.takeWhile cor ++ r ∧ ps.filter cor = ps.takeWhile cor ++ r.filter cor
 | [] => ⟨[], rfl, rfl⟩
 | s :: ps => by
  obtain ⟨r, h1, h2⟩ := takeWhile_split cor ps
  by_cases hc : cor s = true
  ·refine ⟨r, ?_, ?_⟩
   ·rw [List.takeWhile_cons, if_pos hc, List.cons_append, ← h1]
   ·rw [List.takeWhile_cons, if_pos hc, List.filter_cons, if_pos hc, h2, List.cons_append]
  ·refine ⟨s :: ps, ?_, ?_⟩
   ·rw [List.takeWhile_cons, if_neg hc, List.nil_append]
   ·rw [List.takeWhile_cons, if_neg hc, List.nil_append]
theorem takeWhile_cor (cor : Piece → Bool) : ∀ (ps : List Piece), ∀ s ∈ ps.takeWhile cor, cor s = true
 | [], s, h => by cases h
 | t :: ps, s, h => by
  rw [List.takeWhile_cons] at h
  split at h
  ·rename_i ht
   rcases List.mem_cons.1 h with rfl | h
   ·exact ht
   ·exact takeWhile_cor cor ps s h
  ·cases h
theorem filter_all {cor : Piece → Bool} {ps : List Piece} (h : ∀ s ∈ ps, cor s = true) : ps.filter cor = ps ∧ ps.takeWhile cor = ps := by
 induction ps with
 | nil => exact ⟨rfl, rfl⟩
 | cons s ps ih =>
  obtain ⟨h1, h2⟩ := ih fun x hx => h x (List.mem_cons_of_mem _ hx)
  have hs := h s List.mem_cons_self
  rw [List.filter_cons, List.takeWhile_cons, if_pos hs, if_pos hs, h1, h2]
  exact ⟨rfl, rfl⟩
theorem repair_take (cor : Piece → Bool) (l : List UInt8) : l.take (repairN cor l) = recs ((pieces l).takeWhile cor) ∧ repairN cor l ≤ l.length ∧ ∀ s ∈ (pieces l).takeWhile cor, s.ok := by
 obtain ⟨h1, h2, h3⟩ := pieces_spec l
 obtain ⟨r, hr, _⟩ := takeWhile_split cor (pieces l)
 have hok : ∀ s ∈ (pieces l).takeWhile cor, s.ok := fun s hs => h1 s (by rw [hr]; exact List.mem_append_left _ hs)
 have e : l = recs ((pieces l).takeWhile cor) ++ (recs r ++ l.drop (total (pieces l))) := by
  rw [← List.append_assoc, ← recs_app, ← hr]; exact h2
 refine ⟨?_, ?_, hok⟩
 ·have h4 := congrArg (List.take (repairN cor l)) e
  exact h4.trans (List.take_left' (recs_length hok))
 ·have h4 := congrArg List.length e
  rw [List.length_append, recs_length hok] at h4
  rw [repairN]; omega
theorem repair_len (cor : Piece → Bool) (l : List UInt8) : (l.take (repairN cor l)).length = repairN cor l := by rw [List.length_take]; have := (repair_take cor l).2.1; omega
theorem repair_pieces (cor : Piece → Bool) (l : List UInt8) : pieces (l.take (repairN cor l)) = (pieces l).takeWhile cor := by
 obtain ⟨h1, _, h3⟩ := repair_take cor l
 rw [h1, recs_pieces h3]
theorem repair_again (cor : Piece → Bool) (l : List UInt8) : repairN cor (l.take (repairN cor l)) = repairN cor l := by
 rw [repairN, repair_pieces, (filter_all (takeWhile_cor cor _)).2]; rfl
end Go.Sto

namespace Go.Proofs.YtnhmglhbhnhnhaaDoor
set_option linter.unusedVariables false
open Go.Ab Go.RowKit

theorem qSa0 {a : Prop} (h : a := by first | exact vcA | (simp <;> omega) | exact vcB) : a := h
theorem uSa0 {a : Prop} (h : a := by
    repeat' (first | exact trivial | refine aI ?_ ?_ | exact cC0 | refine low_cons' ?_ ?_ | exact cC1 | fail)) : a := h
theorem uSa1 {a : Prop} (h : a := by
    repeat' (first | exact trivial | refine aI ?_ ?_ | exact cC0 | refine low_cons' ?_ ?_ | exact cC1 | fail)
    all_goals first | omega | (show (_ : UInt32) = _; first | exact crc_take0 _ _ | exact (crc_take0 _ _).symm) | (simp; done) | (simp <;> omega) | skip) : a := h
theorem uSa2 {a : Prop} (h : a := by
    repeat' (first | exact trivial | refine aI ?_ ?_ | exact cC0 | refine low_cons' ?_ ?_ | exact cC1 | fail)
    all_goals first | omega | (show (_ : UInt32) = _; rw [bitsN]; simp only [Int.toNat_natCast, Nat.mul_one]) | (simp; done) | (simp <;> omega) | skip) : a := h
theorem uSa3 {a : Prop} (h : a := by
    repeat' (first | exact trivial | refine aI ?_ ?_ | exact cC0 | refine low_cons' ?_ ?_ | exact cC1 | fail)
    all_goals first | omega | (show (_ : UInt32) = _; first | exact bit_odd h_t32 | exact bit_even h_t32) | (simp; done) | (simp <;> omega) | skip) : a := h
theorem uSa4 {a : Prop} (h : a := by
    repeat' (first | exact trivial | refine aI ?_ ?_ | exact cC0 | refine low_cons' ?_ ?_ | exact cC1 | fail)
    all_goals first | omega | (show (_ : UInt32) = _; rw [show i = 8 by omega]; exact crc_step _ _ hjl) | (simp; done) | (simp <;> omega) | skip) : a := h
theorem uSa5 {a : Prop} (h : a := by
    repeat' (first | exact trivial | refine aI ?_ ?_ | exact cC0 | refine low_cons' ?_ ?_ | exact cC1 | fail)
    all_goals first | omega | (show (_ : UInt32) = _; first | exact bit_oddR h_t29 | exact bit_evenR h_t29) | (simp; done) | (simp <;> omega) | skip) : a := h

open Go.Sto
def catP (ps : List (List UInt8)) (k : Nat) : List UInt8 := (ps.take k).flatten
theorem catP_step (ps : List (List UInt8)) (k : Nat) (h : k < ps.length) : catP ps (k + 1) = catP ps k ++ ps.getD k [] := by
  rw [catP, catP, List.take_add_one, List.flatten_append, List.getElem?_eq_getElem h, Option.toList_some, List.getD_eq_getElem?_getD, List.getElem?_eq_getElem h, Option.getD_some]
  simp
theorem catP_full (ps : List (List UInt8)) : catP ps ps.length = ps.flatten := by rw [catP, List.take_length]
theorem crc_step (c : UInt32) (l : List UInt8) {j : Nat} (h : j < l.length) : bitsN 8 (crcFold c (l.take j) ^^^ (l.getD j 0).toUInt32) = crcFold c (l.take (j + 1)) := by
  rw [List.take_add_one, crcFold_app, List.getElem?_eq_getElem h, Option.toList_some, List.getD_eq_getElem?_getD, List.getElem?_eq_getElem h, Option.getD_some]
  rfl
theorem crc_part (c : UInt32) (ps : List (List UInt8)) {k : Nat} (h : k < ps.length) : crcFold (crcFold c (catP ps k)) ((ps.getD k []).take (ps.getD k []).length) = crcFold c (catP ps (k + 1)) := by
  rw [List.take_length, catP_step ps k h, crcFold_app]
theorem and_one (c : UInt32) : c &&& 1 = c % 2 := by
  apply UInt32.toNat_inj.1
  rw [UInt32.toNat_and, UInt32.toNat_mod]
  exact Nat.and_one_is_mod _
theorem shr_one (c : UInt32) : shr32 c 1 = c / 2 := by
  apply UInt32.toNat_inj.1
  rw [shr32, if_pos (by decide), UInt32.toNat_shiftRight, UInt32.toNat_div]
  exact Nat.shiftRight_eq_div_pow _ 1
theorem bit_odd {i : Nat} {c : UInt32} (h : bitsN i c &&& 1 = 1) : shr32 (bitsN i c) 1 ^^^ 3988292384 = bitsN (i + 1) c := by
  rw [and_one] at h
  rw [bitsN, bitStep, if_pos h, shr_one]
theorem bit_even {i : Nat} {c : UInt32} (h : ¬ bitsN i c &&& 1 = 1) : shr32 (bitsN i c) 1 = bitsN (i + 1) c := by
  rw [and_one] at h
  rw [bitsN, bitStep, if_neg h, shr_one]
theorem bit_oddR {i : Nat} {c : UInt32} (h : bitsN i c % 2 = 1) : bitsN i c / 2 ^^^ 3988292384 = bitsN (i + 1) c := by rw [bitsN, bitStep, if_pos h]
theorem bit_evenR {i : Nat} {c : UInt32} (h : ¬ bitsN i c % 2 = 1) : bitsN i c / 2 = bitsN (i + 1) c := by rw [bitsN, bitStep, if_neg h]
theorem compl_sub (c : UInt32) : 4294967295 - c = ~~~c := by
  apply UInt32.toNat_inj.1
  rw [UInt32.toNat_not]
  have := c.toNat_lt
  rw [UInt32.toNat_sub_of_le _ _ (by rw [UInt32.le_iff_toNat_le]; show c.toNat ≤ 4294967295; omega)]
  rfl
theorem shr_byte (x : UInt32) {n : Nat} (h : n < 32) : (shr32 x n).toUInt8 = UInt8.ofNat (x.toNat / 2 ^ n) := by
  rw [shr32, if_pos h]
  apply UInt8.toNat_inj.1
  rw [UInt32.toNat_toUInt8, UInt32.toNat_shiftRight, UInt8.toNat_ofNat', Nat.shiftRight_eq_div_pow]
  have : (n.toUInt32.toNat % 32) = n := by
    rw [show n.toUInt32.toNat = n % 2 ^ 32 from UInt32.toNat_ofNat' ..]
    omega
  rw [this]
theorem low_byte (x : UInt32) : x.toUInt8 = UInt8.ofNat x.toNat := by
  apply UInt8.toNat_inj.1
  rw [UInt32.toNat_toUInt8, UInt8.toNat_ofNat']
theorem number_eq (x : UInt32) : [(shr32 x 24).toUInt8, (shr32 x 16).toUInt8, (shr32 x 8).toUInt8, x.toUInt8] = num4 x.toNat := by
  rw [shr_byte x (by decide), shr_byte x (by decide), shr_byte x (by decide), low_byte]
  rfl
theorem crc_zero (c : UInt32) (ps : List (List UInt8)) : c = crcFold c (catP ps 0) := rfl
theorem crc_take0 (c : UInt32) (l : List UInt8) : c = crcFold c (l.take 0) := rfl
attribute [local irreducible] crcFold bitsN
abbrev listsV (ps : List (List UInt8)) : SV := .c (.ds ps.length (.cells (lists ps)))
abbrev bytesV (l : List UInt8) : SV := .c (.ds l.length (.u8s l))
abbrev diskV (d : Disk) : SV := .agg (.cells [.ds d.1.length (.u8s d.1), .int .i64 d.2])
def checksumS : QSpec := fun vs K => ∃ ps : List (List UInt8), vs = [listsV ps] ∧ (ps.length ≤ 1000000 ∧ ∀ p ∈ ps, p.length ≤ 9223372036854775807) ∧ K (.c (.u32 (crcL ps.flatten)))
set_option maxHeartbeats 1000000 in
theorem checksum_ok : FlatOK Tryd.prog gl 37 checksumS := by
 refine flat_of (Γ := g0) (N := 40) Tryd.func37 rfl rfl fun vs K h => ?_
 obtain ⟨ps, rfl, ⟨hn, hb⟩, h⟩ := h
 refine ⟨_, h, rfl, by simp, fun w I => ?_⟩
 refine seq_k fun _ hK1 => ?_; refine region_k g0_ok fun _ hK2 => ?_
 refine sS1 ?_
 refine s_nil ?_; apply hK2; apply hK1; refine seq_k fun _ hK3 => ?_; refine region_k g0_ok fun _ hK4 => ?_
 refine sS1 ?_
 refine s_nil ?_; apply hK4; apply hK3; refine seq_k fun _ hK5 => ?_; refine seq_k fun _ hK6 => ?_; refine region_k g0_ok fun _ hK7 => ?_
 refine sS1 ?_
 refine sS fun _ hS => ?_; (repeat refine aI qSa0 ?_); apply hS; clear hS
 refine sS1 ?_
 refine s_nil ?_; apply hK7; apply hK6; refine WP_block ?_
 refine WP_loop (α := Nat) (fun k => [(3, .c (.u32 (crcFold 4294967295 (catP ps k)))), (9, .c (.ds ps.length (.cells (lists ps)))), (10, .c (.int .i64 ps.length)), (11, .c (.int .i64 k))]) (fun k => []) 0 (fun k => k ≤ ps.length) (fun k => ps.length - k) ?_ ?_
 ·refine dnS [] id 0 (Nat.zero_le _) [] ?_ ?_ ?_ ?_
  ·repeat' (first | exact trivial | refine aI ?_ ?_ | exact cC0 | refine low_cons' ?_ ?_ | exact cC1 | fail)
   all_goals first | omega | (show (_ : UInt32) = _; first | exact crc_zero _ _ | exact (crc_zero _ _).symm) | (simp; done) | (simp <;> omega) | skip
  ·exact uSa0
  ·exact uSa0
  ·exact uSa0
 ·intro k hk
  refine seq_k fun _ hK8 => ?_; refine region_k g0_ok fun _ hK9 => ?_
  refine sS fun _ hS => ?_; (repeat refine aI qSa0 ?_); apply hS; clear hS; refine s_nil ?_; apply hK9; apply hK8; refine seq_k fun _ hK10 => ?_
  refine WP_cond (b := _) rfl (fun h_t12 => ?_) (fun h_t12 => ?_)
  ·try simp only [dQ] at h_t12
   refine WP_skip ?_; apply hK10; refine seq_k fun _ hK11 => ?_; refine WP_block ?_; refine seq_k fun _ hK12 => ?_
   have hkl : k < ps.length := by omega
   refine region_k g0_ok fun _ hK13 => ?_
   refine sS fun _ hS => ?_; (repeat refine aI qSa0 ?_); apply hS; clear hS
   refine sS fun _ hS => ?_
   repeat refine aI qSa0 ?_
   rw [get_lists]
   rotate_left 1
   ·first | omega | (simp <;> omega)
   first | apply hS | (refine whole_yes qSa0 ?_; apply hS) | (refine whole_sub ?_; apply hS)
   clear hS
   refine sS1 ?_
   refine s_nil ?_; apply hK13; apply hK12; refine seq_k fun _ hK14 => ?_; refine region_k g0_ok fun _ hK15 => ?_
   refine sS1 ?_
   refine sS fun _ hS => ?_; (repeat refine aI qSa0 ?_); apply hS; clear hS
   refine sS1 ?_
   refine s_nil ?_; apply hK15; apply hK14; refine WP_block ?_
   refine WP_loop (α := Nat) (fun j => [(3, .c (.u32 (crcFold (crcFold 4294967295 (catP ps k)) ((ps.getD k []).take j)))), (9, .c (.ds ps.length (.cells (lists ps)))), (10, .c (.int .i64 ps.length)), (11, .c (.int .i64 k)), (15, .c (.ds (ps.getD k []).length (.u8s (ps.getD k [])))), (16, .c (.int .i64 (ps.getD k []).length)), (17, .c (.int .i64 j))]) (fun j => []) 0 (fun j => j ≤ (ps.getD k []).length) (fun j => (ps.getD k []).length - j) ?_ ?_
   ·refine dnS [] id 0 (Nat.zero_le _) [] ?_ ?_ ?_ ?_
    ·exact uSa1
    ·exact uSa0
    ·exact uSa0
    ·exact uSa0
   ·intro j hj
    have hpb := hb _ (getD_mem ps k hkl)
    refine seq_k fun _ hK16 => ?_; refine region_k g0_ok fun _ hK17 => ?_
    refine sS fun _ hS => ?_; (repeat refine aI qSa0 ?_); apply hS; clear hS; refine s_nil ?_; apply hK17; apply hK16; refine seq_k fun _ hK18 => ?_
    refine WP_cond (b := _) rfl (fun h_t18 => ?_) (fun h_t18 => ?_)
    ·try simp only [dQ] at h_t18
     refine WP_skip ?_; apply hK18; refine seq_k fun _ hK19 => ?_; refine WP_block ?_; refine seq_k fun _ hK20 => ?_
     have hjl : j < (ps.getD k []).length := by omega
     refine region_k g0_ok fun _ hK21 => ?_
     refine sS fun _ hS => ?_; (repeat refine aI qSa0 ?_); apply hS; clear hS
     refine sS fun _ hS => ?_; (repeat refine aI qSa0 ?_); (first | apply hS | (refine whole_yes qSa0 ?_; apply hS) | (refine whole_sub ?_; apply hS)); clear hS
     refine sS1 ?_
     refine s_nil ?_; apply hK21; apply hK20; refine seq_k fun _ hK22 => ?_; refine region_k g0_ok fun _ hK23 => ?_
     iterate 2 refine sS1 ?_
     refine sS fun _ hS => ?_; (repeat first | refine aI qSa0 ?_ | refine whole_yes qSa0 ?_ | refine whole_sub ?_); apply hS; clear hS
     refine sS fun _ hS => ?_; (repeat refine aI qSa0 ?_); apply hS; clear hS
     refine sS1 ?_
     refine s_nil ?_; apply hK23; apply hK22; refine seq_k fun _ hK24 => ?_; refine region_k g0_ok fun _ hK25 => ?_
     refine sS1 ?_
     refine s_nil ?_; apply hK25; apply hK24; refine WP_block ?_
     refine WP_loop (α := Nat) (fun i => [(3, .c (.u32 (bitsN i ((crcFold (crcFold 4294967295 (catP ps k)) ((ps.getD k []).take j)) ^^^ ((ps.getD k []).getD j 0).toUInt32)))), (9, .c (.ds ps.length (.cells (lists ps)))), (10, .c (.int .i64 ps.length)), (11, .c (.int .i64 k)), (15, .c (.ds (ps.getD k []).length (.u8s (ps.getD k [])))), (16, .c (.int .i64 (ps.getD k []).length)), (17, .c (.int .i64 j)), (25, .c (.int .i64 i))]) (fun i => []) 0 (fun i => i ≤ 8) (fun i => 8 - i) ?_ ?_
     ·refine dnS [] id 0 (Nat.zero_le _) [] ?_ ?_ ?_ ?_
      ·exact uSa2
      ·exact uSa0
      ·exact uSa0
      ·exact uSa0
     ·intro i hi
      refine seq_k fun _ hK26 => ?_; refine region_k g0_ok fun _ hK27 => ?_
      refine sS fun _ hS => ?_; (repeat refine aI qSa0 ?_); apply hS; clear hS; refine s_nil ?_; apply hK27; apply hK26; refine seq_k fun _ hK28 => ?_
      refine WP_cond (b := _) rfl (fun h_t26 => ?_) (fun h_t26 => ?_)
      ·try simp only [dQ] at h_t26
       refine WP_skip ?_; apply hK28; refine seq_k fun _ hK29 => ?_; refine WP_block ?_; refine seq_k fun _ hK30 => ?_; refine region_k g0_ok fun _ hK31 => ?_
       refine sS1 ?_
       refine sS fun _ hS => ?_; (repeat refine aI qSa0 ?_); apply hS; clear hS
       refine sS1 ?_
       refine s_nil ?_; apply hK31; apply hK30; refine seq_k fun _ hK32 => ?_; refine region_k g0_ok fun _ hK33 => ?_
       refine sS1 ?_
       refine sS fun _ hS => ?_; (repeat refine aI qSa0 ?_); apply hS; clear hS
       refine sS1 ?_
       refine s_nil ?_; apply hK33; apply hK32; refine seq_k fun _ hK34 => ?_; refine region_k g0_ok fun _ hK35 => ?_
       refine sS1 ?_
       refine sS fun _ hS => ?_; (repeat refine aI qSa0 ?_); apply hS; clear hS; refine s_nil ?_; apply hK35; apply hK34
       refine WP_cond (b := _) rfl (fun h_t32 => ?_) (fun h_t32 => ?_)
       ·replace h_t32 : bitsN i ((crcFold (crcFold 4294967295 (catP ps k)) ((ps.getD k []).take j)) ^^^ ((ps.getD k []).getD j 0).toUInt32) &&& 1 = 1 := by simpa using h_t32
        refine region_k g0_ok fun _ hK36 => ?_
        refine sS1 ?_
        refine sS fun _ hS => ?_; (repeat refine aI qSa0 ?_); apply hS; clear hS
        refine sS1 ?_
        refine s_nil ?_; apply hK36; refine done_block ?_; apply hK29; refine region_k g0_ok fun _ hK37 => ?_
        refine sS fun _ hS => ?_; (repeat refine aI qSa0 ?_); apply hS; clear hS
        refine sS1 ?_
        refine s_nil ?_; apply hK37
        refine dnS [] id (i + 1) ⟨by omega, by omega⟩ [] ?_ ?_ ?_ ?_
        ·exact uSa3
        ·exact uSa0
        ·exact uSa0
        ·exact uSa0
       ·replace h_t32 : ¬ bitsN i ((crcFold (crcFold 4294967295 (catP ps k)) ((ps.getD k []).take j)) ^^^ ((ps.getD k []).getD j 0).toUInt32) &&& 1 = 1 := by simpa using h_t32
        refine WP_skip ?_; refine done_block ?_; apply hK29; refine region_k g0_ok fun _ hK38 => ?_
        refine sS fun _ hS => ?_; (repeat refine aI qSa0 ?_); apply hS; clear hS
        refine sS1 ?_
        refine s_nil ?_; apply hK38
        refine dnS [] id (i + 1) ⟨by omega, by omega⟩ [] ?_ ?_ ?_ ?_
        ·exact uSa3
        ·exact uSa0
        ·exact uSa0
        ·exact uSa0
      ·try simp only [dQ] at h_t26
       refine WP_exit ?_; refine done_thenx ?_; refine done_thenx ?_
       refine Done_hit ?_
       refine done_block ?_; apply hK19; refine region_k g0_ok fun _ hK39 => ?_
       refine sS fun _ hS => ?_; (repeat refine aI qSa0 ?_); apply hS; clear hS
       refine sS1 ?_
       refine s_nil ?_; apply hK39
       refine dnS [] id (j + 1) ⟨by omega, by omega⟩ [] ?_ ?_ ?_ ?_
       ·exact uSa4
       ·exact uSa0
       ·exact uSa0
       ·exact uSa0
    ·try simp only [dQ] at h_t18
     refine WP_exit ?_; refine done_thenx ?_; refine done_thenx ?_
     refine Done_hit ?_
     refine done_block ?_; apply hK11; refine region_k g0_ok fun _ hK40 => ?_
     refine sS fun _ hS => ?_; (repeat refine aI qSa0 ?_); apply hS; clear hS
     refine sS1 ?_
     refine s_nil ?_; apply hK40
     refine dnS [] id (k + 1) ⟨by omega, by omega⟩ [] ?_ ?_ ?_ ?_
     ·repeat' (first | exact trivial | refine aI ?_ ?_ | exact cC0 | refine low_cons' ?_ ?_ | exact cC1 | fail)
      all_goals first | omega | (show (_ : UInt32) = _; rw [show j = (ps.getD k []).length by omega]; exact crc_part _ ps hkl) | (simp; done) | (simp <;> omega) | skip
     ·exact uSa0
     ·exact uSa0
     ·exact uSa0
  ·try simp only [dQ] at h_t12
   refine WP_exit ?_; refine done_thenx ?_; refine done_thenx ?_
   refine Done_hit ?_
   apply hK5; refine seq_k fun _ hK41 => ?_; refine region_k g0_ok fun _ hK42 => ?_
   refine sS1 ?_
   refine sS fun _ hS => ?_; (repeat refine aI qSa0 ?_); apply hS; clear hS
   refine sS1 ?_
   refine s_nil ?_; apply hK42; apply hK41
   refine WP_ret (Done_flat g0_ok (fun _ _ h => h) (by first | rfl | assumption) [.tmp 2] rfl ?_)
   repeat refine aI (by first | omega | exact trivial | rfl | (simp <;> omega)) ?_
   try refine ite_yes (by first | omega | exact trivial | rfl | (simp <;> omega)) ?_
   show SV.c (.u32 (~~~ _)) = _
   rw [show k = ps.length by omega, catP_full]
   rfl

def checksumRS : QSpec := fun vs K => ∃ l : List UInt8, vs = [bytesV l] ∧ l.length ≤ 9223372036854775807 ∧ K (.c (.u32 (crcL l)))
set_option maxHeartbeats 1000000 in
theorem checksumR_ok : FlatOK Tryd.prog gl 51 checksumRS := by
 refine flat_of (Γ := g0) (N := 34) Tryd.func51 rfl rfl fun vs K h => ?_
 obtain ⟨l, rfl, hl, h⟩ := h
 refine ⟨_, h, rfl, by simp, fun w I => ?_⟩
 refine seq_k fun _ hK1 => ?_; refine region_k g0_ok fun _ hK2 => ?_
 refine sS1 ?_
 refine s_nil ?_; apply hK2; apply hK1; refine seq_k fun _ hK3 => ?_; refine region_k g0_ok fun _ hK4 => ?_
 refine sS1 ?_
 refine s_nil ?_; apply hK4; apply hK3; refine seq_k fun _ hK5 => ?_; refine seq_k fun _ hK6 => ?_; refine region_k g0_ok fun _ hK7 => ?_
 refine sS1 ?_
 refine s_nil ?_; apply hK7; apply hK6; refine WP_block ?_
 refine WP_loop (α := Nat) (fun j => [(3, .c (.u32 (crcFold 4294967295 (l.take j)))), (0, .c (.ds l.length (.u8s l))), (4, .c (.int .i64 j))]) (fun j => []) 0 (fun j => j ≤ l.length) (fun j => l.length - j) ?_ ?_
 ·refine dnS [] id 0 (Nat.zero_le _) [] ?_ ?_ ?_ ?_
  ·exact uSa1
  ·exact uSa0
  ·exact uSa0
  ·exact uSa0
 ·intro j hj
  refine seq_k fun _ hK8 => ?_; refine seq_k fun _ hK9 => ?_; refine region_k g0_ok fun _ hK10 => ?_
  iterate 2 refine sS1 ?_
  refine sS fun _ hS => ?_; (repeat refine aI qSa0 ?_); apply hS; clear hS
  refine sS fun _ hS => ?_; (repeat refine aI qSa0 ?_); apply hS; clear hS; refine s_nil ?_; apply hK10; apply hK9
  refine WP_cond (b := _) rfl (fun h_t10 => ?_) (fun h_t10 => ?_)
  ·try simp only [dQ] at h_t10
   refine WP_skip ?_; apply hK8; refine seq_k fun _ hK11 => ?_; refine WP_block ?_; refine seq_k fun _ hK12 => ?_
   have hjl : j < l.length := by omega
   refine region_k g0_ok fun _ hK13 => ?_
   iterate 3 refine sS1 ?_
   refine sS fun _ hS => ?_; (repeat refine aI qSa0 ?_); apply hS; clear hS
   refine sS fun _ hS => ?_; (repeat refine aI qSa0 ?_); (first | apply hS | (refine whole_yes qSa0 ?_; apply hS) | (refine whole_sub ?_; apply hS)); clear hS
   refine sS fun _ hS => ?_; (repeat first | refine aI qSa0 ?_ | refine whole_yes qSa0 ?_ | refine whole_sub ?_); apply hS; clear hS
   refine sS fun _ hS => ?_; (repeat refine aI qSa0 ?_); apply hS; clear hS
   refine sS1 ?_
   refine s_nil ?_; apply hK13; apply hK12; refine seq_k fun _ hK14 => ?_; refine region_k g0_ok fun _ hK15 => ?_
   refine sS1 ?_
   refine s_nil ?_; apply hK15; apply hK14; refine WP_block ?_
   refine WP_loop (α := Nat) (fun i => [(3, .c (.u32 (bitsN i ((crcFold 4294967295 (l.take j)) ^^^ (l.getD j 0).toUInt32)))), (0, .c (.ds l.length (.u8s l))), (4, .c (.int .i64 j)), (5, .c (.int .i64 i))]) (fun i => []) 0 (fun i => i ≤ 8) (fun i => 8 - i) ?_ ?_
   ·refine dnS [] id 0 (Nat.zero_le _) [] ?_ ?_ ?_ ?_
    ·exact uSa2
    ·exact uSa0
    ·exact uSa0
    ·exact uSa0
   ·intro i hi
    refine seq_k fun _ hK16 => ?_; refine seq_k fun _ hK17 => ?_; refine region_k g0_ok fun _ hK18 => ?_
    refine sS1 ?_
    refine sS fun _ hS => ?_; (repeat refine aI qSa0 ?_); apply hS; clear hS; refine s_nil ?_; apply hK18; apply hK17
    refine WP_cond (b := _) rfl (fun h_t21 => ?_) (fun h_t21 => ?_)
    ·try simp only [dQ] at h_t21
     refine WP_skip ?_; apply hK16; refine seq_k fun _ hK19 => ?_; refine WP_block ?_; refine seq_k fun _ hK20 => ?_; refine region_k g0_ok fun _ hK21 => ?_
     refine sS1 ?_
     refine sS fun _ hS => ?_; (repeat refine aI qSa0 ?_); apply hS; clear hS
     refine sS fun _ hS => ?_; (repeat refine aI qSa0 ?_); apply hS; clear hS
     refine sS1 ?_
     refine s_nil ?_; apply hK21; apply hK20; refine seq_k fun _ hK22 => ?_; refine region_k g0_ok fun _ hK23 => ?_
     refine sS1 ?_
     refine sS fun _ hS => ?_; (repeat refine aI qSa0 ?_); apply hS; clear hS
     refine sS1 ?_
     refine s_nil ?_; apply hK23; apply hK22; refine seq_k fun _ hK24 => ?_; refine region_k g0_ok fun _ hK25 => ?_
     refine sS1 ?_
     refine s_nil ?_; apply hK25; apply hK24
     refine WP_cond (b := _) rfl (fun h_t29 => ?_) (fun h_t29 => ?_)
     ·replace h_t29 : bitsN i ((crcFold 4294967295 (l.take j)) ^^^ (l.getD j 0).toUInt32) % 2 = 1 := by simpa using h_t29
      refine region_k g0_ok fun _ hK26 => ?_
      refine sS1 ?_
      refine sS fun _ hS => ?_; (repeat refine aI qSa0 ?_); apply hS; clear hS
      refine sS1 ?_
      refine s_nil ?_; apply hK26; refine done_block ?_; apply hK19; refine region_k g0_ok fun _ hK27 => ?_
      refine sS1 ?_
      refine sS fun _ hS => ?_; (repeat refine aI qSa0 ?_); apply hS; clear hS
      refine sS1 ?_
      refine s_nil ?_; apply hK27
      refine dnS [] id (i + 1) ⟨by omega, by omega⟩ [] ?_ ?_ ?_ ?_
      ·exact uSa5
      ·exact uSa0
      ·exact uSa0
      ·exact uSa0
     ·replace h_t29 : ¬ bitsN i ((crcFold 4294967295 (l.take j)) ^^^ (l.getD j 0).toUInt32) % 2 = 1 := by simpa using h_t29
      refine WP_skip ?_; refine done_block ?_; apply hK19; refine region_k g0_ok fun _ hK28 => ?_
      refine sS1 ?_
      refine sS fun _ hS => ?_; (repeat refine aI qSa0 ?_); apply hS; clear hS
      refine sS1 ?_
      refine s_nil ?_; apply hK28
      refine dnS [] id (i + 1) ⟨by omega, by omega⟩ [] ?_ ?_ ?_ ?_
      ·exact uSa5
      ·exact uSa0
      ·exact uSa0
      ·exact uSa0
    ·try simp only [dQ] at h_t21
     refine WP_exit ?_; refine done_thenx ?_; refine done_thenx ?_
     refine Done_hit ?_
     refine done_block ?_; apply hK11; refine region_k g0_ok fun _ hK29 => ?_
     refine sS1 ?_
     refine sS fun _ hS => ?_; (repeat refine aI qSa0 ?_); apply hS; clear hS
     refine sS1 ?_
     refine s_nil ?_; apply hK29
     refine dnS [] id (j + 1) ⟨by omega, by omega⟩ [] ?_ ?_ ?_ ?_
     ·exact uSa4
     ·exact uSa0
     ·exact uSa0
     ·exact uSa0
  ·try simp only [dQ] at h_t10
   refine WP_exit ?_; refine done_thenx ?_; refine done_thenx ?_
   refine Done_hit ?_
   apply hK5; refine seq_k fun _ hK30 => ?_; refine region_k g0_ok fun _ hK31 => ?_
   refine sS1 ?_
   refine sS fun _ hS => ?_; (repeat refine aI qSa0 ?_); apply hS; clear hS
   refine sS1 ?_
   refine s_nil ?_; apply hK31; apply hK30
   refine WP_ret (Done_flat g0_ok (fun _ _ h => h) (by first | rfl | assumption) [.tmp 2] rfl ?_)
   repeat refine aI (by first | omega | exact trivial | rfl | (simp <;> omega)) ?_
   try refine ite_yes (by first | omega | exact trivial | rfl | (simp <;> omega)) ?_
   show SV.c (.u32 (4294967295 - _)) = _
   rw [show j = l.length by omega, List.take_length, compl_sub]
   rfl

def numberS : OSpec := fun vs K => ∃ x : UInt32, vs = [.c (.u32 x)] ∧ K 5 1 4 (.u8s (num4 x.toNat))
theorem number_ok : OwnOK Tryd.prog gl 36 numberS := by
 refine own_of (Γ := g0) (N := 15) Tryd.func36 rfl rfl fun vs K h => ?_
 obtain ⟨x, rfl, h⟩ := h
 refine ⟨_, _, _, _, h, trivial, by simp, fun w I => ?_⟩
 refine seq_k fun _ hK1 => ?_; refine region_k g0_ok fun _ hK2 => ?_
 refine sS1 ?_
 refine s_nil ?_; apply hK2; apply hK1; refine seq_k fun _ hK3 => ?_; refine region_k g0_ok fun _ hK4 => ?_
 refine sS1 ?_
 refine sS fun _ hS => ?_; (repeat refine aI qSa0 ?_); apply hS; clear hS
 refine sS fun _ hS => ?_; (repeat first | refine aI qSa0 ?_ | refine whole_yes qSa0 ?_ | refine whole_sub ?_); apply hS; clear hS
 refine sS1 ?_
 refine sS fun _ hS => ?_; (repeat refine aI qSa0 ?_); apply hS; clear hS
 refine sS fun _ hS => ?_; (repeat first | refine aI qSa0 ?_ | refine whole_yes qSa0 ?_ | refine whole_sub ?_); apply hS; clear hS
 refine sS1 ?_
 refine sS fun _ hS => ?_; (repeat refine aI qSa0 ?_); apply hS; clear hS
 refine sS fun _ hS => ?_; (repeat first | refine aI qSa0 ?_ | refine whole_yes qSa0 ?_ | refine whole_sub ?_); apply hS; clear hS
 refine sS1 ?_
 refine sS fun _ hS => ?_; (repeat first | refine aI qSa0 ?_ | refine whole_yes qSa0 ?_ | refine whole_sub ?_); apply hS; clear hS
 refine sS fun _ hS => ?_; (repeat refine aI qSa0 ?_); apply hS; clear hS
 refine sS1 ?_
 refine s_nil ?_; apply hK4; apply hK3
 refine WP_ret (Done_own g0_ok (fun _ _ h => h) (by decide) [.tmp 2] rfl ?_)
 repeat' (first | exact trivial | refine aI ?_ ?_ | exact cC0 | refine low_cons' ?_ ?_ | exact cC1 | fail)
 all_goals first | (show (_ : Cont) = _; exact congrArg Cont.u8s (number_eq x)) | (simp; done) | skip

def numberRS : OSpec := fun vs K => ∃ x : UInt32, vs = [.c (.u32 x)] ∧ K 5 1 4 (.u8s (num4 x.toNat))
theorem numberR_ok : OwnOK Tryd.prog gl 50 numberRS := by
 refine own_of (Γ := g0) (N := 15) Tryd.func50 rfl rfl fun vs K h => ?_
 obtain ⟨x, rfl, h⟩ := h
 refine ⟨_, _, _, _, h, trivial, by simp, fun w I => ?_⟩
 refine seq_k fun _ hK1 => ?_; refine region_k g0_ok fun _ hK2 => ?_
 refine sS1 ?_
 refine s_nil ?_; apply hK2; apply hK1; refine seq_k fun _ hK3 => ?_; refine region_k g0_ok fun _ hK4 => ?_
 refine sS1 ?_
 refine sS fun _ hS => ?_; (repeat refine aI qSa0 ?_); apply hS; clear hS
 refine sS fun _ hS => ?_; (repeat first | refine aI qSa0 ?_ | refine whole_yes qSa0 ?_ | refine whole_sub ?_); apply hS; clear hS
 refine sS1 ?_
 refine sS fun _ hS => ?_; (repeat refine aI qSa0 ?_); apply hS; clear hS
 refine sS fun _ hS => ?_; (repeat first | refine aI qSa0 ?_ | refine whole_yes qSa0 ?_ | refine whole_sub ?_); apply hS; clear hS
 refine sS1 ?_
 refine sS fun _ hS => ?_; (repeat refine aI qSa0 ?_); apply hS; clear hS
 refine sS fun _ hS => ?_; (repeat first | refine aI qSa0 ?_ | refine whole_yes qSa0 ?_ | refine whole_sub ?_); apply hS; clear hS
 refine sS1 ?_
 refine sS fun _ hS => ?_; (repeat first | refine aI qSa0 ?_ | refine whole_yes qSa0 ?_ | refine whole_sub ?_); apply hS; clear hS
 refine sS fun _ hS => ?_; (repeat refine aI qSa0 ?_); apply hS; clear hS
 refine sS1 ?_
 refine s_nil ?_; apply hK4; apply hK3
 refine WP_ret (Done_own g0_ok (fun _ _ h => h) (by decide) [.tmp 2] rfl ?_)
 repeat' (first | exact trivial | refine aI ?_ ?_ | exact cC0 | refine low_cons' ?_ ?_ | exact cC1 | fail)
 all_goals first | (show (_ : Cont) = _; exact congrArg Cont.u8s (number_eq x)) | (simp; done) | skip

def validS : QSpec := fun vs K => ∃ d : Disk, vs = [diskV d] ∧ (d.1.length ≤ 9223372036854775807 ∧ -9223372036854775808 ≤ d.2 ∧ d.2 ≤ 9223372036854775807) ∧ K (.c (.bool (dvalid d)))
theorem valid_ok : FlatOK Tryd.prog gl 34 validS := by
 refine flat_of (Γ := g0) (N := 14) Tryd.func34 rfl rfl fun vs K h => ?_
 obtain ⟨d, rfl, ⟨hl, h1, h2⟩, h⟩ := h
 refine ⟨_, h, rfl, by simp, fun w I => ?_⟩
 refine seq_k fun _ hK1 => ?_; refine region_k g0_ok fun _ hK2 => ?_
 refine sS fun _ hS => ?_; (repeat refine aI qSa0 ?_); apply hS; clear hS
 refine sS1 ?_
 refine s_nil ?_; apply hK2; apply hK1; refine seq_k fun _ hK3 => ?_; refine region_k g0_ok fun _ hK4 => ?_
 refine sS fun _ hS => ?_; (repeat refine aI qSa0 ?_); apply hS; clear hS
 refine sS fun _ hS => ?_; (repeat refine aI qSa0 ?_); (first | apply hS | (refine whole_yes qSa0 ?_; apply hS) | (refine whole_sub ?_; apply hS)); clear hS
 refine sS fun _ hS => ?_; (repeat refine aI qSa0 ?_); apply hS; clear hS
 refine sS fun _ hS => ?_
 refine s_split hS (fun hb3 => ?_) (fun hb3 => ?_)
 ·clear hS
  try simp only [dQ] at hb3
  refine sT fun _ hS => ?_; (repeat refine aI qSa0 ?_); apply hS; clear hS
  refine sT fun _ hS => ?_; (repeat refine aI qSa0 ?_); (first | apply hS | (refine whole_yes qSa0 ?_; apply hS) | (refine whole_sub ?_; apply hS)); clear hS
  refine sT fun _ hS => ?_; (repeat refine aI qSa0 ?_); apply hS; clear hS
  refine sT fun _ hS => ?_; (repeat refine aI qSa0 ?_); (first | apply hS | (refine whole_yes qSa0 ?_; apply hS) | (refine whole_sub ?_; apply hS)); clear hS
  refine sT fun _ hS => ?_; (repeat refine aI qSa0 ?_); apply hS; clear hS
  refine sT fun _ hS => ?_; (repeat refine aI qSa0 ?_); apply hS; clear hS
  iterate 2 refine sS1 ?_
  refine s_nil ?_; apply hK4; apply hK3
  refine WP_ret (Done_flat g0_ok (fun _ _ h => h) (by first | rfl | assumption) [.tmp 2] rfl ?_)
  repeat refine aI (by first | omega | exact trivial | rfl | (simp <;> omega)) ?_
  try refine ite_yes (by first | omega | exact trivial | rfl | (simp <;> omega)) ?_
  rw [dvalid]
  show SV.c (.bool _) = SV.c (.bool _)
  congr 2
  try simp only [if_true]
  first | (rw [decide_eq_decide]; omega) | (symm; rw [decide_eq_false_iff_not]; omega) | (symm; rw [decide_eq_true_eq]; omega)
 ·clear hS
  try simp only [dQ] at hb3
  refine sN ?_; refine sN ?_; refine sN ?_; refine sN ?_; refine sN ?_; refine sN ?_
  iterate 2 refine sS1 ?_
  refine s_nil ?_; apply hK4; apply hK3
  refine WP_ret (Done_flat g0_ok (fun _ _ h => h) (by first | rfl | assumption) [.tmp 2] rfl ?_)
  repeat refine aI (by first | omega | exact trivial | rfl | (simp <;> omega)) ?_
  try refine ite_yes (by first | omega | exact trivial | rfl | (simp <;> omega)) ?_
  rw [dvalid]
  show SV.c (.bool _) = SV.c (.bool _)
  congr 2
  try simp only [if_true, if_false, Bool.false_eq_true]
  first | (rw [decide_eq_decide]; omega) | (symm; rw [decide_eq_false_iff_not]; omega) | (symm; rw [decide_eq_true_eq]; omega)

def validRS : QSpec := fun vs K => ∃ d : Disk, vs = [diskV d] ∧ (d.1.length ≤ 9223372036854775807 ∧ -9223372036854775808 ≤ d.2 ∧ d.2 ≤ 9223372036854775807) ∧ K (.c (.bool (dvalid d)))
theorem validR_ok : FlatOK Tryd.prog gl 39 validRS := by
 refine flat_of (Γ := g0) (N := 14) Tryd.func39 rfl rfl fun vs K h => ?_
 obtain ⟨d, rfl, ⟨hl, h1, h2⟩, h⟩ := h
 refine ⟨_, h, rfl, by simp, fun w I => ?_⟩
 refine seq_k fun _ hK1 => ?_; refine region_k g0_ok fun _ hK2 => ?_
 refine sS fun _ hS => ?_; (repeat refine aI qSa0 ?_); apply hS; clear hS
 refine sS1 ?_
 refine s_nil ?_; apply hK2; apply hK1; refine seq_k fun _ hK3 => ?_; refine region_k g0_ok fun _ hK4 => ?_
 refine sS fun _ hS => ?_; (repeat refine aI qSa0 ?_); apply hS; clear hS
 refine sS fun _ hS => ?_; (repeat refine aI qSa0 ?_); (first | apply hS | (refine whole_yes qSa0 ?_; apply hS) | (refine whole_sub ?_; apply hS)); clear hS
 refine sS fun _ hS => ?_; (repeat refine aI qSa0 ?_); apply hS; clear hS
 refine sS fun _ hS => ?_
 refine s_split hS (fun hb3 => ?_) (fun hb3 => ?_)
 ·clear hS
  try simp only [dQ] at hb3
  refine sT fun _ hS => ?_; (repeat refine aI qSa0 ?_); apply hS; clear hS
  refine sT fun _ hS => ?_; (repeat refine aI qSa0 ?_); (first | apply hS | (refine whole_yes qSa0 ?_; apply hS) | (refine whole_sub ?_; apply hS)); clear hS
  refine sT fun _ hS => ?_; (repeat refine aI qSa0 ?_); apply hS; clear hS
  refine sT fun _ hS => ?_; (repeat refine aI qSa0 ?_); (first | apply hS | (refine whole_yes qSa0 ?_; apply hS) | (refine whole_sub ?_; apply hS)); clear hS
  refine sT fun _ hS => ?_; (repeat refine aI qSa0 ?_); apply hS; clear hS
  refine sT fun _ hS => ?_; (repeat refine aI qSa0 ?_); apply hS; clear hS
  iterate 2 refine sS1 ?_
  refine s_nil ?_; apply hK4; apply hK3
  refine WP_ret (Done_flat g0_ok (fun _ _ h => h) (by first | rfl | assumption) [.tmp 2] rfl ?_)
  repeat refine aI (by first | omega | exact trivial | rfl | (simp <;> omega)) ?_
  try refine ite_yes (by first | omega | exact trivial | rfl | (simp <;> omega)) ?_
  rw [dvalid]
  show SV.c (.bool _) = SV.c (.bool _)
  congr 2
  try simp only [if_true]
  first | (rw [decide_eq_decide]; omega) | (symm; rw [decide_eq_false_iff_not]; omega) | (symm; rw [decide_eq_true_eq]; omega)
 ·clear hS
  try simp only [dQ] at hb3
  refine sN ?_; refine sN ?_; refine sN ?_; refine sN ?_; refine sN ?_; refine sN ?_
  iterate 2 refine sS1 ?_
  refine s_nil ?_; apply hK4; apply hK3
  refine WP_ret (Done_flat g0_ok (fun _ _ h => h) (by first | rfl | assumption) [.tmp 2] rfl ?_)
  repeat refine aI (by first | omega | exact trivial | rfl | (simp <;> omega)) ?_
  try refine ite_yes (by first | omega | exact trivial | rfl | (simp <;> omega)) ?_
  rw [dvalid]
  show SV.c (.bool _) = SV.c (.bool _)
  congr 2
  try simp only [if_true, if_false, Bool.false_eq_true]
  first | (rw [decide_eq_decide]; omega) | (symm; rw [decide_eq_false_iff_not]; omega) | (symm; rw [decide_eq_true_eq]; omega)


end Go.Proofs.YtnhmglhbhnhnhaaDoor

namespace Go.Proofs.YtnhmglhbhnhnhaaDoor
set_option linter.unusedVariables false
open Go.Ab Go.RowKit

theorem qSb0 {a : Prop} (h : a := by first | exact vcA | (simp <;> omega) | exact vcB) : a := h
theorem qSb1 {a : Prop} (h : a := by first | exact vcA | (simp <;> omega) | (refine ⟨by omega, by omega, by omega⟩) | exact vcB) : a := h
theorem qSb2 {a : Prop} (h : a := by first | exact vcA | (simp <;> omega) | (simp only [Int.toNat_natCast, Nat.mul_one]; exact inR_i64.mpr ⟨by omega, by omega⟩) | exact vcB) : a := h
theorem qSb3 {a : Prop} (h : a := by first | exact vcA | (simp <;> omega) | (simp only [Int.toNat_natCast, Nat.mul_one]; exact ⟨by omega, by omega, trivial⟩) | exact vcB) : a := h
theorem uSb0 {a : Prop} (h : a := by
    repeat' (first | exact trivial | refine aI ?_ ?_ | exact cC0 | refine low_cons' ?_ ?_ | exact cC1 | fail)) : a := h
theorem uSb1 {a : Prop} (h : a := by
    repeat' (first | exact trivial | refine aI ?_ ?_ | exact cC0 | refine low_cons' ?_ ?_ | exact cC1 | fail)
    all_goals first | omega | (simp only [Int.toNat_natCast, Nat.mul_one]; rw [catP_step ps k hkl, List.length_append]; push_cast; rfl) | (rw [catP_step ps k hkl, List.length_append]; push_cast; rfl) | (simp [catP]; done) | (simp <;> omega) | skip) : a := h
theorem uSb2 {a : Prop} (h : a := by
    repeat' (first | exact trivial | refine aI ?_ ?_ | exact cC0 | refine low_cons' ?_ ?_ | exact cC1 | fail)
    all_goals first | omega | (simp only [Int.toNat_natCast, Nat.mul_one]; rw [catP_step ps k.1 hkl, List.length_append]; done) | (show (_ : List UInt8) = _; simp only [Int.toNat_natCast, Nat.mul_one]; first | exact (catP_step ps k.1 hkl).symm | exact catP_step ps k.1 hkl) | (show (_ : List UInt8) = _; first | rfl | (rw [catP_step ps k.1 hkl]; done) | (simp [catP]; done)) | (simp [catP]; done) | (simp <;> omega) | skip) : a := h

open Go.Sto
theorem take_eq_step {α : Type} [Inhabited α] {a b : List α} {k : Nat} {d : α} (h : a.take k = b.take k) (h1 : k < a.length) (h2 : k < b.length) (e : a.getD k d = b.getD k d) : a.take (k + 1) = b.take (k + 1) := by
  rw [List.getD_eq_getElem?_getD, List.getD_eq_getElem?_getD, List.getElem?_eq_getElem h1, List.getElem?_eq_getElem h2, Option.getD_some, Option.getD_some] at e
  rw [List.take_add_one, List.take_add_one, h, List.getElem?_eq_getElem h1, List.getElem?_eq_getElem h2, e]
theorem take_eq_all {α : Type} {a b : List α} {k : Nat} (h : a.take k = b.take k) (h1 : a.length ≤ k) (h2 : b.length ≤ k) : a = b := by
  rwa [List.take_of_length_le h1, List.take_of_length_le h2] at h
theorem catP_le (ps : List (List UInt8)) (k : Nat) : (catP ps k).length ≤ ps.flatten.length := by
  have : ps.flatten = catP ps k ++ (ps.drop k).flatten := by rw [catP, ← List.flatten_append, List.take_append_drop]
  rw [this, List.length_append]; omega
def equalS : QSpec := fun vs K => ∃ a b : List UInt8, vs = [bytesV a, bytesV b] ∧ (a.length ≤ 9223372036854775807 ∧ b.length ≤ 9223372036854775807) ∧ K (.c (.bool (decide (a = b))))
theorem equal_ok : FlatOK Tryd.prog gl 57 equalS := by
 refine flat_of (Γ := g0) (N := 26) Tryd.func57 rfl rfl fun vs K h => ?_
 obtain ⟨a, b, rfl, ⟨hb1, hb2⟩, h⟩ := h
 refine ⟨_, h, rfl, by simp, fun w I => ?_⟩
 refine seq_k fun _ hK1 => ?_; refine region_k g0_ok fun _ hK2 => ?_
 refine sS1 ?_
 refine s_nil ?_; apply hK2; apply hK1; refine seq_k fun _ hK3 => ?_; refine seq_k fun _ hK4 => ?_; refine region_k g0_ok fun _ hK5 => ?_
 refine sS1 ?_
 refine sS fun _ hS => ?_; (repeat refine aI qSb0 ?_); apply hS; clear hS
 refine sS1 ?_
 refine sS fun _ hS => ?_; (repeat refine aI qSb0 ?_); apply hS; clear hS
 refine sS fun _ hS => ?_; (repeat refine aI qSb0 ?_); apply hS; clear hS; refine s_nil ?_; apply hK5; apply hK4
 refine WP_cond (b := _) rfl (fun h_t10 => ?_) (fun h_t10 => ?_)
 ·try simp only [dQ] at h_t10
  refine seq_k fun _ hK6 => ?_; refine region_k g0_ok fun _ hK7 => ?_
  refine sS1 ?_
  refine s_nil ?_; apply hK7; apply hK6
  refine WP_ret (Done_flat g0_ok (fun _ _ h => h) (by first | rfl | assumption) [.tmp 4] rfl ?_)
  repeat refine aI (by first | omega | exact trivial | rfl | (simp <;> omega)) ?_
  try refine ite_yes (by first | omega | exact trivial | rfl | (simp <;> omega)) ?_
  show SV.c (.bool false) = _
  rw [decide_eq_false (fun e => h_t10 (by rw [e]))]
 ·try simp only [dQ] at h_t10
  refine WP_skip ?_; apply hK3; refine seq_k fun _ hK8 => ?_; refine seq_k fun _ hK9 => ?_; refine region_k g0_ok fun _ hK10 => ?_
  refine sS1 ?_
  refine sS fun _ hS => ?_; (repeat refine aI qSb0 ?_); apply hS; clear hS
  refine sS1 ?_
  refine s_nil ?_; apply hK10; apply hK9; refine WP_block ?_
  have hl : a.length = b.length := by omega
  refine WP_loop (α := Nat) (fun k => [(0, .c (.ds a.length (.u8s a))), (1, .c (.ds b.length (.u8s b))), (13, .c (.int .i64 k)), (12, .c (.int .i64 a.length))]) (fun k => []) 0 (fun k => k ≤ a.length ∧ a.take k = b.take k) (fun k => a.length - k) ?_ ?_
  ·refine dnS [] id 0 ⟨Nat.zero_le _, rfl⟩ [] ?_ ?_ ?_ ?_
   ·exact uSb0
   ·exact uSb0
   ·exact uSb0
   ·exact uSb0
  ·intro k hk
   refine seq_k fun _ hK11 => ?_; refine region_k g0_ok fun _ hK12 => ?_
   refine sS fun _ hS => ?_; (repeat refine aI qSb0 ?_); apply hS; clear hS; refine s_nil ?_; apply hK12; apply hK11; refine seq_k fun _ hK13 => ?_
   refine WP_cond (b := _) rfl (fun h_t14 => ?_) (fun h_t14 => ?_)
   ·try simp only [dQ] at h_t14
    refine WP_skip ?_; apply hK13; refine seq_k fun _ hK14 => ?_; refine WP_block ?_; refine seq_k fun _ hK15 => ?_; refine region_k g0_ok fun _ hK16 => ?_
    iterate 2 refine sS1 ?_
    refine s_nil ?_; apply hK16; apply hK15; refine seq_k fun _ hK17 => ?_
    have hka : k < a.length := by omega
    have hkb : k < b.length := by omega
    refine quiet_k g0_ok (by kernel_rfl) fun _ hK18 => ?_
    iterate 2 refine qQ1 ?_
    refine qS fun _ hS => ?_; (repeat refine aI qSb0 ?_); apply hS; clear hS
    refine qS fun _ hS => ?_; (repeat refine aI qSb0 ?_); (first | apply hS | (refine whole_yes qSb0 ?_; apply hS) | (refine whole_sub ?_; apply hS)); clear hS
    iterate 2 refine qQ1 ?_
    refine qS fun _ hS => ?_; (repeat refine aI qSb0 ?_); apply hS; clear hS
    refine qS fun _ hS => ?_; (repeat refine aI qSb0 ?_); (first | apply hS | (refine whole_yes qSb0 ?_; apply hS) | (refine whole_sub ?_; apply hS)); clear hS
    refine qS fun _ hS => ?_; (repeat refine aI qSb0 ?_); apply hS; clear hS; refine q_nil ?_; apply hK18; apply hK17
    refine WP_cond (b := _) rfl (fun h_t24 => ?_) (fun h_t24 => ?_)
    ·simp only [Int.toNat_natCast, Nat.mul_one, Bool.not_eq_true', decide_eq_false_iff_not] at h_t24
     refine seq_k fun _ hK19 => ?_; refine region_k g0_ok fun _ hK20 => ?_
     refine sS1 ?_
     refine s_nil ?_; apply hK20; apply hK19
     refine WP_ret (Done_flat g0_ok (fun _ _ h => h) (by first | rfl | assumption) [.tmp 4] rfl ?_)
     repeat refine aI (by first | omega | exact trivial | rfl | (simp <;> omega)) ?_
     try refine ite_yes (by first | omega | exact trivial | rfl | (simp <;> omega)) ?_
     show SV.c (.bool false) = _
     rw [decide_eq_false (fun e => h_t24 (by rw [e]))]
    ·simp only [Int.toNat_natCast, Nat.mul_one, Bool.not_eq_false', decide_eq_true_eq] at h_t24
     refine WP_skip ?_; refine done_block ?_; apply hK14; refine region_k g0_ok fun _ hK21 => ?_
     refine sS fun _ hS => ?_; (repeat refine aI qSb0 ?_); apply hS; clear hS
     refine sS1 ?_
     refine s_nil ?_; apply hK21
     refine dnS [] id (k + 1) ⟨⟨by omega, take_eq_step (d := 0) hk.2 hka hkb h_t24⟩, by omega⟩ [] ?_ ?_ ?_ ?_
     ·exact uSb0
     ·exact uSb0
     ·exact uSb0
     ·exact uSb0
   ·try simp only [dQ] at h_t14
    refine WP_exit ?_; refine done_thenx ?_; refine done_thenx ?_
    refine Done_hit ?_
    apply hK8; refine seq_k fun _ hK22 => ?_; refine region_k g0_ok fun _ hK23 => ?_
    refine sS1 ?_
    refine s_nil ?_; apply hK23; apply hK22
    refine WP_ret (Done_flat g0_ok (fun _ _ h => h) (by first | rfl | assumption) [.tmp 4] rfl ?_)
    repeat refine aI (by first | omega | exact trivial | rfl | (simp <;> omega)) ?_
    try refine ite_yes (by first | omega | exact trivial | rfl | (simp <;> omega)) ?_
    obtain rfl : k = a.length := by omega
    show SV.c (.bool true) = _
    rw [decide_eq_true (take_eq_all hk.2 (Nat.le_refl _) (by omega))]

def cloneS : OSpec := fun vs K => ∃ a : List UInt8, vs = [bytesV a] ∧ a.length ≤ 1048576 ∧ K 5 1 a.length (.u8s a)
theorem clone_ok : OwnOK Tryd.prog gl 43 cloneS := by
 refine own_of (Γ := g0) (N := 8) Tryd.func43 rfl rfl fun vs K h => ?_
 obtain ⟨a, rfl, hl, h⟩ := h
 refine ⟨_, _, _, _, h, trivial, by simp, fun w I => ?_⟩
 refine seq_k fun _ hK1 => ?_; refine region_k g0_ok fun _ hK2 => ?_
 refine sS1 ?_
 refine s_nil ?_; apply hK2; apply hK1; refine seq_k fun _ hK3 => ?_; refine seq_k fun _ hK4 => ?_; refine region_k g0_ok fun _ hK5 => ?_
 refine sS1 ?_
 refine sS fun _ hS => ?_; refine aI trivial ?_; (intro bb hbb); apply hS; clear hS; refine s_nil ?_; apply hK5; apply hK4
 refine WP_cond (b := _) rfl (fun h_t4 => ?_) (fun h_t4 => ?_)
 ·have h0 := hbb h_t4
  refine seq_k fun _ hK6 => ?_; refine region_k g0_ok fun _ hK7 => ?_
  refine sS1 ?_
  refine s_nil ?_; apply hK7; apply hK6
  refine WP_ret (Done_own g0_ok (fun _ _ h => h) (by decide) [.tmp 2] rfl ?_)
  repeat' (first | exact trivial | refine aI ?_ ?_ | exact cC0 | refine low_cons' ?_ ?_ | exact cC1 | fail)
  all_goals first | exact h0 | exact h0.symm | omega | (simp [h0]; done) | (simp; omega) | skip
 ·skip
  refine WP_skip ?_; apply hK3; refine seq_k fun _ hK8 => ?_; refine region_k g0_ok fun _ hK9 => ?_
  refine sS fun _ hS => ?_; (repeat refine aI qSb0 ?_); apply hS; clear hS
  refine sS1 ?_
  refine sS fun _ hS => ?_; (repeat first | refine aI qSb0 ?_ | refine whole_yes qSb0 ?_ | refine whole_sub ?_); (intro cap2 hcap2; apply hS); clear hS
  refine sS1 ?_
  refine s_nil ?_; apply hK9; apply hK8
  refine WP_ret (Done_own g0_ok (fun _ _ h => h) (by decide) [.tmp 2] rfl ?_)
  repeat' (first | exact trivial | refine aI ?_ ?_ | exact cC0 | refine low_cons' ?_ ?_ | exact cC1 | fail)
  all_goals first | omega | (simp; done) | (simp <;> omega) | skip

def growS : OSpec := fun vs K => ∃ m : Nat, vs = [.c .nils, .c (.int .i64 m)] ∧ m ≤ 1048576 ∧ K 5 1 0 (.u8s [])
theorem grow_ok : OwnOK Tryd.prog gl 49 growS := by
 refine own_of (Γ := g0) (N := 27) Tryd.func49 rfl rfl fun vs K h => ?_
 obtain ⟨m, rfl, hm, h⟩ := h
 refine ⟨_, _, _, _, h, trivial, by simp, fun w I => ?_⟩
 refine seq_k fun _ hK1 => ?_; refine region_k g0_ok fun _ hK2 => ?_
 refine sS1 ?_
 refine s_nil ?_; apply hK2; apply hK1; refine seq_k fun _ hK3 => ?_; refine seq_k fun _ hK4 => ?_; refine region_k g0_ok fun _ hK5 => ?_
 refine sS1 ?_
 refine sS fun _ hS => ?_; (repeat refine aI qSb0 ?_); apply hS; clear hS; refine s_nil ?_; apply hK5; apply hK4
 refine WP_cond (b := _) rfl (fun h_t6 => ?_) (fun _ => ?_)
 ·exfalso; first | (simp at h_t6; omega) | omega
 refine WP_skip ?_; apply hK3; refine seq_k fun _ hK6 => ?_; refine seq_k fun _ hK7 => ?_; refine region_k g0_ok fun _ hK8 => ?_
 iterate 2 refine sS1 ?_
 refine sS fun _ hS => ?_; (repeat refine aI qSb0 ?_); apply hS; clear hS
 refine sS1 ?_
 refine sS fun _ hS => ?_; (repeat refine aI qSb0 ?_); apply hS; clear hS
 refine sS fun _ hS => ?_; (repeat refine aI qSb0 ?_); apply hS; clear hS
 refine sS fun _ hS => ?_; (repeat refine aI qSb0 ?_); apply hS; clear hS
 refine sS1 ?_
 refine s_nil ?_; apply hK8; apply hK7; refine seq_k fun _ hK9 => ?_; refine region_k g0_ok fun _ hK10 => ?_
 refine sS1 ?_
 refine sS fun _ hS => ?_; (repeat refine aI qSb0 ?_); apply hS; clear hS; refine s_nil ?_; apply hK10; apply hK9
 refine WP_cond (b := _) rfl (fun h_t16 => ?_) (fun h_t16 => ?_)
 ·try simp only [dQ] at h_t16
  refine region_k g0_ok fun _ hK11 => ?_
  iterate 2 refine sS1 ?_
  refine sS fun _ hS => ?_; (repeat refine aI qSb1 ?_); apply hS; clear hS
  refine sS fun _ hS => ?_; (repeat refine aI qSb1 ?_); (first | apply hS | (refine ite_yes qSb1 ?_; (repeat refine aI qSb1 ?_); apply hS)); clear hS
  refine sS1 ?_
  refine sS fun _ hS => ?_; (repeat first | refine aI qSb1 ?_ | refine whole_yes qSb1 ?_ | refine whole_sub ?_); (intro cap5 hcap5; apply hS); clear hS
  refine sS1 ?_
  refine sS fun _ hS => ?_; (repeat refine aI qSb1 ?_); apply hS; clear hS
  refine sS fun _ hS => ?_; (repeat refine aI qSb1 ?_); (first | apply hS | (refine ite_yes qSb1 ?_; (repeat refine aI qSb1 ?_); apply hS)); clear hS
  refine sS1 ?_
  refine s_nil ?_; apply hK11; apply hK6; refine seq_k fun _ hK12 => ?_; refine region_k g0_ok fun _ hK13 => ?_
  iterate 2 refine sS1 ?_
  refine s_nil ?_; apply hK13; apply hK12
  refine WP_ret (Done_own g0_ok (fun _ _ h => h) (by decide) [.tmp 4] rfl ?_)
  repeat' (first | exact trivial | refine aI ?_ ?_ | exact cC0 | refine low_cons' ?_ ?_ | exact cC1 | fail)
  all_goals first | omega | (simp; done) | (simp <;> omega) | skip
 ·try simp only [dQ] at h_t16
  refine WP_skip ?_; apply hK6; refine seq_k fun _ hK14 => ?_; refine region_k g0_ok fun _ hK15 => ?_
  iterate 2 refine sS1 ?_
  refine s_nil ?_; apply hK15; apply hK14
  refine WP_ret (Done_own g0_ok (fun _ _ h => h) (by decide) [.tmp 4] rfl ?_)
  repeat' (first | exact trivial | refine aI ?_ ?_ | exact cC0 | refine low_cons' ?_ ?_ | exact cC1 | fail)
  all_goals first | omega | (simp; done) | (simp <;> omega) | skip

noncomputable def gc : Ctx := { P := Tryd.prog, ty := ty, glob := gl, fs := [(49, .own growS)] }
theorem gc_ok : gc.OK := ⟨tyOK, ⟨⟨enters_mk Tryd.func49 (by kernel_rfl) rfl, grow_ok⟩, trivial⟩, mixed⟩
@[simp] theorem gc_ty : gc.ty = ty := rfl

def concatS : OSpec := fun vs K => ∃ ps : List (List UInt8), vs = [listsV ps] ∧ (ps.length ≤ 1000000 ∧ ps.flatten.length ≤ 1048576) ∧ K 5 1 ps.flatten.length (.u8s ps.flatten)
set_option maxHeartbeats 1000000 in
theorem concat_ok : OwnOK Tryd.prog gl 38 concatS := by
 refine own_of (Γ := gc) (N := 36) Tryd.func38 rfl rfl fun vs K h => ?_
 obtain ⟨ps, rfl, ⟨hn, hb⟩, h⟩ := h
 refine ⟨_, _, _, _, h, trivial, by simp, fun w I => ?_⟩
 refine seq_k fun _ hK1 => ?_; refine region_k gc_ok fun _ hK2 => ?_
 refine sS1 ?_
 refine s_nil ?_; apply hK2; apply hK1; refine seq_k fun _ hK3 => ?_; refine region_k gc_ok fun _ hK4 => ?_
 refine sS1 ?_
 refine s_nil ?_; apply hK4; apply hK3; refine seq_k fun _ hK5 => ?_; refine seq_k fun _ hK6 => ?_; refine region_k gc_ok fun _ hK7 => ?_
 refine sS1 ?_
 refine sS fun _ hS => ?_; (repeat refine aI qSb0 ?_); apply hS; clear hS
 refine sS1 ?_
 refine s_nil ?_; apply hK7; apply hK6; refine WP_block ?_
 refine WP_loop (α := Nat) (fun k => [(0, .c (.ds ps.length (.cells (lists ps)))), (3, .c (.int .i64 (catP ps k).length)), (9, .c (.ds ps.length (.cells (lists ps)))), (10, .c (.int .i64 ps.length)), (11, .c (.int .i64 k))]) (fun k => []) 0 (fun k => k ≤ ps.length) (fun k => ps.length - k) ?_ ?_
 ·refine dnS [] id 0 (Nat.zero_le _) [] ?_ ?_ ?_ ?_
  ·exact uSb1
  ·exact uSb0
  ·exact uSb0
  ·exact uSb0
 ·intro k hk
  refine seq_k fun _ hK8 => ?_; refine region_k gc_ok fun _ hK9 => ?_
  refine sS fun _ hS => ?_; (repeat refine aI qSb0 ?_); apply hS; clear hS; refine s_nil ?_; apply hK9; apply hK8; refine seq_k fun _ hK10 => ?_
  refine WP_cond (b := _) rfl (fun h_t12 => ?_) (fun h_t12 => ?_)
  ·try simp only [dQ] at h_t12
   refine WP_skip ?_; apply hK10; refine seq_k fun _ hK11 => ?_; refine WP_block ?_; refine seq_k fun _ hK12 => ?_
   have hkl : k < ps.length := by omega
   have hc1 := catP_le ps k
   have hc2 := catP_le ps (k + 1)
   rw [catP_step ps k hkl, List.length_append] at hc2
   refine region_k gc_ok fun _ hK13 => ?_
   refine sS fun _ hS => ?_; (repeat refine aI qSb0 ?_); apply hS; clear hS
   refine sS fun _ hS => ?_
   repeat refine aI qSb0 ?_
   rw [get_lists]
   rotate_left 1
   ·first | omega | (simp <;> omega)
   first | apply hS | (refine whole_yes qSb0 ?_; apply hS) | (refine whole_sub ?_; apply hS)
   clear hS
   refine sS1 ?_
   refine s_nil ?_; apply hK13; apply hK12; refine seq_k fun _ hK14 => ?_; refine region_k gc_ok fun _ hK15 => ?_
   iterate 2 refine sS1 ?_
   refine sS fun _ hS => ?_; (repeat refine aI qSb2 ?_); apply hS; clear hS
   refine sS fun _ hS => ?_; (repeat refine aI qSb2 ?_); apply hS; clear hS
   refine sS1 ?_
   refine s_nil ?_; apply hK15; apply hK14; refine seq_k fun _ hK16 => ?_; refine region_k gc_ok fun _ hK17 => ?_
   refine sS1 ?_
   refine sS fun _ hS => ?_; (repeat refine aI qSb0 ?_); apply hS; clear hS; refine s_nil ?_; apply hK17; apply hK16
   refine WP_cond (b := _) rfl (fun h_t20 => ?_) (fun _ => ?_)
   ·exfalso; first | (simp at h_t20; omega) | omega
   refine WP_skip ?_; refine done_block ?_; apply hK11; refine region_k gc_ok fun _ hK18 => ?_
   refine sS fun _ hS => ?_; (repeat refine aI qSb0 ?_); apply hS; clear hS
   refine sS1 ?_
   refine s_nil ?_; apply hK18
   refine dnS [] id (k + 1) ⟨by omega, by omega⟩ [] ?_ ?_ ?_ ?_
   ·exact uSb1
   ·exact uSb0
   ·exact uSb0
   ·exact uSb0
  ·try simp only [dQ] at h_t12
   refine WP_exit ?_; refine done_thenx ?_; refine done_thenx ?_
   refine Done_hit ?_
   apply hK5; refine seq_k fun _ hK19 => ?_
   obtain rfl : k = ps.length := by omega
   refine region_k gc_ok fun _ hK20 => ?_
   refine sS1 ?_
   refine sS fun _ hS => ?_; (repeat first | refine aI qSb0 ?_ | refine whole_yes qSb0 ?_ | refine whole_sub ?_); refine ⟨(catP ps ps.length).length, rfl, by have := catP_le ps ps.length; omega, ?_⟩; (repeat refine aI qSb0 ?_); (first | apply hS | (intro cap1 hcap1; apply hS)); clear hS
   refine sS1 ?_
   refine s_nil ?_; apply hK20; apply hK19; refine seq_k fun _ hK21 => ?_; refine seq_k fun _ hK22 => ?_; refine region_k gc_ok fun _ hK23 => ?_
   refine sS1 ?_
   refine sS fun _ hS => ?_; (repeat refine aI qSb0 ?_); apply hS; clear hS
   refine sS1 ?_
   refine s_nil ?_; apply hK23; apply hK22; refine WP_block ?_
   refine WP_loop (α := Nat × Nat) (fun k => [(0, .c (.ds ps.length (.cells (lists ps)))), (6, .c (.slice 0 0 (catP ps k.1).length k.2)), (25, .c (.ds ps.length (.cells (lists ps)))), (26, .c (.int .i64 ps.length)), (27, .c (.int .i64 k.1))]) (fun k => [(0, .own 5 (.u8s (catP ps k.1)) k.2)]) 1 (fun k => k.1 ≤ ps.length) (fun k => ps.length - k.1) ?_ ?_
   ·refine dnS [] id (0, cap1) (Nat.zero_le _) [0] ?_ ?_ ?_ ?_
    ·exact uSb2
    ·exact uSb2
    ·exact uSb0
    ·exact uSb0
   ·intro k hk
    refine seq_k fun _ hK24 => ?_; refine region_k gc_ok fun _ hK25 => ?_
    refine sS fun _ hS => ?_; (repeat refine aI qSb0 ?_); apply hS; clear hS; refine s_nil ?_; apply hK25; apply hK24; refine seq_k fun _ hK26 => ?_
    refine WP_cond (b := _) rfl (fun h_t28 => ?_) (fun h_t28 => ?_)
    ·try simp only [dQ] at h_t28
     refine WP_skip ?_; apply hK26; refine seq_k fun _ hK27 => ?_; refine WP_block ?_; refine seq_k fun _ hK28 => ?_
     have hkl : k.1 < ps.length := by omega
     have hc1 := catP_le ps k.1
     have hc2 := catP_le ps (k.1 + 1)
     rw [catP_step ps k.1 hkl, List.length_append] at hc2
     refine region_k gc_ok fun _ hK29 => ?_
     refine sS fun _ hS => ?_; (repeat refine aI qSb0 ?_); apply hS; clear hS
     refine sS fun _ hS => ?_
     repeat refine aI qSb0 ?_
     rw [get_lists]
     rotate_left 1
     ·first | omega | (simp <;> omega)
     first | apply hS | (refine whole_yes qSb0 ?_; apply hS) | (refine whole_sub ?_; apply hS)
     clear hS
     refine sS1 ?_
     refine s_nil ?_; apply hK29; apply hK28; refine region_k gc_ok fun _ hK30 => ?_
     iterate 2 refine sS1 ?_
     refine sS fun _ hS => ?_; (repeat first | refine aI qSb3 ?_ | refine whole_yes qSb3 ?_ | refine whole_sub ?_); (intro cap2 hcap2; apply hS); clear hS
     refine sS1 ?_
     refine s_nil ?_; apply hK30; refine done_block ?_; apply hK27; refine region_k gc_ok fun _ hK31 => ?_
     refine sS fun _ hS => ?_; (repeat refine aI qSb0 ?_); apply hS; clear hS
     refine sS1 ?_
     refine s_nil ?_; apply hK31
     refine dnS [] (fun _ => 1) (k.1 + 1, cap2) ⟨by omega, by omega⟩ [1] ?_ ?_ ?_ ?_
     ·exact uSb2
     ·exact uSb2
     ·exact uSb0
     ·exact uSb0
    ·try simp only [dQ] at h_t28
     refine WP_exit ?_; refine done_thenx ?_; refine done_thenx ?_
     refine Done_hit ?_
     apply hK21; refine seq_k fun _ hK32 => ?_
     obtain ⟨k, cp⟩ := k
     obtain rfl : k = ps.length := by have := hk; simp at h_t28 this; omega
     refine region_k gc_ok fun _ hK33 => ?_
     iterate 2 refine sS1 ?_
     refine s_nil ?_; apply hK33; apply hK32
     refine WP_ret (Done_own gc_ok (fun _ _ h => h) (by decide) [.tmp 2] rfl ?_)
     repeat' (first | exact trivial | refine aI ?_ ?_ | exact cC0 | refine low_cons' ?_ ?_ | exact cC1 | fail)
     all_goals first | omega | (show (_ : Cont) = _; rw [catP_full]; done) | (rw [catP_full]; done) | (simp; done) | skip


end Go.Proofs.YtnhmglhbhnhnhaaDoor

namespace Go.Proofs.YtnhmglhbhnhnhaaDoor
set_option linter.unusedVariables false
open Go.Ab Go.RowKit

theorem qSc0 {a : Prop} (h : a := by first | exact vcA | (simp <;> omega) | exact (pieceC_len hw).symm | exact pieceC_len hw | exact pieceC_solid _ | exact hsec.symm | exact vcB) : a := h
theorem qSc1 {a : Prop} (h : a := by first | exact vcA | (simp [pieceC_len hw, hsec] <;> omega) | (rw [pieceC_len hw]; omega) | exact hsec.symm | exact hw.2 | exact vcB) : a := h
theorem qSc2 {a : Prop} (h : a := by first | exact vcA | (simp [hsec, hkey] <;> omega) | exact hsec.symm | exact hkey.symm | exact vcB) : a := h
theorem qSc3 {a : Prop} (h : a := by first | exact vcA | (simp [hsec, hkey] <;> omega) | exact hkey.symm | exact hkey | exact vcB) : a := h
theorem qSc4 {a : Prop} (h : a := by first | exact vcA | (simp [hsec, hkey] <;> omega) | exact hsec.symm | (refine ⟨by omega, by omega, trivial⟩) | (rw [sealL, keyed_length]) | exact ⟨hsec, by simp [hkey], by omega⟩ | exact vcB) : a := h
theorem qSc5 {a : Prop} (h : a := by first | omega | exact trivial | rfl | (simp [keyed_length] <;> omega)) : a := h
theorem qSc6 {a : Prop} (h : a := by first | exact vcA | (simp [pieceC_len hw, hsec] <;> omega) | (rw [pieceC_len hw]; omega) | exact hsec.symm | exact hw.2 | exact (keyed_length _ _).symm | exact vcB) : a := h
theorem uSc0 {a : Prop} (h : a := by
    repeat' (first | exact trivial | refine aI ?_ ?_ | exact cC0 | refine low_cons' ?_ ?_ | exact cC1 | fail)
    all_goals first | omega | exact pieceC_isD _ | exact pieceC_low | (simp [pieceC_len hw]; done) | (simp [hsec]; done) | skip) : a := h

open Go.Sto
def pieceC (s : Piece) : Cont := .cells (s.key.map .u8 ++ [.ds s.b.length (.u8s s.b)] ++ s.seal'.map .u8)
abbrev pieceV (s : Piece) : SV := .agg (pieceC s)
def Piece.wf (s : Piece) : Prop := s.key.length = 32 ∧ s.seal'.length = 32
theorem Piece.ok.wf {s : Piece} (h : s.ok) : Piece.wf s := ⟨h.1, h.2.1⟩
theorem as_eq {v v' : SV} (h : v = v') : v.as v' := h ▸ SV.as_refl v
theorem pieceC_len {s : Piece} (h : Piece.wf s) : (pieceC s).len = 65 := by simp [pieceC, Cont.len, h.1, h.2]
theorem piece_key {s : Piece} (h : Piece.wf s) : ((pieceC s).sub 0 32).eqv (.u8s s.key) := by
  have e : (pieceC s).sub 0 32 = .cells (s.key.map .u8) := by
    show Cont.cells _ = _
    congr 1
    rw [List.drop_zero, List.append_assoc, List.take_left' (by rw [List.length_map, h.1])]
  rw [e]; exact eqv_u8s _
theorem piece_seal {s : Piece} (h : Piece.wf s) : ((pieceC s).sub 33 32).eqv (.u8s s.seal') := by
  have e : (pieceC s).sub 33 32 = .cells (s.seal'.map .u8) := by
    show Cont.cells _ = _
    congr 1
    rw [List.drop_left' (by simp [h.1]), List.take_of_length_le (by rw [List.length_map, h.2]; omega)]
  rw [e]; exact eqv_u8s _
theorem piece_b {s : Piece} (h : Piece.wf s) : (pieceC s).get 32 = .ds s.b.length (.u8s s.b) := by
  show List.getD _ 32 _ = _
  rw [List.append_assoc, List.getD_eq_getElem?_getD, List.getElem?_append_right (by rw [List.length_map, h.1]; omega), List.length_map, h.1]
  rfl
theorem pieceC_low {s : Piece} {n : Nat} : (pieceC s).low n := fun x hx => by
  rcases List.mem_append.1 hx with hx | hx
  · rcases List.mem_append.1 hx with hx | hx
    · obtain ⟨b, _, rfl⟩ := List.mem_map.1 hx; exact trivial
    · rw [List.mem_singleton.1 hx]; exact trivial
  · obtain ⟨b, _, rfl⟩ := List.mem_map.1 hx; exact trivial
theorem allD_app : ∀ {a b : List Cell}, allD a → allD b → allD (a ++ b)
  | [], _, _, h => h
  | _ :: _, _, h, k => ⟨h.1, allD_app h.2 k⟩
theorem allD_u8 : ∀ l : List UInt8, allD (l.map Cell.u8)
  | [] => trivial
  | _ :: l => ⟨trivial, allD_u8 l⟩
theorem pieceC_isD (s : Piece) : (pieceC s).isD := allD_app (allD_app (allD_u8 _) ⟨trivial, trivial⟩) (allD_u8 _)
theorem solid_app : ∀ {a b : List Cell}, solidAll a → solidAll b → solidAll (a ++ b)
  | [], _, _, h => h
  | _ :: _, _, h, k => ⟨h.1, solid_app h.2 k⟩
theorem solid_u8 : ∀ l : List UInt8, solidAll (l.map Cell.u8)
  | [] => trivial
  | _ :: l => ⟨trivial, solid_u8 l⟩
theorem pieceC_solid (s : Piece) : (pieceC s).solid := solid_app (solid_app (solid_u8 _) ⟨trivial, trivial⟩) (solid_u8 _)
theorem allTo_u8 {tf : Nat → Ty} {H : Heap} {is : List Nat} {ρ : Nat → Nat} : ∀ l : List UInt8, allTo (Cell.to tf H is ρ) (l.map Cell.u8) (l.map Cell.u8)
  | [] => trivial
  | _ :: l => ⟨rfl, allTo_u8 l⟩
theorem piece_to {tf : Nat → Ty} {H : Heap} {is : List Nat} {ρ : Nat → Nat} (s : Piece) : (pieceC s).to tf H is ρ (pieceC s) := allTo_app (allTo_app (allTo_u8 _) ⟨⟨rfl, rfl⟩, trivial⟩) (allTo_u8 _)
def sealL (secret key b : List UInt8) : List UInt8 := keyed secret (key ++ b)
def corF (secret : List UInt8) (s : Piece) : Bool := decide (sealL secret s.key s.b = s.seal')
noncomputable def gk : Ctx := { P := Tryd.prog, ty := ty, glob := gl, fs := [(38, .own concatS), (52, .flat keyedS)] }
theorem gk_ok : gk.OK := ⟨tyOK, ⟨⟨enters_mk Tryd.func38 (by kernel_rfl) rfl, concat_ok⟩, ⟨enters_mk Tryd.func52 (by kernel_rfl) rfl, keyed_ok hash_ok⟩, trivial⟩, mixed⟩
@[simp] theorem gk_ty : gk.ty = ty := rfl

def correctS : QSpec := fun vs K => ∃ s : Piece, ∃ secret : List UInt8, vs = [pieceV s, .agg (.u8s secret)] ∧ (Piece.wf s ∧ secret.length = 32 ∧ s.b.length ≤ 900000) ∧ K (.c (.bool (corF secret s)))
set_option maxHeartbeats 1000000 in
theorem correct_ok : FlatOK Tryd.prog gl 42 correctS := by
 refine flat_of (Γ := gk) (N := 16) Tryd.func42 rfl rfl fun vs K h => ?_
 obtain ⟨s, secret, rfl, ⟨hw, hsec, hb⟩, h⟩ := h
 refine ⟨_, h, rfl, by simp, fun w I => ?_⟩
 refine seq_k fun _ hK1 => ?_; refine region_k gk_ok fun _ hK2 => ?_
 refine sS fun _ hS => ?_; (repeat refine aI qSc0 ?_); apply hS; clear hS
 refine sS fun _ hS => ?_; (repeat refine aI qSc0 ?_); apply hS; clear hS
 refine sS1 ?_
 refine s_nil ?_; apply hK2; apply hK1; refine seq_k fun _ hK3 => ?_
 refine leW [0, 1] id [(2, .c (.dp (pieceC s) 0)), (3, .c (.dp (.u8s secret) 0))] [] 2 [] ?_ ?_ ?_ ?_ ?_
 ·exact uSc0
 ·exact uSc0
 ·exact uSc0
 ·exact uSc0
 refine sched_k gk_ok [(0, true), (1, true), (2, true), (3, true), (4, true), (8, true), (9, true), (5, false), (6, false), (7, false), (10, true), (11, true)] rfl (by kernel_rfl) (by kernel_rfl) fun _ hK4 => ?_
 refine dR fun _ hS => ?_; (repeat refine aI qSc1 ?_); (first | apply hS | (refine whole_yes qSc1 ?_; apply hS) | (refine whole_sub ?_; apply hS)); clear hS
 refine dR fun _ hS => ?_; (repeat refine aI qSc1 ?_); apply hS; clear hS
 refine d_readA rfl rfl (by decide) rfl fun _ hS => ?_
 repeat refine aI qSc1 ?_
 rw [if_neg (by rw [pieceC_len hw]; simp)]
 first | refine hS _ (.c (.ds 32 (.u8s s.key))) (SV.as_ds (piece_key hw)) ?_ | (refine ite_yes qSc1 ?_; (repeat refine aI qSc1 ?_); refine hS _ (.c (.ds 32 (.u8s s.key))) (SV.as_ds (piece_key hw)) ?_)
 clear hS
 refine dR fun _ hS => ?_; (repeat refine aI qSc1 ?_); apply hS; clear hS
 refine d_readA rfl rfl (by decide) rfl fun _ hS => ?_
 repeat refine aI qSc1 ?_
 first | refine hS _ (.c (.ds s.b.length (.u8s s.b))) (as_eq (congrArg SV.c (piece_b hw))) ?_ | (refine whole_yes qSc1 ?_; refine hS _ (.c (.ds s.b.length (.u8s s.b))) (as_eq (congrArg SV.c (piece_b hw))) ?_) | (refine whole_sub ?_; refine hS _ (.c (.ds s.b.length (.u8s s.b))) (as_eq (congrArg SV.c (piece_b hw))) ?_)
 clear hS
 refine dR fun _ hS => ?_; (repeat refine aI qSc1 ?_); apply hS; clear hS
 refine d_readA rfl rfl (by decide) rfl fun _ hS => ?_
 repeat refine aI qSc1 ?_
 first | refine hS _ (.agg (.u8s s.seal')) (SV.as_agg (piece_seal hw)) ?_ | (refine whole_yes qSc1 ?_; refine hS _ (.agg (.u8s s.seal')) (SV.as_agg (piece_seal hw)) ?_) | (refine whole_sub ?_; refine hS _ (.agg (.u8s s.seal')) (SV.as_agg (piece_seal hw)) ?_)
 clear hS
 refine dG fun _ hS => ?_; (repeat refine aI qSc1 ?_); apply hS; clear hS
 refine dG fun _ hS => ?_; (repeat first | refine aI qSc1 ?_ | refine whole_yes qSc1 ?_ | refine whole_sub ?_); refine ⟨[s.key, s.b], by simp [lists, hw.1], ⟨by simp, by simp [hw.1]; omega⟩, ?_⟩; rw [show [s.key, s.b].flatten = s.key ++ s.b by simp]; (repeat refine aI qSc1 ?_); (first | apply hS | (intro cap6 hcap6; apply hS)); clear hS
 refine dG fun _ hS => ?_; (repeat first | refine aI qSc1 ?_ | refine whole_yes qSc1 ?_ | refine whole_sub ?_); refine aI ⟨hsec, by simp, by simp [hw.1]; omega⟩ ?_; (repeat refine aI qSc1 ?_); (first | apply hS | (intro cap7 hcap7; apply hS)); clear hS
 refine dR fun _ hS => ?_; (repeat refine aI qSc1 ?_); apply hS; clear hS
 refine dD1 ?_
 refine d_nil ?_; apply hK4; apply hK3
 refine WP_ret (Done_flat gk_ok (fun _ _ h => h) (by first | rfl | assumption) [.tmp 4] rfl ?_)
 repeat refine aI (by first | omega | exact trivial | rfl | (simp <;> omega)) ?_
 try refine ite_yes (by first | omega | exact trivial | rfl | (simp <;> omega)) ?_
 show SV.c (.bool (decide _)) = _
 rfl

noncomputable def gs : Ctx := { P := Tryd.prog, ty := ty, glob := gl, fs := [(45, .own bytesS), (46, .flat keyedS)] }
theorem gs_ok : gs.OK := ⟨tyOK, ⟨⟨enters_mk Tryd.func45 (by kernel_rfl) rfl, bytesR_ok⟩, ⟨enters_mk Tryd.func46 (by kernel_rfl) rfl, keyedR_ok⟩, trivial⟩, mixed⟩
@[simp] theorem gs_ty : gs.ty = ty := rfl

def sealS : QSpec := fun vs K => ∃ secret key b : List UInt8, vs = [.agg (.u8s secret), .agg (.u8s key), bytesV b] ∧ (secret.length = 32 ∧ key.length = 32 ∧ b.length ≤ 900000) ∧ K (.agg (.u8s (sealL secret key b)))
set_option maxHeartbeats 1000000 in
theorem seal_ok : FlatOK Tryd.prog gl 33 sealS := by
 refine flat_of (Γ := gs) (N := 15) Tryd.func33 rfl rfl fun vs K h => ?_
 obtain ⟨secret, key, b, rfl, ⟨hsec, hkey, hb⟩, h⟩ := h
 refine ⟨_, h, rfl, by simp, fun w I => ?_⟩
 refine seq_k fun _ hK1 => ?_; refine region_k gs_ok fun _ hK2 => ?_
 refine sS fun _ hS => ?_; (repeat refine aI qSc2 ?_); apply hS; clear hS
 refine sS fun _ hS => ?_; (repeat refine aI qSc2 ?_); apply hS; clear hS
 refine sS fun _ hS => ?_; (repeat refine aI qSc2 ?_); apply hS; clear hS; refine s_nil ?_; apply hK2; apply hK1; refine seq_k fun _ hK3 => ?_; refine region_k gs_ok fun _ hK4 => ?_
 refine sS fun _ hS => ?_; (repeat refine aI qSc3 ?_); (first | apply hS | (refine whole_yes qSc3 ?_; apply hS) | (refine whole_sub ?_; apply hS)); clear hS
 refine sS fun _ hS => ?_; (repeat first | refine aI qSc3 ?_ | refine whole_yes qSc3 ?_ | refine whole_sub ?_); (first | apply hS | (intro cap1 hcap1; apply hS)); clear hS
 refine sS1 ?_
 refine s_nil ?_; apply hK4; apply hK3; refine seq_k fun _ hK5 => ?_
 refine tree_k gs_ok ?_
 refine WB_run gs_ok (g := 4) (by kernel_rfl) [(1, true), (2, true)] (by kernel_rfl) fun _ hK7 => ?_
 iterate 2 refine dD1 ?_
 refine d_nil ?_; apply hK7
 refine WB_all [0, 3] (by kernel_rfl) (by decide) (List.forall_mem_cons.2 ⟨?_, List.forall_mem_cons.2 ⟨?_, fun _ h => by cases h⟩⟩)
 ·refine WB_force gs_ok rfl rfl (by decide) rfl fun _ hS => ?_
  repeat refine aI qSc4 ?_
  first | apply hS | (refine whole_yes qSc4 ?_; apply hS) | (refine whole_sub ?_; apply hS)
  clear hS
  refine WB_run gs_ok (g := 0) (by kernel_rfl) [(3, false), (4, false), (5, false)] (by kernel_rfl) fun _ hK8 => ?_
  refine dG fun _ hS => ?_; (repeat first | refine aI qSc4 ?_ | refine whole_yes qSc4 ?_ | refine whole_sub ?_); (intro cap3 hcap3; apply hS); clear hS
  refine dG fun _ hS => ?_; (repeat first | refine aI qSc4 ?_ | refine whole_yes qSc4 ?_ | refine whole_sub ?_); (first | apply hS | (intro cap4 hcap4; apply hS)); clear hS
  refine d_grow0 rfl rfl rfl fun _ hS => ?_
  repeat refine aI qSc4 ?_
  first | apply hS | (refine splice_full qSc4 ?_; apply hS)
  clear hS; refine d_nil ?_; apply hK8
  refine WB_done (by kernel_rfl) ?_
  apply hK5
  refine WP_ret (Done_flat gs_ok (fun _ _ h => h) (by first | rfl | assumption) [.cell 6 24] rfl ?_)
  repeat refine aI qSc5 ?_
  try refine ite_yes qSc5 ?_
  rfl
 ·refine WB_force gs_ok rfl rfl (by decide) rfl fun _ hS => ?_
  repeat first | refine aI qSc4 ?_ | refine whole_yes qSc4 ?_ | refine whole_sub ?_
  intro cap3 hcap3; apply hS
  clear hS
  refine WB_run gs_ok (g := 0) (by kernel_rfl) [(0, true), (4, false), (5, false)] (by kernel_rfl) fun _ hK9 => ?_
  refine dR fun _ hS => ?_; (repeat refine aI qSc4 ?_); (first | apply hS | (refine whole_yes qSc4 ?_; apply hS) | (refine whole_sub ?_; apply hS)); clear hS
  refine dG fun _ hS => ?_; (repeat first | refine aI qSc4 ?_ | refine whole_yes qSc4 ?_ | refine whole_sub ?_); (first | apply hS | (intro cap4 hcap4; apply hS)); clear hS
  refine d_grow0 rfl rfl rfl fun _ hS => ?_
  repeat refine aI qSc4 ?_
  first | apply hS | (refine splice_full qSc4 ?_; apply hS)
  clear hS; refine d_nil ?_; apply hK9
  refine WB_done (by kernel_rfl) ?_
  apply hK5
  refine WP_ret (Done_flat gs_ok (fun _ _ h => h) (by first | rfl | assumption) [.cell 6 24] rfl ?_)
  repeat refine aI qSc5 ?_
  try refine ite_yes qSc5 ?_
  rfl

noncomputable def gq : Ctx := { P := Tryd.prog, ty := ty, glob := gl, fs := [(33, .flat sealS)] }
theorem gq_ok : gq.OK := ⟨tyOK, ⟨⟨enters_mk Tryd.func33 (by kernel_rfl) rfl, seal_ok⟩, trivial⟩, mixed⟩
@[simp] theorem gq_ty : gq.ty = ty := rfl

def correctRS : QSpec := fun vs K => ∃ s : Piece, ∃ secret : List UInt8, vs = [pieceV s, .agg (.u8s secret)] ∧ (Piece.wf s ∧ secret.length = 32 ∧ s.b.length ≤ 900000) ∧ K (.c (.bool (corF secret s)))
set_option maxHeartbeats 1000000 in
theorem correctR_ok : FlatOK Tryd.prog gl 31 correctRS := by
 refine flat_of (Γ := gq) (N := 14) Tryd.func31 rfl rfl fun vs K h => ?_
 obtain ⟨s, secret, rfl, ⟨hw, hsec, hb⟩, h⟩ := h
 refine ⟨_, h, rfl, by simp, fun w I => ?_⟩
 refine seq_k fun _ hK1 => ?_; refine region_k gq_ok fun _ hK2 => ?_
 refine sS fun _ hS => ?_; (repeat refine aI qSc0 ?_); apply hS; clear hS
 refine sS fun _ hS => ?_; (repeat refine aI qSc0 ?_); apply hS; clear hS
 refine sS1 ?_
 refine s_nil ?_; apply hK2; apply hK1; refine seq_k fun _ hK3 => ?_; refine quiet_k gq_ok (by kernel_rfl) fun _ hK4 => ?_
 refine qS fun _ hS => ?_; (repeat refine aI qSc6 ?_); (first | apply hS | (refine whole_yes qSc6 ?_; apply hS) | (refine whole_sub ?_; apply hS)); clear hS
 refine qS fun _ hS => ?_; (repeat refine aI qSc6 ?_); apply hS; clear hS
 refine q_stepA rfl (by decide) rfl fun _ hS => ?_
 repeat refine aI qSc6 ?_
 first | refine hS _ (.agg (.u8s s.key)) (SV.as_agg (piece_key hw)) ?_ | (refine whole_yes qSc6 ?_; refine hS _ (.agg (.u8s s.key)) (SV.as_agg (piece_key hw)) ?_) | (refine whole_sub ?_; refine hS _ (.agg (.u8s s.key)) (SV.as_agg (piece_key hw)) ?_)
 clear hS
 refine qS fun _ hS => ?_; (repeat refine aI qSc6 ?_); apply hS; clear hS
 refine q_stepA rfl (by decide) rfl fun _ hS => ?_
 repeat refine aI qSc6 ?_
 first | refine hS _ (.c (.ds s.b.length (.u8s s.b))) (as_eq (congrArg SV.c (piece_b hw))) ?_ | (refine whole_yes qSc6 ?_; refine hS _ (.c (.ds s.b.length (.u8s s.b))) (as_eq (congrArg SV.c (piece_b hw))) ?_) | (refine whole_sub ?_; refine hS _ (.c (.ds s.b.length (.u8s s.b))) (as_eq (congrArg SV.c (piece_b hw))) ?_)
 clear hS
 refine qS fun _ hS => ?_; (repeat first | refine aI qSc6 ?_ | refine whole_yes qSc6 ?_ | refine whole_sub ?_); refine ⟨secret, s.key, s.b, rfl, ⟨hsec, hw.1, hb⟩, ?_⟩; (repeat refine aI qSc6 ?_); (first | apply hS | (intro cap5 hcap5; apply hS)); clear hS
 refine qS fun _ hS => ?_; (repeat refine aI qSc6 ?_); apply hS; clear hS
 refine q_stepA rfl (by decide) rfl fun _ hS => ?_
 repeat refine aI qSc6 ?_
 first | refine hS _ (.agg (.u8s s.seal')) (SV.as_agg (piece_seal hw)) ?_ | (refine whole_yes qSc6 ?_; refine hS _ (.agg (.u8s s.seal')) (SV.as_agg (piece_seal hw)) ?_) | (refine whole_sub ?_; refine hS _ (.agg (.u8s s.seal')) (SV.as_agg (piece_seal hw)) ?_)
 clear hS
 refine qS fun _ hS => ?_; (repeat refine aI qSc6 ?_); apply hS; clear hS
 refine qQ1 ?_
 refine q_nil ?_; apply hK4; apply hK3
 refine WP_ret (Done_flat gq_ok (fun _ _ h => h) (by first | rfl | assumption) [.tmp 4] rfl ?_)
 repeat refine aI (by first | omega | exact trivial | rfl | (simp <;> omega)) ?_
 try refine ite_yes (by first | omega | exact trivial | rfl | (simp <;> omega)) ?_
 show SV.c (.bool (decide _)) = _
 rfl


end Go.Proofs.YtnhmglhbhnhnhaaDoor
