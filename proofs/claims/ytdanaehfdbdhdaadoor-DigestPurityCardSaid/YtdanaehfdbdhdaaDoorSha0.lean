/- The plain mathematics of the digest laws: SHA-256, the keyed digest, the encoding of a list, hexadecimal digits. No program in sight. -/
import Derived.Test.YtdanaehfdbdhdaaDoorAb1
namespace Go.Proofs.YtdanaehfdbdhdaaDoor.Sha
set_option linter.unusedVariables false

abbrev Bytes := List UInt8
abbrev Words := List UInt32

def rotr (x : UInt32) (n : Nat) : UInt32 := Ab.shr32 x n ||| Ab.shl32 x (32 - n)
def low (x : UInt32) : UInt32 := rotr x 7 ^^^ rotr x 18 ^^^ (Ab.shr32 x 3)
def high (x : UInt32) : UInt32 := rotr x 17 ^^^ rotr x 19 ^^^ (Ab.shr32 x 10)

def word (b : Bytes) (i : Nat) : UInt32 :=
  Ab.shl32 (b.getD (4 * i) 0).toUInt32 24 ||| Ab.shl32 (b.getD (4 * i + 1) 0).toUInt32 16 ||| Ab.shl32 (b.getD (4 * i + 2) 0).toUInt32 8 ||| (b.getD (4 * i + 3) 0).toUInt32

/-- The next word of the schedule, when the words `s` are there. -/
def next (b : Bytes) (s : Words) : UInt32 :=
  if s.length < 16 then word b s.length
  else s.getD (s.length - 16) 0 + low (s.getD (s.length - 15) 0) + s.getD (s.length - 7) 0 + high (s.getD (s.length - 2) 0)

/-- The first n words of the schedule. -/
def sched (b : Bytes) : Nat → Words
  | 0 => []
  | n + 1 => sched b n ++ [next b (sched b n)]

theorem sched_length (b : Bytes) : ∀ n, (sched b n).length = n
  | 0 => rfl
  | n + 1 => by simp [sched, sched_length b n]

/-- The array of 64 words after n of them have been written. -/
def schedArr (b : Bytes) (n : Nat) : Words := sched b n ++ List.replicate (64 - n) 0

theorem schedArr_length (b : Bytes) (n : Nat) (h : n ≤ 64) : (schedArr b n).length = 64 := by
  simp [schedArr, sched_length]; omega

theorem schedArr_step (b : Bytes) (n : Nat) (h : n < 64) : (schedArr b n).set n (next b (sched b n)) = schedArr b (n + 1) := by
  have e : List.replicate (64 - n) (0 : UInt32) = 0 :: List.replicate (64 - (n + 1)) 0 := by
    rw [← List.replicate_succ]; congr 1; omega
  simp only [schedArr, sched, e]
  rw [List.set_append_right _ _ (by simp [sched_length])]
  simp [sched_length]

theorem schedArr_get (b : Bytes) (n j : Nat) (h : j < n) : (schedArr b n).getD j 0 = (sched b n).getD j 0 := by
  unfold schedArr
  rw [List.getD_eq_getElem?_getD, List.getElem?_append_left (by simp [sched_length]; omega), ← List.getD_eq_getElem?_getD]

theorem schedArr_full (b : Bytes) : schedArr b 64 = sched b 64 := by simp [schedArr]

def consts : Words := [0x428a2f98, 0x71374491, 0xb5c0fbcf, 0xe9b5dba5, 0x3956c25b, 0x59f111f1, 0x923f82a4, 0xab1c5ed5,
  0xd807aa98, 0x12835b01, 0x243185be, 0x550c7dc3, 0x72be5d74, 0x80deb1fe, 0x9bdc06a7, 0xc19bf174,
  0xe49b69c1, 0xefbe4786, 0x0fc19dc6, 0x240ca1cc, 0x2de92c6f, 0x4a7484aa, 0x5cb0a9dc, 0x76f988da,
  0x983e5152, 0xa831c66d, 0xb00327c8, 0xbf597fc7, 0xc6e00bf3, 0xd5a79147, 0x06ca6351, 0x14292967,
  0x27b70a85, 0x2e1b2138, 0x4d2c6dfc, 0x53380d13, 0x650a7354, 0x766a0abb, 0x81c2c92e, 0x92722c85,
  0xa2bfe8a1, 0xa81a664b, 0xc24b8b70, 0xc76c51a3, 0xd192e819, 0xd6990624, 0xf40e3585, 0x106aa070,
  0x19a4c116, 0x1e376c08, 0x2748774c, 0x34b0bcb5, 0x391c0cb3, 0x4ed8aa4a, 0x5b9cca4f, 0x682e6ff3,
  0x748f82ee, 0x78a5636f, 0x84c87814, 0x8cc70208, 0x90befffa, 0xa4506ceb, 0xbef9a3f7, 0xc67178f2]

def start : Words := [0x6a09e667, 0xbb67ae85, 0x3c6ef372, 0xa54ff53a, 0x510e527f, 0x9b05688c, 0x1f83d9ab, 0x5be0cd19]

def mixX (t : Words) (k w : UInt32) : UInt32 :=
  t.getD 7 0 + (rotr (t.getD 4 0) 6 ^^^ rotr (t.getD 4 0) 11 ^^^ rotr (t.getD 4 0) 25) + ((t.getD 4 0 &&& t.getD 5 0) ^^^ (~~~t.getD 4 0 &&& t.getD 6 0)) + k + w
def mixY (t : Words) : UInt32 :=
  (rotr (t.getD 0 0) 2 ^^^ rotr (t.getD 0 0) 13 ^^^ rotr (t.getD 0 0) 22) + ((t.getD 0 0 &&& t.getD 1 0) ^^^ (t.getD 0 0 &&& t.getD 2 0) ^^^ (t.getD 1 0 &&& t.getD 2 0))
def round (t : Words) (k w : UInt32) : Words :=
  [mixX t k w + mixY t, t.getD 0 0, t.getD 1 0, t.getD 2 0, t.getD 3 0 + mixX t k w, t.getD 4 0, t.getD 5 0, t.getD 6 0]

/-- The state after n rounds over the words ws. -/
def rounds (ws : Words) (t : Words) : Nat → Words
  | 0 => t
  | n + 1 => round (rounds ws t n) (consts.getD n 0) (ws.getD n 0)

theorem rounds_length (ws t : Words) (h : t.length = 8) : ∀ n, (rounds ws t n).length = 8
  | 0 => h
  | _ + 1 => rfl

def addAll (t s : Words) : Words := List.zipWith (· + ·) t s
def compress (s : Words) (b : Bytes) : Words := addAll (rounds (sched b 64) s 64) s
theorem compress_length (s : Words) (b : Bytes) (h : s.length = 8) : (compress s b).length = 8 := by
  simp [compress, addAll, rounds_length _ _ h, h]

/-- After n words have been added. -/
def addTo (t s : Words) (n : Nat) : Words := (addAll t s).take n ++ t.drop n
theorem addTo_length (t s : Words) (n : Nat) (ht : t.length = 8) (hs : s.length = 8) : (addTo t s n).length = 8 := by
  simp [addTo, addAll, ht, hs]; omega
theorem addTo_step (t s : Words) (n : Nat) (ht : t.length = 8) (hs : s.length = 8) (h : n < 8) :
    (addTo t s n).set n (t.getD n 0 + s.getD n 0) = addTo t s (n + 1) := by
  match t, s, ht, hs with
  | [t0, t1, t2, t3, t4, t5, t6, t7], [s0, s1, s2, s3, s4, s5, s6, s7], _, _ =>
    rcases n with _|_|_|_|_|_|_|_|n <;> first | rfl | omega
theorem addTo_get (t s : Words) (n : Nat) (ht : t.length = 8) (hs : s.length = 8) (h : n < 8) : (addTo t s n).getD n 0 = t.getD n 0 := by
  match t, s, ht, hs with
  | [t0, t1, t2, t3, t4, t5, t6, t7], [s0, s1, s2, s3, s4, s5, s6, s7], _, _ =>
    rcases n with _|_|_|_|_|_|_|_|n <;> first | rfl | omega
theorem addTo_full (t s : Words) (ht : t.length = 8) (hs : s.length = 8) : addTo t s 8 = addAll t s := by
  match t, s, ht, hs with
  | [t0, t1, t2, t3, t4, t5, t6, t7], [s0, s1, s2, s3, s4, s5, s6, s7], _, _ => rfl

/-- How many zeros follow the 0x80 of a message of n bytes. -/
def zeros (n : Nat) : Nat := (119 - n % 64) % 64
def be64 (n : UInt64) : Bytes := (List.range 8).map fun i => (Ab.shr64 n (56 - 8 * i)).toUInt8
def pad (b : Bytes) : Bytes := b ++ [0x80] ++ List.replicate (zeros b.length) 0 ++ be64 (8 * b.length.toUInt64)

/-- The states after the blocks of p. -/
def fold (p : Bytes) : Nat → Words
  | 0 => start
  | n + 1 => compress (fold p n) ((p.drop (64 * n)).take 64)
theorem fold_length (p : Bytes) : ∀ n, (fold p n).length = 8
  | 0 => rfl
  | n + 1 => compress_length _ _ (fold_length p n)

def out (s : Words) : Bytes := (List.range 32).map fun i => (Ab.shr32 (s.getD (i / 4) 0) (24 - 8 * (i % 4))).toUInt8
theorem out_length (s : Words) : (out s).length = 32 := by simp [out]

def sum (b : Bytes) : Bytes := out (fold (pad b) ((pad b).length / 64))
theorem sum_length (b : Bytes) : (sum b).length = 32 := out_length _

end Go.Proofs.YtdanaehfdbdhdaaDoor.Sha
