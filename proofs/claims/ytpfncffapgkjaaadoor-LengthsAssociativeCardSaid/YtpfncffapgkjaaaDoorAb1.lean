/- A symbolic state for the walk: abstract values (scalars, data that is never written again, names of the call's own rows), an environment of slots, a heap of named own rows, and the weakest precondition of the operations over them. No program in sight. -/
import Derived.WalkKit
namespace Go.Ab
set_option linter.unusedVariables false

/- A value of one cell: a scalar; data ('ds' a slice whose cells nobody will write, 'dp' a pointer into such cells, 'clo' a closure); a place in an own row ('ptr', 'slice'), known by the row's name. -/
mutual
inductive Cell
  | int (k : IntKind) (n : Int)
  | bool (b : Bool)
  | u8 (x : UInt8)
  | u32 (x : UInt32)
  | u64 (x : UInt64)
  | str (s : List UInt8)
  | nils
  | raw (v : Value)
  | ds (n : Nat) (c : Cont)
  | dp (c : Cont) (off : Nat)
  | clo (f : FuncId) (caps : List Cell)
  | ptr (id off : Nat)
  | slice (id off len cap : Nat)
  | map (id : Nat)
/-- What a row of cells holds, typed. -/
inductive Cont
  | u8s (l : List UInt8)
  | u32s (l : List UInt32)
  | u64s (l : List UInt64)
  | ints (k : IntKind) (l : List Int)
  | bools (l : List Bool)
  | cells (l : List Cell)
end
instance : Inhabited Cell := ⟨.nils⟩
instance : Inhabited Cont := ⟨.cells []⟩

/-- Names stand for blocks. -/
abbrev Val := Nat → Option Nat
def place (β : Val) (id off : Nat) : Option Addr := (β id).map fun b => ⟨b, off, none⟩

def Cell.flat : Cell → Bool
  | .int _ _ | .bool _ | .u8 _ | .u32 _ | .u64 _ | .str _ | .nils | .raw _ => true
  | _ => false
def Cell.val : Cell → Value
  | .int k n => .int k n
  | .bool b => .bool b
  | .u8 x => .int .u8 x.toNat
  | .u32 x => .int .u32 x.toNat
  | .u64 x => .int .u64 x.toNat
  | .str s => .string ⟨s.toArray⟩
  | .nils => .slice none 0 0
  | .raw v => v
  | _ => .tuple #[]

/-- No name in it. -/
def Cell.pureB : Cell → Bool
  | .ptr _ _ | .slice _ _ _ _ | .map _ => false
  | _ => true

/-- A value of one cell indeed. -/
def Cell.solid : Cell → Prop
  | .raw v => v.oneCell' = true
  | _ => True

def Cont.len : Cont → Nat
  | .u8s l => l.length
  | .u32s l => l.length
  | .u64s l => l.length
  | .ints _ l => l.length
  | .bools l => l.length
  | .cells l => l.length

def Cont.get : Cont → Nat → Cell
  | .u8s l, i => .u8 (l.getD i 0)
  | .u32s l, i => .u32 (l.getD i 0)
  | .u64s l, i => .u64 (l.getD i 0)
  | .ints k l, i => .int k (l.getD i 0)
  | .bools l, i => .bool (l.getD i false)
  | .cells l, i => l.getD i .nils

def Cont.list : Cont → List Cell
  | .u8s l => l.map .u8
  | .u32s l => l.map .u32
  | .u64s l => l.map .u64
  | .ints k l => l.map (.int k)
  | .bools l => l.map .bool
  | .cells l => l

def Cont.vals (c : Cont) : List Value := c.list.map Cell.val
def allFlat : List Cell → Bool
  | [] => true
  | x :: l => x.flat && allFlat l
def Cont.flat : Cont → Bool
  | .cells l => allFlat l
  | _ => true

/-- A cell is written; of another kind than the row's: nothing is said. -/
def Cont.set : Cont → Nat → Cell → (Cont → Prop) → Prop
  | .u8s l, i, .u8 x, K => K (.u8s (l.set i x))
  | .u32s l, i, .u32 x, K => K (.u32s (l.set i x))
  | .u64s l, i, .u64 x, K => K (.u64s (l.set i x))
  | .ints k l, i, .int k' x, K => k = k' ∧ K (.ints k (l.set i x))
  | .bools l, i, .bool x, K => K (.bools (l.set i x))
  | .cells l, i, x, K => x.solid ∧ K (.cells (l.set i x))
  | _, _, _, _ => False

def solidAll : List Cell → Prop
  | [] => True
  | x :: l => x.solid ∧ solidAll l
def Cont.solid : Cont → Prop
  | .cells l => solidAll l
  | _ => True

/-- More cells behind. -/
def Cont.app : Cont → Cont → (Cont → Prop) → Prop
  | .u8s l, .u8s m, K => K (.u8s (l ++ m))
  | .u32s l, .u32s m, K => K (.u32s (l ++ m))
  | .u64s l, .u64s m, K => K (.u64s (l ++ m))
  | .ints k l, .ints k' m, K => k = k' ∧ K (.ints k (l ++ m))
  | .bools l, .bools m, K => K (.bools (l ++ m))
  | .cells l, .cells m, K => K (.cells (l ++ m))
  | k, .cells [], K => K k
  | _, _, _ => False

def Cont.take : Cont → Nat → Cont
  | .u8s l, n => .u8s (l.take n)
  | .u32s l, n => .u32s (l.take n)
  | .u64s l, n => .u64s (l.take n)
  | .ints k l, n => .ints k (l.take n)
  | .bools l, n => .bools (l.take n)
  | .cells l, n => .cells (l.take n)
def Cont.drop : Cont → Nat → Cont
  | .u8s l, n => .u8s (l.drop n)
  | .u32s l, n => .u32s (l.drop n)
  | .u64s l, n => .u64s (l.drop n)
  | .ints k l, n => .ints k (l.drop n)
  | .bools l, n => .bools (l.drop n)
  | .cells l, n => .cells (l.drop n)
def Cont.sub (c : Cont) (i n : Nat) : Cont := (c.drop i).take n

def Cont.empty : Cont → Cont
  | .u8s _ => .u8s []
  | .u32s _ => .u32s []
  | .u64s _ => .u64s []
  | .ints k _ => .ints k []
  | .bools _ => .bools []
  | .cells _ => .cells []

/-- The content n times over. -/
def timesL {α : Type} (l : List α) (n : Nat) : List α := match l with | [x] => List.replicate n x | l => (List.replicate n l).flatten
def Cont.times : Cont → Nat → Cont
  | .u8s l, n => .u8s (timesL l n)
  | .u32s l, n => .u32s (timesL l n)
  | .u64s l, n => .u64s (timesL l n)
  | .ints k l, n => .ints k (timesL l n)
  | .bools l, n => .bools (timesL l n)
  | .cells l, n => .cells (timesL l n)

/-- A value: of one cell; of several (a struct, an array); several results. -/
inductive Part
  | c (x : Cell)
  | agg (c : Cont)
inductive SV
  | c (x : Cell)
  | agg (c : Cont)
  | tup (l : List Part)
def Part.sv : Part → SV
  | .c x => .c x
  | .agg k => .agg k

def SV.flat : SV → Bool
  | .c x => x.flat
  | .agg k => k.flat
  | .tup _ => false
def SV.val : SV → Value
  | .c x => x.val
  | .agg k => .agg k.vals.toArray
  | .tup _ => .tuple #[]

/-- Names are below n. -/
def Cell.low1 (n : Nat) : Cell → Prop
  | .ptr id _ | .slice id _ _ _ | .map id => id < n
  | _ => True
def Cell.low (n : Nat) : Cell → Prop
  | .clo _ caps => ∀ x ∈ caps, x.low1 n
  | x => x.low1 n
def Cont.low (n : Nat) : Cont → Prop
  | .cells l => ∀ x ∈ l, Cell.low n x
  | _ => True
def Part.low (n : Nat) : Part → Prop
  | .c x => x.low n
  | .agg k => k.low n
def SV.low (n : Nat) : SV → Prop
  | .c x => x.low n
  | .agg k => k.low n
  | .tup l => ∀ x ∈ l, Part.low n x

/-- The slots that are known. -/
abbrev Env := List (Nat × SV)
def Env.get : Env → Nat → Option SV
  | [], _ => none
  | (j, v) :: E, i => if j = i then some v else Env.get E i
def Env.put (E : Env) : Option Nat → SV → Env
  | some d, v => (d, v) :: E
  | none, _ => E

/-- An own row: the type of its elements, what its first cells hold, how many it has; a map: its entries. -/
inductive SObj
  | own (t : TypeId) (c : Cont) (cap : Nat)
  | mp (t : TypeId) (l : List (SV × SV))
def SObj.low (n : Nat) : SObj → Prop
  | .own _ c _ => c.low n
  | .mp _ l => ∀ x ∈ l, x.1.low n ∧ x.2.low n

abbrev Heap := List (Nat × SObj)
def Heap.get : Heap → Nat → Option SObj
  | [], _ => none
  | (j, v) :: H, i => if j = i then some v else Heap.get H i
def Heap.del : Heap → Nat → Heap
  | [], _ => []
  | (j, o) :: H, i => if j = i then Heap.del H i else (j, o) :: Heap.del H i

/-- A literal of the program's text. -/
def SV.ofValue : Value → SV
  | .int .u8 n => if 0 ≤ n ∧ n < 256 then .c (.u8 (.ofNat n.toNat)) else .c (.raw (.int .u8 n))
  | .int .u32 n => if 0 ≤ n ∧ n < 4294967296 then .c (.u32 (.ofNat n.toNat)) else .c (.raw (.int .u32 n))
  | .int .u64 n => if 0 ≤ n ∧ n < 18446744073709551616 then .c (.u64 (.ofNat n.toNat)) else .c (.raw (.int .u64 n))
  | .int k n => .c (.int k n)
  | .bool b => .c (.bool b)
  | .string s => .c (.str s.data.toList)
  | .slice none 0 0 => .c .nils
  | v => .c (.raw v)

/-- What is known of a type. -/
inductive Ty
  | int (k : IntKind)
  | bool
  | str
  | slice (elem size bytes : Nat)
  | arr (n elem size : Nat) (zero : Cont)
  | struct (fields : List (Nat × Nat × TypeId)) (cells : Nat) (zero : Cont)
  | ptr
  | func
  | map (key elem : Nat)
  | other

/-- Is a value of the type one cell? -/
def Ty.one : Ty → Bool
  | .int _ | .bool | .str | .slice _ _ _ | .ptr | .func | .map _ _ => true
  | _ => false
def Ty.size : Ty → Nat
  | .arr n _ s _ => n * s
  | .struct _ n _ => n
  | _ => 1

def inR (k : IntKind) (n : Int) : Prop := k.min ≤ n ∧ n ≤ k.max

def amount : SV → (Int → Prop) → Prop
  | .c (.int _ n), K => K n
  | .c (.u8 n), K => K n.toNat
  | .c (.u32 n), K => K n.toNat
  | .c (.u64 n), K => K n.toNat
  | _, _ => False

def shl8 (x : UInt8) (n : Nat) : UInt8 := if n < 8 then x <<< n.toUInt8 else 0
def shr8 (x : UInt8) (n : Nat) : UInt8 := if n < 8 then x >>> n.toUInt8 else 0
def shl32 (x : UInt32) (n : Nat) : UInt32 := if n < 32 then x <<< n.toUInt32 else 0
def shr32 (x : UInt32) (n : Nat) : UInt32 := if n < 32 then x >>> n.toUInt32 else 0
def shl64 (x : UInt64) (n : Nat) : UInt64 := if n < 64 then x <<< n.toUInt64 else 0
def shr64 (x : UInt64) (n : Nat) : UInt64 := if n < 64 then x >>> n.toUInt64 else 0

def shiftS (left : Bool) (x : SV) (n : Int) (K : SV → Prop) : Prop :=
  0 ≤ n ∧ match x with
    | .c (.u8 x) => K (.c (.u8 (if left then shl8 x n.toNat else shr8 x n.toNat)))
    | .c (.u32 x) => K (.c (.u32 (if left then shl32 x n.toNat else shr32 x n.toNat)))
    | .c (.u64 x) => K (.c (.u64 (if left then shl64 x n.toNat else shr64 x n.toNat)))
    | .c (.int k x) => if left then inR k (x * 2 ^ n.toNat) ∧ n ≤ k.bits ∧ K (.c (.int k (x * 2 ^ n.toNat))) else n ≤ k.bits ∧ K (.c (.int k (x / 2 ^ n.toNat)))
    | _ => False

def intS (k : IntKind) (x y : Int) (K : SV → Prop) : BinOp → Prop
  | .add => inR k (x + y) ∧ K (.c (.int k (x + y)))
  | .sub => inR k (x - y) ∧ K (.c (.int k (x - y)))
  | .mul => inR k (x * y) ∧ K (.c (.int k (x * y)))
  | .quo => (0 ≤ x ∧ 0 < y ∧ x ≤ k.max) ∧ K (.c (.int k (x / y)))
  | .rem => (0 ≤ x ∧ 0 < y) ∧ K (.c (.int k (x % y)))
  | .eql => K (.c (.bool (decide (x = y))))
  | .neq => K (.c (.bool (!decide (x = y))))
  | .lss => K (.c (.bool (decide (x < y))))
  | .leq => K (.c (.bool (decide (x ≤ y))))
  | .gtr => K (.c (.bool (decide (y < x))))
  | .geq => K (.c (.bool (decide (y ≤ x))))
  | _ => False

def u8S (x y : UInt8) (K : SV → Prop) : BinOp → Prop
  | .add => K (.c (.u8 (x + y)))
  | .sub => K (.c (.u8 (x - y)))
  | .mul => K (.c (.u8 (x * y)))
  | .quo => y ≠ 0 ∧ K (.c (.u8 (x / y)))
  | .rem => y ≠ 0 ∧ K (.c (.u8 (x % y)))
  | .and => K (.c (.u8 (x &&& y)))
  | .or => K (.c (.u8 (x ||| y)))
  | .xor => K (.c (.u8 (x ^^^ y)))
  | .eql => K (.c (.bool (decide (x = y))))
  | .neq => K (.c (.bool (!decide (x = y))))
  | .lss => K (.c (.bool (decide (x < y))))
  | .leq => K (.c (.bool (decide (x ≤ y))))
  | .gtr => K (.c (.bool (decide (y < x))))
  | .geq => K (.c (.bool (decide (y ≤ x))))
  | _ => False

def u32S (x y : UInt32) (K : SV → Prop) : BinOp → Prop
  | .add => K (.c (.u32 (x + y)))
  | .sub => K (.c (.u32 (x - y)))
  | .mul => K (.c (.u32 (x * y)))
  | .quo => y ≠ 0 ∧ K (.c (.u32 (x / y)))
  | .rem => y ≠ 0 ∧ K (.c (.u32 (x % y)))
  | .and => K (.c (.u32 (x &&& y)))
  | .or => K (.c (.u32 (x ||| y)))
  | .xor => K (.c (.u32 (x ^^^ y)))
  | .eql => K (.c (.bool (decide (x = y))))
  | .neq => K (.c (.bool (!decide (x = y))))
  | .lss => K (.c (.bool (decide (x < y))))
  | .leq => K (.c (.bool (decide (x ≤ y))))
  | .gtr => K (.c (.bool (decide (y < x))))
  | .geq => K (.c (.bool (decide (y ≤ x))))
  | _ => False

def u64S (x y : UInt64) (K : SV → Prop) : BinOp → Prop
  | .add => K (.c (.u64 (x + y)))
  | .sub => K (.c (.u64 (x - y)))
  | .mul => K (.c (.u64 (x * y)))
  | .quo => y ≠ 0 ∧ K (.c (.u64 (x / y)))
  | .rem => y ≠ 0 ∧ K (.c (.u64 (x % y)))
  | .and => K (.c (.u64 (x &&& y)))
  | .or => K (.c (.u64 (x ||| y)))
  | .xor => K (.c (.u64 (x ^^^ y)))
  | .eql => K (.c (.bool (decide (x = y))))
  | .neq => K (.c (.bool (!decide (x = y))))
  | .lss => K (.c (.bool (decide (x < y))))
  | .leq => K (.c (.bool (decide (x ≤ y))))
  | .gtr => K (.c (.bool (decide (y < x))))
  | .geq => K (.c (.bool (decide (y ≤ x))))
  | _ => False

def strS (x y : List UInt8) (K : SV → Prop) : BinOp → Prop
  | .add => x.length + y.length ≤ 9223372036854775807 ∧ K (.c (.str (x ++ y)))
  | .eql => K (.c (.bool (decide (x = y))))
  | .neq => K (.c (.bool (!decide (x = y))))
  | _ => False

def boolS (x y : Bool) (K : SV → Prop) : BinOp → Prop
  | .eql => K (.c (.bool (decide (x = y))))
  | .neq => K (.c (.bool (!decide (x = y))))
  | _ => False

/-- Two arrays of integers: equal as lists. -/
def arrEqS (ty : Nat → Ty) (n : Nat) (e : TypeId) (x y : Cont) (K : Bool → Prop) : Prop :=
  match x, y with
  | .u8s l, .u8s m => ty e = .int .u8 ∧ l.length = n ∧ m.length = n ∧ K (decide (l = m))
  | .u32s l, .u32s m => ty e = .int .u32 ∧ l.length = n ∧ m.length = n ∧ K (decide (l = m))
  | .u64s l, .u64s m => ty e = .int .u64 ∧ l.length = n ∧ m.length = n ∧ K (decide (l = m))
  | .ints k l, .ints k' m => k = k' ∧ ty e = .int k ∧ l.length = n ∧ m.length = n ∧ K (decide (l = m))
  | _, _ => False
def arrS (ty : Nat → Ty) (n : Nat) (e : TypeId) (x y : Cont) (K : SV → Prop) : BinOp → Prop
  | .eql => arrEqS ty n e x y fun b => K (.c (.bool b))
  | .neq => arrEqS ty n e x y fun b => K (.c (.bool !b))
  | _ => False

def binS (ty : Nat → Ty) (op : BinOp) (t : TypeId) : SV → SV → (SV → Prop) → Prop
  | .c (.int k x), .c (.int k' y), K => k = k' ∧ intS k x y K op
  | .c (.u8 x), .c (.u8 y), K => u8S x y K op
  | .c (.u32 x), .c (.u32 y), K => u32S x y K op
  | .c (.u64 x), .c (.u64 y), K => u64S x y K op
  | .c (.str x), .c (.str y), K => strS x y K op
  | .c (.bool x), .c (.bool y), K => (ty t = .bool) ∧ boolS x y K op
  | .agg x, .agg y, K => match ty t with
    | .arr n e _ _ => arrS ty n e x y K op
    | _ => False
  | _, _, _ => False

def convS (k : IntKind) : SV → (SV → Prop) → Prop
  | .c (.u8 x), K => match k with
    | .u8 => K (.c (.u8 x))
    | .u32 => K (.c (.u32 x.toUInt32))
    | .u64 => K (.c (.u64 x.toUInt64))
    | .i64 => K (.c (.int .i64 x.toNat))
    | _ => False
  | .c (.u32 x), K => match k with
    | .u8 => K (.c (.u8 x.toUInt8))
    | .u32 => K (.c (.u32 x))
    | .u64 => K (.c (.u64 x.toUInt64))
    | .i64 => K (.c (.int .i64 x.toNat))
    | _ => False
  | .c (.u64 x), K => match k with
    | .u8 => K (.c (.u8 x.toUInt8))
    | .u32 => K (.c (.u32 x.toUInt32))
    | .u64 => K (.c (.u64 x))
    | .i64 => inR .i64 x.toNat ∧ K (.c (.int .i64 x.toNat))
    | _ => False
  | .c (.int _ x), K => match k with
    | .u8 => K (.c (.u8 (.ofInt x)))
    | .u32 => K (.c (.u32 (.ofInt x)))
    | .u64 => K (.c (.u64 (.ofInt x)))
    | k => inR k x ∧ K (.c (.int k x))
  | _, _ => False

def onV (x : Option SV) (K : SV → Prop) : Prop :=
  match x with
  | some v => K v
  | none => False

def onI (x : Option SV) (K : Int → Prop) : Prop :=
  match x with
  | some v => amount v K
  | none => False

/-- Package-level variables that are known data: what they hold. -/
def Env.ev (glob : Nat → Option Cont) (E : Env) : Operand → Option SV
  | .tmp t => E.get t
  | .const v => some (.ofValue v)
  | .global g => match glob g with
    | some c => some (.c (.dp c 0))
    | none => some (.c (.raw (.pointer (some ⟨g, 0, none⟩))))
  | .func f => some (.c (.clo f []))

/-- The cells that a pointer leads to. -/
def atS (H : Heap) (x : SV) (K : Cont → Nat → Prop) : Prop :=
  match x with
  | .c (.ptr id off) => match H.get id with
    | some (.own _ c _) => K c off
    | _ => False
  | .c (.dp c off) => K c off
  | _ => False

/-- A row's part: the row itself where it is the whole. -/
def wholeS (c : Cont) (off m : Nat) (K : Cont → Prop) : Prop := if off = 0 ∧ c.len = m then K c else K (c.sub off m)
theorem wholeS_ite {c : Cont} {off m : Nat} {K : Cont → Prop} (h : wholeS c off m K) : K (if off = 0 ∧ c.len = m then c else c.sub off m) := by
  unfold wholeS at h
  split at h <;> rename_i e
  · rw [if_pos e]; exact h
  · rw [if_neg e]; exact h

/-- A cell read. -/
def loadS (ty : Nat → Ty) (t : TypeId) (c : Cont) (off : Nat) (K : SV → Prop) : Prop :=
  match ty t with
  | .arr n _ s _ => 0 < n * s ∧ off + n * s ≤ c.len ∧ wholeS c off (n * s) fun c => K (.agg c)
  | .struct _ n _ => 0 < n ∧ off + n ≤ c.len ∧ wholeS c off n fun c => K (.agg c)
  | .other => False
  | _ => off < c.len ∧ K (.c (c.get off))

/-- A place j cells behind. -/
def shiftP (H : Heap) (x : SV) (j : Nat) (K : SV → Prop) : Prop :=
  match x with
  | .c (.ptr id off) => match H.get id with
    | some (.own _ c _) => off + j < c.len ∧ K (.c (.ptr id (off + j)))
    | _ => False
  | .c (.dp c off) => off + j < c.len ∧ K (.c (.dp c (off + j)))
  | _ => False

/-- The place of an element. -/
def indexS (ty : Nat → Ty) (H : Heap) (t : TypeId) (x : SV) (i : Int) (K : SV → Prop) : Prop :=
  match x with
  | .c (.slice id off len _) => match ty t with
    | .slice _ s _ => 0 ≤ i ∧ i < len ∧ shiftP H (.c (.ptr id off)) (i.toNat * s) K
    | _ => False
  | .c (.ds n c) => match ty t with
    | .slice _ s _ => 0 ≤ i ∧ i < n ∧ i.toNat * s < c.len ∧ K (.c (.dp c (i.toNat * s)))
    | _ => False
  | x => match ty t with
    | .arr n _ s _ => 0 ≤ i ∧ i < n ∧ shiftP H x (i.toNat * s) K
    | _ => False

def fieldAddrS (ty : Nat → Ty) (H : Heap) (t : TypeId) (x : SV) (f : Nat) (K : SV → Prop) : Prop :=
  match ty t with
  | .struct fs _ _ => match fs[f]? with
    | some (off, sz, _) => 0 < sz ∧ shiftP H x off K
    | none => False
  | _ => False

def fieldS (ty : Nat → Ty) (t : TypeId) (x : SV) (f : Nat) (K : SV → Prop) : Prop :=
  match ty t, x with
  | .struct fs _ _, .agg c => match fs[f]? with
    | some (off, sz, te) => off + sz ≤ c.len ∧ if (ty te).one then sz = 1 ∧ K (.c (c.get off)) else (match ty te with | .arr _ _ _ _ => True | .struct _ _ _ => True | _ => False) ∧ (ty te).size = sz ∧ 0 < sz ∧ K (.agg (c.sub off sz))
    | none => False
  | _, _ => False

/-- 'x[l:h]' of own cells. -/
def sliceTo (id off cap s : Nat) (l h : Int) (K : SV → Prop) : Prop :=
  0 ≤ l ∧ l ≤ h ∧ h ≤ cap ∧ K (.c (.slice id (off + l.toNat * s) (h.toNat - l.toNat) (cap - l.toNat)))
/-- 'x[l:h]' of data. -/
def cutS (n s : Nat) (c : Cont) (lo hi : Option Int) (K : SV → Prop) : Prop :=
  match lo, hi with
  | none, none => K (.c (.ds n c))
  | some l, none => 0 ≤ l ∧ l ≤ n ∧ K (.c (.ds (n - l.toNat) (c.drop (l.toNat * s))))
  | none, some h => 0 ≤ h ∧ h ≤ n ∧ K (.c (.ds h.toNat (c.take (h.toNat * s))))
  | some l, some h => 0 ≤ l ∧ l ≤ h ∧ h ≤ n ∧ K (.c (.ds (h.toNat - l.toNat) (c.sub (l.toNat * s) ((h.toNat - l.toNat) * s))))

def sliceS (ty : Nat → Ty) (H : Heap) (t : TypeId) (x : SV) (lo hi : Option Int) (K : SV → Prop) : Prop :=
  match x with
  | .c (.slice id off len cap) => match ty t with
    | .slice _ s _ => sliceTo id off cap s (lo.getD 0) (hi.getD len) K
    | _ => False
  | .c (.ds n c) => match ty t with
    | .slice _ s _ => c.len = n * s ∧ cutS n s c lo hi K
    | _ => False
  | .c .nils => match ty t with
    | .slice _ _ _ => lo.getD 0 = 0 ∧ hi.getD 0 = 0 ∧ K (.c .nils)
    | _ => False
  | .c (.ptr id off) => match ty t with
    | .arr n _ s _ => (match H.get id with | some (.own _ c _) => off < c.len | _ => False) ∧ sliceTo id off n s (lo.getD 0) (hi.getD n) K
    | _ => False
  | .c (.dp c off) => match ty t with
    | .arr n _ s _ => 0 < n * s ∧ off + n * s ≤ c.len ∧ (if off = 0 ∧ c.len = n * s then cutS n s c lo hi K else cutS n s (c.sub off (n * s)) lo hi K)
    | _ => False
  | .c (.str s) => match ty t with
    | .str => 0 ≤ lo.getD 0 ∧ lo.getD 0 ≤ hi.getD s.length ∧ hi.getD s.length ≤ s.length ∧ K (.c (.str ((s.drop (lo.getD 0).toNat).take ((hi.getD s.length).toNat - (lo.getD 0).toNat))))
    | _ => False
  | _ => False

def indexV (ty : Nat → Ty) (t : TypeId) (x : SV) (i : Int) (K : SV → Prop) : Prop :=
  match x with
  | .agg c => match ty t with
    | .arr n e s _ => (ty e).one = true ∧ s = 1 ∧ c.len = n ∧ 0 ≤ i ∧ i < n ∧ K (.c (c.get i.toNat))
    | _ => False
  | .c (.str s) => match ty t with
    | .str => 0 ≤ i ∧ i < s.length ∧ K (.c (.u8 (s.getD i.toNat 0)))
    | _ => False
  | _ => False

def lenS (ty : Nat → Ty) (t : TypeId) (x : SV) (K : SV → Prop) : Prop :=
  match x with
  | .c (.slice _ _ len _) => match ty t with
    | .slice _ _ _ => K (.c (.int .i64 len))
    | _ => False
  | .c (.ds n _) => match ty t with
    | .slice _ _ _ => K (.c (.int .i64 n))
    | _ => False
  | .c .nils => match ty t with
    | .slice _ _ _ => K (.c (.int .i64 0))
    | _ => False
  | .c (.str s) => match ty t with
    | .str => K (.c (.int .i64 s.length))
    | _ => False
  | _ => False

/-- The cells of a slice (a string) that is read: how many elements, what they hold. -/
def srcS (H : Heap) (s : Nat) (x : SV) (K : Nat → Cont → Prop) : Prop :=
  match x with
  | .c .nils => K 0 (.cells [])
  | .c (.ds n c) => c.len = n * s ∧ K n c
  | .c (.slice id off m _) => match H.get id with
    | some (.own _ c _) => off + m * s ≤ c.len ∧ wholeS c off (m * s) fun c => K m c
    | _ => False
  | .c (.str t) => s = 1 ∧ K t.length (.u8s t)
  | _ => False

/-- Bytes as a string. -/
def convStrS (ty : Nat → Ty) (H : Heap) (e : Nat) (x : SV) (K : SV → Prop) : Prop :=
  match ty e with
  | .int .u8 => (match x with | .c (.str _) => False | _ => True) ∧ srcS H 1 x fun _ c => match c with
    | .u8s l => K (.c (.str l))
    | .cells [] => K (.c (.str []))
    | _ => False
  | _ => False

def evs (glob : Nat → Option Cont) (E : Env) : List Operand → (List SV → Prop) → Prop
  | [], K => K []
  | x :: xs, K => onV (E.ev glob x) fun v => evs glob E xs fun vs => K (v :: vs)

/-- One-cell values. -/
def cellsOf : List SV → Option (List Cell)
  | [] => some []
  | .c (.clo _ _) :: _ => none
  | .c x :: vs => (cellsOf vs).map (x :: ·)
  | _ => none

/-- The zero value of a type, as cells. -/
def zeroC : Ty → Option Cont
  | .int .u8 => some (.u8s [0])
  | .int .u32 => some (.u32s [0])
  | .int .u64 => some (.u64s [0])
  | .int k => some (.ints k [0])
  | .bool => some (.bools [false])
  | .slice _ _ _ => some (.cells [.nils])
  | .str => some (.cells [.str []])
  | .func => some (.cells [.raw .nilFunc])
  | .map _ _ => some (.cells [.raw (.map none)])
  | .arr _ _ _ z => some z
  | .struct _ _ z => some z
  | _ => none
/-- Keys of maps. -/
def keyS (ty : Nat → Ty) (kt : Nat) : SV → Prop
  | .c (.int k _) => ty kt = .int k ∧ k ≠ .u8 ∧ k ≠ .u32 ∧ k ≠ .u64
  | .c (.u8 _) => ty kt = .int .u8
  | .c (.u32 _) => ty kt = .int .u32
  | .c (.u64 _) => ty kt = .int .u64
  | .c (.str _) => ty kt = .str
  | .c (.bool _) => ty kt = .bool
  | _ => False
def gotS (v : SV) (b ok : Bool) (K : SV → Prop) : Prop :=
  match ok with
  | false => K v
  | true => match v with
    | .c x => K (.tup [.c x, .c (.bool b)])
    | .agg c => K (.tup [.agg c, .c (.bool b)])
    | .tup _ => False
def zeroS (t : Ty) (K : SV → Prop) : Prop :=
  match zeroC t with
  | some z => match t.one with
    | true => K (.c (z.get 0))
    | false => K (.agg z)
  | none => False
/-- An entry is looked up: it is there, or it is not. -/
def lookS (ty : Nat → Ty) (H : Heap) (t : TypeId) (x k : SV) (ok : Bool) (K : SV → Prop) : Prop :=
  match ty t, x with
  | .map kt et, .c (.map id) => match H.get id with
    | some (.mp _ l) => keyS ty kt k ∧ (∀ p ∈ l, keyS ty kt p.1) ∧ (∀ (j : Nat) (v : SV), l[j]? = some (k, v) → gotS v true ok K) ∧ ((∀ p ∈ l, p.1 ≠ k) → zeroS (ty et) fun z => gotS z false ok K)
    | _ => False
  | _, _ => False

/-- A slice held against nil: of an empty one nothing is known. -/
def nilS (x : SV) (op : BinOp) (K : SV → Prop) : Prop :=
  match x, op with
  | .c .nils, .eql => K (.c (.bool true))
  | .c .nils, .neq => K (.c (.bool false))
  | .c (.ds n _), .eql => ∀ b, (b = true → n = 0) → K (.c (.bool b))
  | .c (.ds n _), .neq => ∀ b, (b = false → n = 0) → K (.c (.bool b))
  | _, _ => False

/-- The operations that leave the world alone. -/
def pureS (ty : Nat → Ty) (glob : Nat → Option Cont) (o : Oper) (E : Env) (H : Heap) (K : SV → Prop) : Prop :=
  match o.op with
  | .move x => onV (E.ev glob x) K
  | .assign x => onV (E.ev glob x) K
  | .pick c a b => onV (E.ev glob c) fun c => onV (E.ev glob a) fun a => onV (E.ev glob b) fun b =>
      match c, a, b with
      | .c (.bool c), .c (.bool a), .c (.bool b) => K (.c (.bool (if c then a else b)))
      | .c (.bool true), a, _ => K a
      | .c (.bool false), _, b => K b
      | _, _, _ => False
  | .binOp op t x (.const (.slice none 0 0)) _ => (match ty t with | .slice _ _ _ => True | _ => False) ∧ onV (E.ev glob x) fun x => nilS x op K
  | .binOp op t x y _ => match op with
    | .shl => onV (E.ev glob x) fun x => onV (E.ev glob y) fun y => amount y fun n => shiftS true x n K
    | .shr => onV (E.ev glob x) fun x => onV (E.ev glob y) fun y => amount y fun n => shiftS false x n K
    | op => onV (E.ev glob x) fun x => onV (E.ev glob y) fun y => binS ty op t x y K
  | .unOp op _ x => onV (E.ev glob x) fun x => match op, x with
    | .not, .c (.bool b) => K (.c (.bool !b))
    | .xor, .c (.u8 x) => K (.c (.u8 (~~~x)))
    | .xor, .c (.u32 x) => K (.c (.u32 (~~~x)))
    | .xor, .c (.u64 x) => K (.c (.u64 (~~~x)))
    | .neg, .c (.int k n) => inR k (-n) ∧ K (.c (.int k (-n)))
    | .neg, .c (.u64 x) => K (.c (.u64 (-x)))
    | _, _ => False
  | .convert src dst x => match ty src, ty dst with
    | .int _, .int k => onV (E.ev glob x) fun x => convS k x K
    | .slice e _ _, .str => onV (E.ev glob x) fun x => convStrS ty H e x K
    | _, _ => False
  | .load t a => onV (E.ev glob a) fun a => atS H a fun c off => loadS ty t c off K
  | .nilCheck x => onV (E.ev glob x) fun x => shiftP H x 0 K
  | .makeFunc (.func f) first caps => first.toList.length = 0 ∧ evs glob E caps.toList fun vs => match cellsOf vs with
    | some l => K (.c (.clo f l))
    | none => False
  | .indexAddr t x i => onV (E.ev glob x) fun x => onI (E.ev glob i) fun i => indexS ty H t x i K
  | .index t x i => onV (E.ev glob x) fun x => onI (E.ev glob i) fun i => indexV ty t x i K
  | .fieldAddr t x f => onV (E.ev glob x) fun x => fieldAddrS ty H t x f K
  | .field t x f => onV (E.ev glob x) fun x => fieldS ty t x f K
  | .slice t x lo hi none => onV (E.ev glob x) fun x =>
      match lo, hi with
      | none, none => sliceS ty H t x none none K
      | some l, none => onI (E.ev glob l) fun l => sliceS ty H t x (some l) none K
      | none, some h => onI (E.ev glob h) fun h => sliceS ty H t x none (some h) K
      | some l, some h => onI (E.ev glob l) fun l => onI (E.ev glob h) fun h => sliceS ty H t x (some l) (some h) K
  | .slice t x none (some h) (some m) => onV (E.ev glob x) fun x => onI (E.ev glob h) fun h => onI (E.ev glob m) fun m => (h = 0 ∧ m = 0) ∧ match ty t, x with
    | .slice _ _ _, .c (.ds _ _) => ∀ a, K (.c (.raw (.slice a 0 0)))
    | .slice _ _ _, .c .nils => K (.c .nils)
    | _, _ => False
  | .lookup t x i ok => onV (E.ev glob x) fun x => onV (E.ev glob i) fun i => lookS ty H t x i ok K
  | .extract t i => onV (E.ev glob t) fun t => match t with
    | .tup l => match l[i]? with
      | some p => K p.sv
      | none => False
    | _ => False
  | .call c => match c.callee, c.args.toList, c.argTypes.toList with
    | .builtin .len, [x], [t] => onV (E.ev glob x) fun x => lenS ty t x K
    | .builtin .min, [x, y], _ => onV (E.ev glob x) fun x => onV (E.ev glob y) fun y => match x, y with
      | .c (.int k x), .c (.int k' y) => k = k' ∧ K (.c (.int k (if y < x then y else x)))
      | _, _ => False
    | .builtin .max, [x, y], _ => onV (E.ev glob x) fun x => onV (E.ev glob y) fun y => match x, y with
      | .c (.int k x), .c (.int k' y) => k = k' ∧ K (.c (.int k (if x < y then y else x)))
      | _, _ => False
    | _, _, _ => False
  | _ => False

end Go.Ab
