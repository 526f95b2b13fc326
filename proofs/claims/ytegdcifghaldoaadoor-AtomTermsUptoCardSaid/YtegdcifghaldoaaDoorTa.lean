/- Contracts of functions and plain facts, part 1. -/
import Derived.WalkKit
import Derived.BigQuiet
import Derived.Deep.QuietTactic
import Derived.WalkLawsBesides
import Derived.DeepKeys3
import Derived.Laws.StructEq
import Derived.Laws.BytesArg
import Derived.Laws.BytesString
import Derived.MapKept
import Derived.Lib.AppendZeros
import Derived.Lib.ConvBytes
import Derived.Laws.MakeOwn
namespace Go.Ab
set_option linter.all false

/- A value of one cell: a scalar; data ('ds' a slice whose cells nobody will write, 'dp' a pointer into such cells, 'clo' a closure); a place in an own row ('ptr', 'slice'), known by the row's name. -/
mutual
inductive Cell
 |int (k:IntKind) (n:Int)
 |bool (b:Bool)
 |u8 (x:UInt8)
 |u32 (x:UInt32)
 |u64 (x:UInt64)
 |str (s:List UInt8)
 |nils
 |raw (v:Value)
 |ds (n:Nat) (c:Cont)
 |dp (c:Cont) (off:Nat)
 |clo (f:FuncId) (caps:List Cell)
 |ptr (id off:Nat)
 |slice (id off len cap:Nat)
 |map (id:Nat)
inductive Cont
 |u8s (l:List UInt8)
 |u32s (l:List UInt32)
 |u64s (l:List UInt64)
 |ints (k:IntKind) (l:List Int)
 |bools (l:List Bool)
 |cells (l:List Cell)
end
instance:Inhabited Cell:=⟨.nils⟩
instance:Inhabited Cont:=⟨.cells []⟩

abbrev Val:=Nat→Option Nat
def place(β:Val)(id off:Nat):Option Addr:=(β id).map fun b=>⟨b,off,none⟩

def Cell.flat:Cell→Bool
 | .int _ _| .bool _| .u8 _| .u32 _| .u64 _| .str _| .nils| .raw _=>true
 |_=>false
def Cell.val:Cell→Value
 | .int k n=>.int k n
 | .bool b=>.bool b
 | .u8 x=>.int .u8 x.toNat
 | .u32 x=>.int .u32 x.toNat
 | .u64 x=>.int .u64 x.toNat
 | .str s=>.string ⟨s.toArray⟩
 | .nils=>.slice none 0 0
 | .raw v=>v
 |_=>.tuple #[]

def Cell.pureB:Cell→Bool
 | .ptr _ _| .slice _ _ _ _| .map _=>false
 |_=>true

def Cell.solid:Cell→Prop
 | .raw v=>v.oneCell'=true
 |_=>True

def Cont.len:Cont→Nat
 | .u8s l=>l.length
 | .u32s l=>l.length
 | .u64s l=>l.length
 | .ints _ l=>l.length
 | .bools l=>l.length
 | .cells l=>l.length

def Cont.get:Cont→Nat→Cell
 | .u8s l,i=>.u8 (l.getD i 0)
 | .u32s l,i=>.u32 (l.getD i 0)
 | .u64s l,i=>.u64 (l.getD i 0)
 | .ints k l,i=>.int k (l.getD i 0)
 | .bools l,i=>.bool (l.getD i false)
 | .cells l,i=>l.getD i .nils

def Cont.list:Cont→List Cell
 | .u8s l=>l.map .u8
 | .u32s l=>l.map .u32
 | .u64s l=>l.map .u64
 | .ints k l=>l.map (.int k)
 | .bools l=>l.map .bool
 | .cells l=>l

def Cont.vals(c:Cont):List Value:=c.list.map Cell.val
def z8t:List Cell→Bool
 |[]=>true
 |x::l=>x.flat&&z8t l
def Cont.flat:Cont→Bool
 | .cells l=>z8t l
 |_=>true

def Cont.set:Cont→Nat→Cell→(Cont→Prop)→Prop
 | .u8s l,i,.u8 x,K=>K (.u8s (l.set i x))
 | .u32s l,i,.u32 x,K=>K (.u32s (l.set i x))
 | .u64s l,i,.u64 x,K=>K (.u64s (l.set i x))
 | .ints k l,i,.int k' x,K=>k=k'∧K (.ints k (l.set i x))
 | .bools l,i,.bool x,K=>K (.bools (l.set i x))
 | .cells l,i,x,K=>x.solid∧K (.cells (l.set i x))
 |_,_,_,_=>False

def z5c:List Cell→Prop
 |[]=>True
 |x::l=>x.solid∧z5c l
def Cont.solid:Cont→Prop
 | .cells l=>z5c l
 |_=>True

def Cont.app:Cont→Cont→(Cont→Prop)→Prop
 | .u8s l,.u8s m,K=>K (.u8s (l++m))
 | .u32s l,.u32s m,K=>K (.u32s (l++m))
 | .u64s l,.u64s m,K=>K (.u64s (l++m))
 | .ints k l,.ints k' m,K=>k=k'∧K (.ints k (l++m))
 | .bools l,.bools m,K=>K (.bools (l++m))
 | .cells l,.cells m,K=>K (.cells (l++m))
 |k,.cells [],K=>K k
 |_,_,_=>False

def Cont.take:Cont→Nat→Cont
 | .u8s l,n=>.u8s (l.take n)
 | .u32s l,n=>.u32s (l.take n)
 | .u64s l,n=>.u64s (l.take n)
 | .ints k l,n=>.ints k (l.take n)
 | .bools l,n=>.bools (l.take n)
 | .cells l,n=>.cells (l.take n)
def Cont.drop:Cont→Nat→Cont
 | .u8s l,n=>.u8s (l.drop n)
 | .u32s l,n=>.u32s (l.drop n)
 | .u64s l,n=>.u64s (l.drop n)
 | .ints k l,n=>.ints k (l.drop n)
 | .bools l,n=>.bools (l.drop n)
 | .cells l,n=>.cells (l.drop n)
def Cont.sub(c:Cont)(i n:Nat):Cont:=(c.drop i).take n

def Cont.empty:Cont→Cont
 | .u8s _=>.u8s []
 | .u32s _=>.u32s []
 | .u64s _=>.u64s []
 | .ints k _=>.ints k []
 | .bools _=>.bools []
 | .cells _=>.cells []

def z9p{α:Type}(l:List α)(n:Nat):List α:=match l with|[x]=>List.replicate n x|l=>(List.replicate n l).flatten
def Cont.times:Cont→Nat→Cont
 | .u8s l,n=>.u8s (z9p l n)
 | .u32s l,n=>.u32s (z9p l n)
 | .u64s l,n=>.u64s (z9p l n)
 | .ints k l,n=>.ints k (z9p l n)
 | .bools l,n=>.bools (z9p l n)
 | .cells l,n=>.cells (z9p l n)

inductive Part
 |c (x:Cell)
 |agg (c:Cont)
inductive SV
 |c (x:Cell)
 |agg (c:Cont)
 |tup (l:List Part)
def Part.sv:Part→SV
 | .c x=>.c x
 | .agg k=>.agg k

def SV.flat:SV→Bool
 | .c x=>x.flat
 | .agg k=>k.flat
 | .tup _=>false
def SV.val:SV→Value
 | .c x=>x.val
 | .agg k=>.agg k.vals.toArray
 | .tup _=>.tuple #[]

def Cell.low1(n:Nat):Cell→Prop
 | .ptr id _| .slice id _ _ _| .map id=>id< n
 |_=>True
def Cell.low(n:Nat):Cell→Prop
 | .clo _ caps=>∀ x∈caps,x.low1 n
 |x=>x.low1 n
def Cont.low(n:Nat):Cont→Prop
 | .cells l=>∀ x∈l,Cell.low n x
 |_=>True
def Part.low(n:Nat):Part→Prop
 | .c x=>x.low n
 | .agg k=>k.low n
def SV.low(n:Nat):SV→Prop
 | .c x=>x.low n
 | .agg k=>k.low n
 | .tup l=>∀ x∈l,Part.low n x

abbrev Env:=List (Nat×SV)
def Env.get:Env→Nat→Option SV
 |[],_=>none
 |(j,v)::E,i=>if j=i then some v else Env.get E i
def Env.put(E:Env):Option Nat→SV→Env
 |some d,v=>(d,v)::E
 |none,_=>E

inductive SObj
 |own (t:TypeId) (c:Cont) (cap:Nat)
 |mp (t:TypeId) (l:List (SV×SV))
def SObj.low(n:Nat):SObj→Prop
 | .own _ c _=>c.low n
 | .mp _ l=>∀ x∈l,x.1.low n∧x.2.low n

abbrev Heap:=List (Nat×SObj)
def Heap.get:Heap→Nat→Option SObj
 |[],_=>none
 |(j,v)::H,i=>if j=i then some v else Heap.get H i
def Heap.del:Heap→Nat→Heap
 |[],_=>[]
 |(j,o)::H,i=>if j=i then Heap.del H i else(j,o)::Heap.del H i

def SV.ofValue:Value→SV
 | .int .u8 n=>if 0≤n∧n< 256 then .c (.u8 (.ofNat n.toNat))else .c (.raw (.int .u8 n))
 | .int .u32 n=>if 0≤n∧n< 4294967296 then .c (.u32 (.ofNat n.toNat))else .c (.raw (.int .u32 n))
 | .int .u64 n=>if 0≤n∧n< 18446744073709551616 then .c (.u64 (.ofNat n.toNat))else .c (.raw (.int .u64 n))
 | .int k n=>.c (.int k n)
 | .bool b=>.c (.bool b)
 | .string s=>.c (.str s.data.toList)
 | .slice none 0 0=>.c .nils
 |v=>.c (.raw v)

inductive Ty
 |int (k:IntKind)
 |bool
 |str
 |slice (elem size bytes:Nat)
 |arr (n elem size:Nat) (zero:Cont)
 |struct (fields:List (Nat×Nat×TypeId)) (cells:Nat) (zero:Cont)
 |ptr
 |func
 |map (key elem:Nat)
 |other

def Ty.one:Ty→Bool
 | .int _| .bool| .str| .slice _ _ _| .ptr| .func| .map _ _=>true
 |_=>false
def Ty.size:Ty→Nat
 | .arr n _ s _=>n*s
 | .struct _ n _=>n
 |_=>1

def inR(k:IntKind)(n:Int):Prop:=k.min≤n∧n≤k.max

def zan:SV→(Int→Prop)→Prop
 | .c (.int _ n),K=>K n
 | .c (.u8 n),K=>K n.toNat
 | .c (.u32 n),K=>K n.toNat
 | .c (.u64 n),K=>K n.toNat
 |_,_=>False

def shl8(x:UInt8)(n:Nat):UInt8:=if n< 8 then x <<< n.toUInt8 else 0
def shr8(x:UInt8)(n:Nat):UInt8:=if n< 8 then x >>> n.toUInt8 else 0
def shl32(x:UInt32)(n:Nat):UInt32:=if n< 32 then x <<< n.toUInt32 else 0
def shr32(x:UInt32)(n:Nat):UInt32:=if n< 32 then x >>> n.toUInt32 else 0
def shl64(x:UInt64)(n:Nat):UInt64:=if n< 64 then x <<< n.toUInt64 else 0
def shr64(x:UInt64)(n:Nat):UInt64:=if n< 64 then x >>> n.toUInt64 else 0

def zi8(left:Bool)(x:SV)(n:Int)(K:SV→Prop):Prop:=
 0≤n∧match x with
  | .c (.u8 x)=>K (.c (.u8 (if left then shl8 x n.toNat else shr8 x n.toNat)))
  | .c (.u32 x)=>K (.c (.u32 (if left then shl32 x n.toNat else shr32 x n.toNat)))
  | .c (.u64 x)=>K (.c (.u64 (if left then shl64 x n.toNat else shr64 x n.toNat)))
  | .c (.int k x)=>if left then inR k (x*2 ^ n.toNat)∧n≤k.bits∧K (.c (.int k (x*2 ^ n.toNat)))else n≤k.bits∧K (.c (.int k (x / 2 ^ n.toNat)))
  |_=>False

def andS(k:IntKind)(x y:Int)(K:SV→Prop):Prop:=
 match k with
 | .i64=>(IntKind.i64= .i64∧0≤x∧0≤y∧x≤9223372036854775807∧y≤9223372036854775807)∧K (.c (.int .i64 ((x.toNat &&& y.toNat:Nat):Int)))
 | .u16=>(0≤x∧0≤y∧x≤65535∧y≤65535)∧K (.c (.int .u16 ((x.toNat &&& y.toNat:Nat):Int)))
 |_=>False
def intS(k:IntKind)(x y:Int)(K:SV→Prop):BinOp→Prop
 | .add=>inR k (x+y)∧K (.c (.int k (x+y)))
 | .sub=>inR k (x - y)∧K (.c (.int k (x - y)))
 | .mul=>inR k (x*y)∧K (.c (.int k (x*y)))
 | .quo=>(0≤x∧0< y∧x≤k.max)∧K (.c (.int k (x / y)))
 | .rem=>(0≤x∧0< y)∧K (.c (.int k (x%y)))
 | .eql=>K (.c (.bool (decide (x=y))))
 | .neq=>K (.c (.bool (!decide (x=y))))
 | .lss=>K (.c (.bool (decide (x< y))))
 | .leq=>K (.c (.bool (decide (x≤y))))
 | .gtr=>K (.c (.bool (decide (y< x))))
 | .geq=>K (.c (.bool (decide (y≤x))))
 | .or=>(k= .i64∧0≤x∧0≤y∧x≤9223372036854775807∧y≤9223372036854775807)∧K (.c (.int k ((x.toNat ||| y.toNat:Nat):Int)))
 | .and=>andS k x y K
 |_=>False

def u8S(x y:UInt8)(K:SV→Prop):BinOp→Prop
 | .add=>K (.c (.u8 (x+y)))
 | .sub=>K (.c (.u8 (x - y)))
 | .mul=>K (.c (.u8 (x*y)))
 | .quo=>y≠0∧K (.c (.u8 (x / y)))
 | .rem=>y≠0∧K (.c (.u8 (x%y)))
 | .and=>K (.c (.u8 (x &&& y)))
 | .or=>K (.c (.u8 (x ||| y)))
 | .xor=>K (.c (.u8 (x ^^^ y)))
 | .eql=>K (.c (.bool (decide (x=y))))
 | .neq=>K (.c (.bool (!decide (x=y))))
 | .lss=>K (.c (.bool (decide (x< y))))
 | .leq=>K (.c (.bool (decide (x≤y))))
 | .gtr=>K (.c (.bool (decide (y< x))))
 | .geq=>K (.c (.bool (decide (y≤x))))
 |_=>False

def u32S(x y:UInt32)(K:SV→Prop):BinOp→Prop
 | .add=>K (.c (.u32 (x+y)))
 | .sub=>K (.c (.u32 (x - y)))
 | .mul=>K (.c (.u32 (x*y)))
 | .quo=>y≠0∧K (.c (.u32 (x / y)))
 | .rem=>y≠0∧K (.c (.u32 (x%y)))
 | .and=>K (.c (.u32 (x &&& y)))
 | .or=>K (.c (.u32 (x ||| y)))
 | .xor=>K (.c (.u32 (x ^^^ y)))
 | .eql=>K (.c (.bool (decide (x=y))))
 | .neq=>K (.c (.bool (!decide (x=y))))
 | .lss=>K (.c (.bool (decide (x< y))))
 | .leq=>K (.c (.bool (decide (x≤y))))
 | .gtr=>K (.c (.bool (decide (y< x))))
 | .geq=>K (.c (.bool (decide (y≤x))))
 |_=>False

def u64S(x y:UInt64)(K:SV→Prop):BinOp→Prop
 | .add=>K (.c (.u64 (x+y)))
 | .sub=>K (.c (.u64 (x - y)))
 | .mul=>K (.c (.u64 (x*y)))
 | .quo=>y≠0∧K (.c (.u64 (x / y)))
 | .rem=>y≠0∧K (.c (.u64 (x%y)))
 | .and=>K (.c (.u64 (x &&& y)))
 | .or=>K (.c (.u64 (x ||| y)))
 | .xor=>K (.c (.u64 (x ^^^ y)))
 | .eql=>K (.c (.bool (decide (x=y))))
 | .neq=>K (.c (.bool (!decide (x=y))))
 | .lss=>K (.c (.bool (decide (x< y))))
 | .leq=>K (.c (.bool (decide (x≤y))))
 | .gtr=>K (.c (.bool (decide (y< x))))
 | .geq=>K (.c (.bool (decide (y≤x))))
 |_=>False

def strS(x y:List UInt8)(K:SV→Prop):BinOp→Prop
 | .add=>x.length+y.length≤9223372036854775807∧K (.c (.str (x++y)))
 | .eql=>K (.c (.bool (decide (x=y))))
 | .neq=>K (.c (.bool (!decide (x=y))))
 |_=>False

def boolS(x y:Bool)(K:SV→Prop):BinOp→Prop
 | .eql=>K (.c (.bool (decide (x=y))))
 | .neq=>K (.c (.bool (!decide (x=y))))
 |_=>False

def zee(ty:Nat→Ty)(n:Nat)(e:TypeId)(x y:Cont)(K:Bool→Prop):Prop:=
 match x,y with
 | .u8s l,.u8s m=>ty e= .int .u8∧l.length=n∧m.length=n∧K (decide (l=m))
 | .u32s l,.u32s m=>ty e= .int .u32∧l.length=n∧m.length=n∧K (decide (l=m))
 | .u64s l,.u64s m=>ty e= .int .u64∧l.length=n∧m.length=n∧K (decide (l=m))
 | .ints k l,.ints k' m=>k=k'∧ty e= .int k∧l.length=n∧m.length=n∧K (decide (l=m))
 |_,_=>False
def arrS(ty:Nat→Ty)(n:Nat)(e:TypeId)(x y:Cont)(K:SV→Prop):BinOp→Prop
 | .eql=>zee ty n e x y fun b=>K (.c (.bool b))
 | .neq=>zee ty n e x y fun b=>K (.c (.bool !b))
 |_=>False

def Cell.lit:Cell→Bool
 | .int _ _| .bool _| .u8 _| .u32 _| .u64 _| .str _=>true
 |_=>false
def Cont.lits(c:Cont):Bool:=c.list.all Cell.lit&&decide (c.len≤16)
def likeS:Cell→Cell→Prop
 | .int k _,.int k' n=>k'=k∧inR k n
 | .bool _,.bool _=>True
 | .u8 _,.u8 _=>True
 | .u32 _,.u32 _=>True
 | .u64 _,.u64 _=>True
 | .str _,.str s=>s.length≤maxLen
 |_,_=>False
def zef:List Cell→List Cell→Prop
 |[],[]=>True
 |a::as,b::bs=>likeS a b∧zef as bs
 |_,_=>False
def likeC:Cont→Cont→Prop
 | .u8s l,.u8s m=>m.length=l.length
 | .u32s l,.u32s m=>m.length=l.length
 | .u64s l,.u64s m=>m.length=l.length
 | .ints k l,.ints k' m=>k'=k∧m.length=l.length∧∀ x∈m,inR k x
 | .bools l,.bools m=>m.length=l.length
 | .cells l,.cells m=>zef l m
 |_,_=>False
def Ty.wide:Ty→Option Cont
 | .arr _ _ _ z=>some z
 | .struct _ _ z=>some z
 |_=>none
def wideS(t:Ty)(c:Cont):Prop:=
 match t.wide with
 |some z=>z.lits=true∧likeC z c
 |none=>False
def zg8(t:Ty)(x y:Cont)(K:SV→Prop):BinOp→Prop
 | .eql=>wideS t x∧wideS t y∧∀ b:Bool,(b=true↔x=y)→K (.c (.bool b))
 | .neq=>wideS t x∧wideS t y∧∀ b:Bool,(b=true↔x=y)→K (.c (.bool !b))
 |_=>False

def binS(ty:Nat→Ty)(op:BinOp)(t:TypeId):SV→SV→(SV→Prop)→Prop
 | .c (.int k x),.c (.int k' y),K=>k=k'∧intS k x y K op
 | .c (.u8 x),.c (.u8 y),K=>u8S x y K op
 | .c (.u32 x),.c (.u32 y),K=>u32S x y K op
 | .c (.u64 x),.c (.u64 y),K=>u64S x y K op
 | .c (.str x),.c (.str y),K=>strS x y K op
 | .c (.bool x),.c (.bool y),K=>(ty t= .bool)∧boolS x y K op
 | .agg x,.agg y,K=>match ty t with
  | .arr n e _ _=>arrS ty n e x y K op
  | .struct fs n z=>zg8 (.struct fs n z) x y K op
  |_=>False
 |_,_,_=>False

def convS(k:IntKind):SV→(SV→Prop)→Prop
 | .c (.u8 x),K=>match k with
  | .u8=>K (.c (.u8 x))
  | .u32=>K (.c (.u32 x.toUInt32))
  | .u64=>K (.c (.u64 x.toUInt64))
  | .i64=>K (.c (.int .i64 x.toNat))
  |_=>False
 | .c (.u32 x),K=>match k with
  | .u8=>K (.c (.u8 x.toUInt8))
  | .u32=>K (.c (.u32 x))
  | .u64=>K (.c (.u64 x.toUInt64))
  | .i64=>K (.c (.int .i64 x.toNat))
  |_=>False
 | .c (.u64 x),K=>match k with
  | .u8=>K (.c (.u8 x.toUInt8))
  | .u32=>K (.c (.u32 x.toUInt32))
  | .u64=>K (.c (.u64 x))
  | .i64=>inR .i64 x.toNat∧K (.c (.int .i64 x.toNat))
  |_=>False
 | .c (.int _ x),K=>match k with
  | .u8=>K (.c (.u8 (.ofInt x)))
  | .u32=>K (.c (.u32 (.ofInt x)))
  | .u64=>K (.c (.u64 (.ofInt x)))
  |k=>inR k x∧K (.c (.int k x))
 |_,_=>False

def onV(x:Option SV)(K:SV→Prop):Prop:=
 match x with
 |some v=>K v
 |none=>False

def onI(x:Option SV)(K:Int→Prop):Prop:=
 match x with
 |some v=>zan v K
 |none=>False

def Env.ev(glob:Nat→Option Cont)(E:Env):Operand→Option SV
 | .tmp t=>E.get t
 | .const v=>some (.ofValue v)
 | .global g=>match glob g with
  |some c=>some (.c (.dp c 0))
  |none=>some (.c (.raw (.pointer (some ⟨g,0,none⟩))))
 | .func f=>if f< 1000000 then some (.c (.clo f []))else none

def atS(H:Heap)(x:SV)(K:Cont→Nat→Prop):Prop:=
 match x with
 | .c (.ptr id off)=>match H.get id with
  |some (.own _ c _)=>K c off
  |_=>False
 | .c (.dp c off)=>K c off
 |_=>False

def z6p(c:Cont)(off m:Nat)(K:Cont→Prop):Prop:=if off=0∧c.len=m then K c else K (c.sub off m)
def loadS(ty:Nat→Ty)(t:TypeId)(c:Cont)(off:Nat)(K:SV→Prop):Prop:=
 match ty t with
 | .arr n _ s _=>0< n*s∧off+n*s≤c.len∧z6p c off (n*s) fun c=>K (.agg c)
 | .struct _ n _=>0< n∧off+n≤c.len∧z6p c off n fun c=>K (.agg c)
 | .other=>False
 |_=>off< c.len∧K (.c (c.get off))

def zcf(H:Heap)(x:SV)(j:Nat)(K:SV→Prop):Prop:=
 match x with
 | .c (.ptr id off)=>match H.get id with
  |some (.own _ c _)=>off+j< c.len∧K (.c (.ptr id (off+j)))
  |_=>False
 | .c (.dp c off)=>off+j< c.len∧K (.c (.dp c (off+j)))
 |_=>False

def zlm(ty:Nat→Ty)(H:Heap)(t:TypeId)(x:SV)(i:Int)(K:SV→Prop):Prop:=
 match x with
 | .c (.slice id off len _)=>match ty t with
  | .slice _ s _=>0≤i∧i< len∧zcf H (.c (.ptr id off)) (i.toNat*s) K
  |_=>False
 | .c (.ds n c)=>match ty t with
  | .slice _ s _=>0≤i∧i< n∧i.toNat*s< c.len∧K (.c (.dp c (i.toNat*s)))
  |_=>False
 |x=>match ty t with
  | .arr n _ s _=>0≤i∧i< n∧zcf H x (i.toNat*s) K
  |_=>False

def z8u(ty:Nat→Ty)(H:Heap)(t:TypeId)(x:SV)(f:Nat)(K:SV→Prop):Prop:=
 match ty t with
 | .struct fs _ _=>match fs[f]? with
  |some (off,sz,_)=>0< sz∧zcf H x off K
  |none=>False
 |_=>False

def zln(ty:Nat→Ty)(t:TypeId)(x:SV)(f:Nat)(K:SV→Prop):Prop:=
 match ty t,x with
 | .struct fs _ _,.agg c=>match fs[f]? with
  |some (off,sz,te)=>off+sz≤c.len∧if(ty te).one then sz=1∧K (.c (c.get off)) else(match ty te with| .arr _ _ _ _=>True| .struct _ _ _=>True|_=>False)∧(ty te).size=sz∧0< sz∧K (.agg (c.sub off sz))
  |none=>False
 |_,_=>False

def zlo(id off cap s:Nat)(l h:Int)(K:SV→Prop):Prop:=
 0≤l∧l≤h∧h≤cap∧K (.c (.slice id (off+l.toNat*s) (h.toNat - l.toNat) (cap - l.toNat)))
def cutS(n s:Nat)(c:Cont)(lo hi:Option Int)(K:SV→Prop):Prop:=
 match lo,hi with
 |none,none=>K (.c (.ds n c))
 |some l,none=>0≤l∧l≤n∧K (.c (.ds (n - l.toNat) (c.drop (l.toNat*s))))
 |none,some h=>0≤h∧h≤n∧K (.c (.ds h.toNat (c.take (h.toNat*s))))
 |some l,some h=>0≤l∧l≤h∧h≤n∧K (.c (.ds (h.toNat - l.toNat) (c.sub (l.toNat*s) ((h.toNat - l.toNat)*s))))

def zcg(ty:Nat→Ty)(H:Heap)(t:TypeId)(x:SV)(lo hi:Option Int)(K:SV→Prop):Prop:=
 match x with
 | .c (.slice id off len cap)=>match ty t with
  | .slice _ s _=>zlo id off cap s (lo.getD 0) (hi.getD len) K
  |_=>False
 | .c (.ds n c)=>match ty t with
  | .slice _ s _=>c.len=n*s∧cutS n s c lo hi K
  |_=>False
 | .c .nils=>match ty t with
  | .slice _ _ _=>lo.getD 0=0∧hi.getD 0=0∧K (.c .nils)
  |_=>False
 | .c (.ptr id off)=>match ty t with
  | .arr n _ s _=>(match H.get id with|some (.own _ c _)=>off< c.len|_=>False)∧zlo id off n s (lo.getD 0) (hi.getD n) K
  |_=>False
 | .c (.dp c off)=>match ty t with
  | .arr n _ s _=>0< n*s∧off+n*s≤c.len∧(if off=0∧c.len=n*s then cutS n s c lo hi K else cutS n s (c.sub off (n*s)) lo hi K)
  |_=>False
 | .c (.str s)=>match ty t with
  | .str=>0≤lo.getD 0∧lo.getD 0≤hi.getD s.length∧hi.getD s.length≤s.length∧K (.c (.str ((s.drop (lo.getD 0).toNat).take ((hi.getD s.length).toNat - (lo.getD 0).toNat))))
  |_=>False
 |_=>False

def zlp(ty:Nat→Ty)(t:TypeId)(x:SV)(i:Int)(K:SV→Prop):Prop:=
 match x with
 | .agg c=>match ty t with
  | .arr n e s _=>(ty e).one=true∧s=1∧c.len=n∧0≤i∧i< n∧K (.c (c.get i.toNat))
  |_=>False
 | .c (.str s)=>match ty t with
  | .str=>0≤i∧i< s.length∧K (.c (.u8 (s.getD i.toNat 0)))
  |_=>False
 |_=>False

def lenS(ty:Nat→Ty)(t:TypeId)(x:SV)(K:SV→Prop):Prop:=
 match x with
 | .c (.slice _ _ len _)=>match ty t with
  | .slice _ _ _=>K (.c (.int .i64 len))
  |_=>False
 | .c (.ds n _)=>match ty t with
  | .slice _ _ _=>K (.c (.int .i64 n))
  |_=>False
 | .c .nils=>match ty t with
  | .slice _ _ _=>K (.c (.int .i64 0))
  |_=>False
 | .c (.str s)=>match ty t with
  | .str=>K (.c (.int .i64 s.length))
  |_=>False
 |_=>False

def srcS(H:Heap)(s:Nat)(x:SV)(K:Nat→Cont→Prop):Prop:=
 match x with
 | .c .nils=>K 0 (.cells [])
 | .c (.ds n c)=>c.len=n*s∧K n c
 | .c (.slice id off m _)=>match H.get id with
  |some (.own _ c _)=>off+m*s≤c.len∧z6p c off (m*s) fun c=>K m c
  |_=>False
 | .c (.str t)=>s=1∧K t.length (.u8s t)
 |_=>False

def zd6(ty:Nat→Ty)(H:Heap)(e:Nat)(x:SV)(K:SV→Prop):Prop:=
 match ty e with
 | .int .u8=>(match x with| .c (.str _)=>False|_=>True)∧srcS H 1 x fun _ c=>match c with
  | .u8s l=>K (.c (.str l))
  | .cells []=>K (.c (.str []))
  |_=>False
 |_=>False

def evs(glob:Nat→Option Cont)(E:Env):List Operand→(List SV→Prop)→Prop
 |[],K=>K []
 |x::xs,K=>onV (E.ev glob x) fun v=>evs glob E xs fun vs=>K (v::vs)

def cellsOf:List SV→Option (List Cell)
 |[]=>some []
 | .c (.clo _ _)::_=>none
 | .c x::vs=>(cellsOf vs).map (x:: ·)
 |_=>none

def zeroC:Ty→Option Cont
 | .int .u8=>some (.u8s [0])
 | .int .u32=>some (.u32s [0])
 | .int .u64=>some (.u64s [0])
 | .int k=>some (.ints k [0])
 | .bool=>some (.bools [false])
 | .slice _ _ _=>some (.cells [.nils])
 | .str=>some (.cells [.str []])
 | .func=>some (.cells [.raw .nilFunc])
 | .map _ _=>some (.cells [.raw (.map none)])
 | .arr _ _ _ z=>some z
 | .struct _ _ z=>some z
 |_=>none
def keyS(ty:Nat→Ty)(kt:Nat):SV→Prop
 | .agg c=>wideS (ty kt) c
 | .c (.int k _)=>ty kt= .int k∧k≠ .u8∧k≠ .u32∧k≠ .u64
 | .c (.u8 _)=>ty kt= .int .u8
 | .c (.u32 _)=>ty kt= .int .u32
 | .c (.u64 _)=>ty kt= .int .u64
 | .c (.str _)=>ty kt= .str
 | .c (.bool _)=>ty kt= .bool
 |_=>False
def gotS(v:SV)(b ok:Bool)(K:SV→Prop):Prop:=
 match ok with
 |false=>K v
 |true=>match v with
  | .c x=>K (.tup [.c x,.c (.bool b)])
  | .agg c=>K (.tup [.agg c,.c (.bool b)])
  | .tup _=>False
def zeroS(t:Ty)(K:SV→Prop):Prop:=
 match zeroC t with
 |some z=>match t.one with
  |true=>K (.c (z.get 0))
  |false=>K (.agg z)
 |none=>False
def lookS(ty:Nat→Ty)(H:Heap)(t:TypeId)(x k:SV)(ok:Bool)(K:SV→Prop):Prop:=
 match ty t,x with
 | .map kt et,.c (.map id)=>match H.get id with
  |some (.mp _ l)=>keyS ty kt k∧(∀ p∈l,keyS ty kt p.1)∧(∀ (j:Nat) (v:SV),l[j]? =some (k,v)→gotS v true ok K)∧((∀ p∈l,p.1≠k)→zeroS (ty et) fun z=>gotS z false ok K)
  |_=>False
 |_,_=>False

def nilS(x:SV)(op:BinOp)(K:SV→Prop):Prop:=
 match x,op with
 | .c .nils,.eql=>K (.c (.bool true))
 | .c .nils,.neq=>K (.c (.bool false))
 | .c (.ds n _),.eql=>∀ b,(b=true→n=0)→K (.c (.bool b))
 | .c (.ds n _),.neq=>∀ b,(b=false→n=0)→K (.c (.bool b))
 |_,_=>False

def capS(ty:Nat→Ty)(t:TypeId)(x:SV)(K:SV→Prop):Prop:=
 match ty t,x with
 | .slice _ _ _,.c .nils=>K (.c (.int .i64 0))
 | .slice _ _ _,.c (.slice _ _ _ cap)=>K (.c (.int .i64 cap))
 |_,_=>False
def recvS(v:SV)(K:List Cell→Prop):Prop:=
 match v with
 | .agg (.cells l)=>(∀ x∈l,∀ f cs,x≠Cell.clo f cs)∧K l
 |_=>False
def pureS(ty:Nat→Ty)(glob:Nat→Option Cont)(o:Oper)(E:Env)(H:Heap)(K:SV→Prop):Prop:=
 match o.op with
 | .move x=>onV (E.ev glob x) K
 | .assign x=>onV (E.ev glob x) K
 | .pick c a b=>onV (E.ev glob c) fun c=>onV (E.ev glob a) fun a=>onV (E.ev glob b) fun b=>
   match c,a,b with
   | .c (.bool c),.c (.bool a),.c (.bool b)=>K (.c (.bool (if c then a else b)))
   | .c (.bool true),a,_=>K a
   | .c (.bool false),_,b=>K b
   |_,_,_=>False
 | .binOp op t x (.const (.slice none 0 0)) _=>(match ty t with| .slice _ _ _=>True|_=>False)∧onV (E.ev glob x) fun x=>nilS x op K
 | .binOp op t x y _=>match op with
  | .shl=>onV (E.ev glob x) fun x=>onV (E.ev glob y) fun y=>zan y fun n=>zi8 true x n K
  | .shr=>onV (E.ev glob x) fun x=>onV (E.ev glob y) fun y=>zan y fun n=>zi8 false x n K
  |op=>onV (E.ev glob x) fun x=>onV (E.ev glob y) fun y=>binS ty op t x y K
 | .unOp op _ x=>onV (E.ev glob x) fun x=>match op,x with
  | .not,.c (.bool b)=>K (.c (.bool !b))
  | .xor,.c (.u8 x)=>K (.c (.u8 (~~~x)))
  | .xor,.c (.u32 x)=>K (.c (.u32 (~~~x)))
  | .xor,.c (.u64 x)=>K (.c (.u64 (~~~x)))
  | .neg,.c (.int k n)=>inR k (-n)∧K (.c (.int k (-n)))
  | .neg,.c (.u64 x)=>K (.c (.u64 (-x)))
  |_,_=>False
 | .convert src dst x=>match ty src,ty dst with
  | .int _,.int k=>onV (E.ev glob x) fun x=>convS k x K
  | .slice e _ _,.str=>onV (E.ev glob x) fun x=>zd6 ty H e x K
  |_,_=>False
 | .load t a=>onV (E.ev glob a) fun a=>atS H a fun c off=>loadS ty t c off K
 | .nilCheck x=>onV (E.ev glob x) fun x=>zcf H x 0 K
 | .makeFunc (.func f) first caps=>f< 1000000∧match first.toList,caps.toList with
  |[],cs=>evs glob E cs fun vs=>match cellsOf vs with
   |some l=>K (.c (.clo f l))
   |none=>False
  |[r],[]=>onV (E.ev glob r) fun v=>recvS v fun l=>K (.c (.clo (f+1000000) l))
  |_,_=>False
 | .indexAddr t x i=>onV (E.ev glob x) fun x=>onI (E.ev glob i) fun i=>zlm ty H t x i K
 | .index t x i=>onV (E.ev glob x) fun x=>onI (E.ev glob i) fun i=>zlp ty t x i K
 | .fieldAddr t x f=>onV (E.ev glob x) fun x=>z8u ty H t x f K
 | .field t x f=>onV (E.ev glob x) fun x=>zln ty t x f K
 | .slice t x lo hi none=>onV (E.ev glob x) fun x=>
   match lo,hi with
   |none,none=>zcg ty H t x none none K
   |some l,none=>onI (E.ev glob l) fun l=>zcg ty H t x (some l) none K
   |none,some h=>onI (E.ev glob h) fun h=>zcg ty H t x none (some h) K
   |some l,some h=>onI (E.ev glob l) fun l=>onI (E.ev glob h) fun h=>zcg ty H t x (some l) (some h) K
 | .slice t x none (some h) (some m)=>onV (E.ev glob x) fun x=>onI (E.ev glob h) fun h=>onI (E.ev glob m) fun m=>(h=0∧m=0)∧match ty t,x with
  | .slice _ _ _,.c (.ds _ _)=>∀ a,K (.c (.raw (.slice a 0 0)))
  | .slice _ _ _,.c .nils=>K (.c .nils)
  |_,_=>False
 | .lookup t x i ok=>onV (E.ev glob x) fun x=>onV (E.ev glob i) fun i=>lookS ty H t x i ok K
 | .extract t i=>onV (E.ev glob t) fun t=>match t with
  | .tup l=>match l[i]? with
   |some p=>K p.sv
   |none=>False
  |_=>False
 | .sliceToArrayPointer t x=>onV (E.ev glob x) fun x=>match ty t,x with
  | .arr m _ s _,.c (.ds l c)=>(0< m*s∧m≤l∧m*s≤c.len)∧K (.c (.dp (c.take (m*s)) 0))
  |_,_=>False
 | .call c=>match c.callee,c.args.toList,c.argTypes.toList with
  | .builtin .cap,[x],[t]=>onV (E.ev glob x) fun x=>capS ty t x K
  | .builtin .len,[x],[t]=>onV (E.ev glob x) fun x=>lenS ty t x K
  | .builtin .min,[x,y],_=>onV (E.ev glob x) fun x=>onV (E.ev glob y) fun y=>match x,y with
   | .c (.int k x),.c (.int k' y)=>k=k'∧K (.c (.int k (if y< x then y else x)))
   |_,_=>False
  | .builtin .max,[x,y],_=>onV (E.ev glob x) fun x=>onV (E.ev glob y) fun y=>match x,y with
   | .c (.int k x),.c (.int k' y)=>k=k'∧K (.c (.int k (if x< y then y else x)))
   |_,_=>False
  | .builtin .max,[x,y,z],_=>onV (E.ev glob x) fun x=>onV (E.ev glob y) fun y=>onV (E.ev glob z) fun z=>match x,y,z with
   | .c (.int k x),.c (.int k' y),.c (.int k'' z)=>(k=k'∧k=k'')∧K (.c (.int k (max (max x y) z)))
   |_,_,_=>False
  |_,_,_=>False
 |_=>False

end Go.Ab

namespace Go.Ab
set_option linter.all false
open Go.RowKit

def cloV(f:FuncId)(vs:List Value):Value:=if f< 1000000 then .func (.func f) #[] vs.toArray else .func (.func (f - 1000000)) #[.agg vs.toArray] #[]
theorem zao{f:FuncId}(h:f< 1000000)(vs:List Value):cloV f vs= .func (.func f) #[] vs.toArray:=if_pos h
theorem zi9(f:FuncId)(vs:List Value):(cloV f vs).oneCell'=true:=by unfold cloV;split<;>rfl
inductive CellD (I:Nat→Prop) (w:World):Cell→Value→Prop
 |flat (x:Cell):x.flat=true→CellD I w x x.val
 |ds0 (c:Cont) (a:Option Addr) (cap:Nat):c.len=0→CellD I w (.ds 0 c) (.slice a 0 cap)
 | ds (n:Nat) (c:Cont) (b off cap:Nat) (f:Nat→Value):n≤cap→I b→0< c.len→(∀ j,j< c.len→w.cell? ⟨b,off+j,none⟩=some (f j))→(∀ j,j< c.len→CellD I w (c.get j) (f j))→
   CellD I w (.ds n c) (.slice (some ⟨b,off,none⟩) n cap)
 | dp (c:Cont) (off b k:Nat) (f:Nat→Value):I b→off< c.len→(∀ j,j< c.len→w.cell? ⟨b,k+j,none⟩=some (f j))→(∀ j,j< c.len→CellD I w (c.get j) (f j))→
   CellD I w (.dp c off) (.pointer (some ⟨b,k+off,none⟩))
 |clo (f:FuncId) (caps:List Cell) (g:Nat→Value):(∀ j,j< caps.length→CellD I w (caps.getD j .nils) (g j))→CellD I w (.clo f caps) (cloV f ((List.range caps.length).map g))

def DatAt(I:Nat→Prop)(w:World)(c:Cont)(b off:Nat):Prop:=
 I b∧∀ j,j< c.len→∃ x,w.cell? ⟨b,off+j,none⟩=some x∧CellD I w (c.get j) x

def Ext(I:Nat→Prop)(w:World)(I':Nat→Prop)(w':World):Prop:=∀ b,I b→I' b∧w'.heap[b]? =w.heap[b]?
theorem Ext.refl(I:Nat→Prop)(w:World):Ext I w I w:=fun _ h=>⟨h,rfl⟩
theorem Ext.trans{I I' I'':Nat→Prop}{w w' w'':World}(h:Ext I w I' w')(k:Ext I' w' I'' w''):Ext I w I'' w'':=fun b hb=>⟨(k b (h b hb).1).1,(k b (h b hb).1).2.trans (h b hb).2⟩
theorem Ext.widen{I I':Nat→Prop}{w:World}(h:∀ b,I b→I' b):Ext I w I' w:=fun b hb=>⟨h b hb,rfl⟩
theorem Ext.cell{I I':Nat→Prop}{w w':World}(h:Ext I w I' w'){b off:Nat}(hb:I b):w'.cell? ⟨b,off,none⟩=w.cell? ⟨b,off,none⟩:=World.cell?_of_block (h b hb).2

section
variable {I I':Nat→Prop} {w w':World}
theorem CellD.mono(h:Ext I w I' w'){x:Cell}{v:Value}(hx:CellD I w x v):CellD I' w' x v:=by
 induction hx with
 |flat x hx=>exact .flat x hx
 |ds0 c a cap hc=>exact .ds0 c a cap hc
 |ds n c b off cap f hn hb hc hcell _ ih=>exact .ds n c b off cap f hn (h b hb).1 hc (fun j hj=>(h.cell hb).trans (hcell j hj)) ih
 |dp c off b k f hb hoff hcell _ ih=>exact .dp c off b k f (h b hb).1 hoff (fun j hj=>(h.cell hb).trans (hcell j hj)) ih
 |clo f caps g _ ih=>exact .clo f caps g ih

theorem DatAt.mono(h:Ext I w I' w'){c:Cont}{b off:Nat}(hx:DatAt I w c b off):DatAt I' w' c b off:=
 ⟨(h b hx.1).1,fun j hj=>let ⟨x,h1,h2⟩:=hx.2 j hj;⟨x,(h.cell hx.1).trans h1,h2.mono h⟩⟩

theorem CellD.of_flat{x:Cell}{v:Value}(hx:x.flat=true)(h:CellD I w x v):v=x.val:=by
 cases h<;>first|rfl|(simp[Cell.flat]at hx)

theorem CellD.ds_inv{n:Nat}{c:Cont}{v:Value}(h:CellD I w (.ds n c) v):∃ a cap,v= .slice a n cap∧n≤cap∧((c.len=0∧n=0)∨∃ b off,a=some ⟨b,off,none⟩∧DatAt I w c b off):=by
 cases h with
 |flat x hx=>simp[Cell.flat]at hx
 |ds0 c a cap hc=>exact⟨a,cap,rfl,Nat.zero_le _,.inl ⟨hc,rfl⟩⟩
 |ds n c b off cap f hn hb hc hcell he=>exact⟨_,cap,rfl,hn,.inr ⟨b,off,rfl,hb,fun j hj=>⟨f j,hcell j hj,he j hj⟩⟩⟩

theorem CellD.dp_inv{off:Nat}{c:Cont}{v:Value}(h:CellD I w (.dp c off) v):∃ b k,v= .pointer (some ⟨b,k+off,none⟩)∧off< c.len∧DatAt I w c b k:=by
 cases h with
 |flat x hx=>simp[Cell.flat]at hx
 |dp c off b k f hb hoff hcell he=>exact⟨b,k,rfl,hoff,hb,fun j hj=>⟨f j,hcell j hj,he j hj⟩⟩

theorem DatAt.ds{n cap:Nat}{c:Cont}{b off:Nat}(h:DatAt I w c b off)(hn:n≤cap)(h0:c.len=0→n=0):CellD I w (.ds n c) (.slice (some ⟨b,off,none⟩) n cap):=by
 by_cases hc:0< c.len
 ·have key:∀ j,∃ x,j< c.len→w.cell? ⟨b,off+j,none⟩=some x∧CellD I w (c.get j) x:=fun j=>by
   by_cases hj:j< c.len
   ·obtain⟨x,hx⟩:=h.2 j hj;exact⟨x,fun _=>hx⟩
   ·exact⟨undef,fun h=>absurd h hj⟩
  exact .ds n c b off cap (fun j=>(key j).choose) hn h.1 hc (fun j hj=>((key j).choose_spec hj).1) fun j hj=>((key j).choose_spec hj).2
 ·have:=h0 (by omega)
  subst this;exact .ds0 c _ cap (by omega)

theorem DatAt.dp{c:Cont}{b k off:Nat}(h:DatAt I w c b k)(ho:off< c.len):CellD I w (.dp c off) (.pointer (some ⟨b,k+off,none⟩)):=by
 have key:∀ j,∃ x,j< c.len→w.cell? ⟨b,k+j,none⟩=some x∧CellD I w (c.get j) x:=fun j=>by
  by_cases hj:j< c.len
  ·obtain⟨x,hx⟩:=h.2 j hj;exact⟨x,fun _=>hx⟩
  ·exact⟨undef,fun h=>absurd h hj⟩
 exact .dp c off b k (fun j=>(key j).choose) h.1 ho (fun j hj=>((key j).choose_spec hj).1) fun j hj=>((key j).choose_spec hj).2
end


def Cell.rel1(β:Val)(I:Nat→Prop)(w:World):Cell→Value→Prop
 | .ptr id off,v=>v= .pointer (place β id off)
 | .slice id off len cap,v=>len≤cap∧∃ off',v= .slice (place β id off') len cap∧(off'=off∨cap=0)
 | .map id,v=>v= .map (β id)
 |x,v=>CellD I w x v
def Cell.rel(β:Val)(I:Nat→Prop)(w:World):Cell→Value→Prop
 | .clo f caps,v=>∃ g:Nat→Value,v=cloV f ((List.range caps.length).map g)∧∀ j,j< caps.length→(caps.getD j .nils).rel1 β I w (g j)
 |x,v=>x.rel1 β I w v
def Cont.rel(β:Val)(I:Nat→Prop)(w:World)(c:Cont)(vs:List Value):Prop:=
 vs.length=c.len∧∀ j,j< c.len→∃ v,vs[j]? =some v∧(c.get j).rel β I w v
def Part.rel(β:Val)(I:Nat→Prop)(w:World):Part→Value→Prop
 | .c x,v=>x.rel β I w v
 | .agg k,v=>∃ vs,v= .agg vs.toArray∧k.rel β I w vs
def SV.rel(β:Val)(I:Nat→Prop)(w:World):SV→Value→Prop
 | .c x,v=>x.rel β I w v
 | .agg k,v=>∃ vs,v= .agg vs.toArray∧k.rel β I w vs
 | .tup l,v=>∃ vs:List Value,v= .tuple vs.toArray∧vs.length=l.length∧∀ (j:Nat) p,l[j]? =some p→∃ u,vs[j]? =some u∧p.rel β I w u

section
variable {β β':Val} {I I':Nat→Prop} {w w':World} {n:Nat}

theorem zap{id off:Nat}(h:∀ i,i< n→β' i=β i)(hi:id< n):place β' id off=place β id off:=by simp[place,h id hi]

theorem Cell.rel1_of{x:Cell}{v:Value}(h:CellD I w x v):x.rel1 β I w v:=by
 cases x<;>first|exact h|(cases h;rename_i hx;simp[Cell.flat]at hx)
theorem Cell.clo_or(x:Cell):(∃ f caps,x= .clo f caps)∨∀ f caps,x≠ .clo f caps:=by
 cases x<;>first|exact .inl ⟨_,_,rfl⟩|exact .inr fun _ _=>by simp
theorem Cell.rel_eq{x:Cell}(h:∀ f caps,x≠ .clo f caps){v:Value}:x.rel β I w v=x.rel1 β I w v:=by
 cases x<;>first|rfl|exact absurd rfl (h _ _)
theorem Cell.low_eq{x:Cell}(h:∀ f caps,x≠ .clo f caps):x.low n=x.low1 n:=by
 cases x<;>first|rfl|exact absurd rfl (h _ _)
theorem Cell.rel_of{x:Cell}{v:Value}(h:CellD I w x v):x.rel β I w v:=by
 rcases Cell.clo_or x with⟨f,caps,rfl⟩|hx
 ·cases h with
  |flat x hx=>simp[Cell.flat]at hx
  |clo f caps g hg=>exact⟨g,rfl,fun j hj=>Cell.rel1_of (hg j hj)⟩
 ·rw[Cell.rel_eq hx];exact Cell.rel1_of h
theorem Cell.rel_flat{x:Cell}(hx:x.flat=true){v:Value}:x.rel β I w v↔v=x.val:=by
 constructor
 ·intro h
  cases x<;>first|exact CellD.of_flat hx h|(simp[Cell.flat]at hx)
 ·rintro rfl;exact Cell.rel_of (.flat x hx)
theorem Cell.rel_val{x:Cell}(hx:x.flat=true):x.rel β I w x.val:=(Cell.rel_flat hx).2 rfl

theorem Cell.rel1_mono(hβ:∀ i,i< n→β' i=β i)(hE:Ext I w I' w'){x:Cell}{v:Value}(hx:x.low1 n)(h:x.rel1 β I w v):x.rel1 β' I' w' v:=by
 cases x with
 |ptr id off=>simp only[Cell.rel1]at h ⊢;rw[zap hβ hx];exact h
 |slice id off len cap=>
  obtain⟨h1,off',h2,h3⟩:=h;exact⟨h1,off',by rw[zap hβ hx];exact h2,h3⟩
 |map id=>simp only[Cell.rel1]at h ⊢;rw[hβ id hx];exact h
 |_=>exact CellD.mono hE h
theorem z2g{α:Type}{l:List α}{j:Nat}{d:α}(h:j< l.length):l.getD j d∈l:=by
 rw[List.getD_eq_getElem?_getD,List.getElem?_eq_getElem h];exact List.getElem_mem h
theorem Cell.rel_mono(hβ:∀ i,i< n→β' i=β i)(hE:Ext I w I' w'){x:Cell}{v:Value}(hx:x.low n)(h:x.rel β I w v):x.rel β' I' w' v:=by
 rcases Cell.clo_or x with⟨f,caps,rfl⟩|hc
 ·obtain⟨g,h1,h2⟩:=h
  exact⟨g,h1,fun j hj=>Cell.rel1_mono hβ hE (hx _ (z2g hj)) (h2 j hj)⟩
 ·rw[Cell.rel_eq hc]at h ⊢
  rw[Cell.low_eq hc]at hx;exact Cell.rel1_mono hβ hE hx h

theorem Cont.get_low{c:Cont}(h:c.low n)(i:Nat):(c.get i).low n:=by
 cases c with
 | cells l=>
  simp only[Cont.get]
  by_cases hi:i< l.length
  ·exact h _ (z2g hi)
  ·simp only[List.getD_eq_getElem?_getD,List.getElem?_eq_none (Nat.le_of_not_lt hi),Option.getD_none]
   trivial
 |_=>trivial
theorem Cont.rel_mono(hβ:∀ i,i< n→β' i=β i)(hE:Ext I w I' w'){c:Cont}{vs:List Value}(hc:c.low n)(h:c.rel β I w vs):c.rel β' I' w' vs:=
 ⟨h.1,fun j hj=>let ⟨v,h1,h2⟩:=h.2 j hj;⟨v,h1,Cell.rel_mono hβ hE (Cont.get_low hc j) h2⟩⟩
theorem Part.rel_mono(hβ:∀ i,i< n→β' i=β i)(hE:Ext I w I' w'){x:Part}{v:Value}(hx:x.low n)(h:x.rel β I w v):x.rel β' I' w' v:=by
 cases x with
 |c x=>exact Cell.rel_mono (x:=x) hβ hE hx h
 |agg c=>obtain⟨vs,h1,h2⟩:=h;exact⟨vs,h1,Cont.rel_mono hβ hE hx h2⟩
theorem SV.rel_mono(hβ:∀ i,i< n→β' i=β i)(hE:Ext I w I' w'){x:SV}{v:Value}(hx:x.low n)(h:x.rel β I w v):x.rel β' I' w' v:=by
 cases x with
 |c x=>exact Cell.rel_mono (x:=x) hβ hE hx h
 |agg c=>obtain⟨vs,h1,h2⟩:=h;exact⟨vs,h1,Cont.rel_mono hβ hE hx h2⟩
 |tup l=>
  obtain⟨vs,h1,h2,h3⟩:=h;exact⟨vs,h1,h2,fun j p hp=>let ⟨u,hu,hr⟩:=h3 j p hp;⟨u,hu,Part.rel_mono hβ hE (hx p (List.mem_of_getElem? hp)) hr⟩⟩

theorem Cell.low1_mono{m:Nat}(h:n≤m){x:Cell}(hx:x.low1 n):x.low1 m:=by
 cases x<;>first|trivial|exact Nat.lt_of_lt_of_le hx h
theorem Cell.low_mono{m:Nat}(h:n≤m){x:Cell}(hx:x.low n):x.low m:=by
 rcases Cell.clo_or x with⟨f,caps,rfl⟩|hc
 ·exact fun y hy=>Cell.low1_mono h (hx y hy)
 ·rw[Cell.low_eq hc]at hx ⊢;exact Cell.low1_mono h hx
theorem Cont.low_mono{m:Nat}(h:n≤m){c:Cont}(hc:c.low n):c.low m:=by
 cases c with
 |cells l=>exact fun x hx=>Cell.low_mono h (hc x hx)
 |_=>trivial
theorem Part.low_mono{m:Nat}(h:n≤m){x:Part}(hx:x.low n):x.low m:=by
 cases x with
 |c x=>exact Cell.low_mono (x:=x) h hx
 |agg k=>exact Cont.low_mono (c:=k) h hx
theorem SV.low_mono{m:Nat}(h:n≤m){x:SV}(hx:x.low n):x.low m:=by
 cases x with
 |c x=>exact Cell.low_mono (x:=x) h hx
 |agg k=>exact Cont.low_mono (c:=k) h hx
 |tup l=>exact fun p hp=>Part.low_mono h (hx p hp)
theorem SObj.low_mono{m:Nat}(h:n≤m){o:SObj}(ho:o.low n):o.low m:=by
 cases o with
 |own t c cap=>exact Cont.low_mono (c:=c) h ho
 |mp t l=>exact fun x hx=>⟨SV.low_mono h (ho x hx).1,SV.low_mono h (ho x hx).2⟩
theorem Cell.flat_low{x:Cell}(h:x.flat=true):x.low n:=by
 cases x<;>first|trivial|(simp[Cell.flat]at h)

theorem Cont.list_length(c:Cont):c.list.length=c.len:=by cases c<;>simp[Cont.list,Cont.len]
theorem Cont.list_get{c:Cont}{i:Nat}(h:i< c.len):c.list[i]? =some (c.get i):=by
 cases c<;>simp only[Cont.len]at h<;>simp[Cont.list,Cont.get,h]
theorem Cont.vals_length(c:Cont):c.vals.length=c.len:=by simp[Cont.vals,Cont.list_length]
theorem Cont.vals_get{c:Cont}{i:Nat}(h:i< c.len):c.vals[i]? =some (c.get i).val:=by simp[Cont.vals,Cont.list_get h]
theorem z61:∀ {l:List Cell},z8t l=true→∀ x∈l,x.flat=true
 |[],_,x,hx=>by cases hx
 |y::l,h,x,hx=>by
  simp only[z8t,Bool.and_eq_true]at h
  rcases List.mem_cons.1 hx with rfl|hx
  ·exact h.1
  ·exact z61 h.2 x hx
theorem Cont.get_flat{c:Cont}(h:c.flat=true){j:Nat}(hj:j< c.len):(c.get j).flat=true:=by
 cases c with
 |cells l=>exact z61 h _ (z2g hj)
 |_=>rfl
theorem Cont.rel_flat{c:Cont}(h:c.flat=true){vs:List Value}:c.rel β I w vs↔vs=c.vals:=by
 constructor
 ·rintro ⟨h1,h2⟩
  apply List.ext_getElem?;intro j
  by_cases hj:j< c.len
  ·obtain⟨v,hv,hr⟩:=h2 j hj
   rw[hv,Cont.vals_get hj,(Cell.rel_flat (Cont.get_flat h hj)).1 hr]
  ·rw[List.getElem?_eq_none (by omega),List.getElem?_eq_none (by rw[Cont.vals_length];omega)]
 ·rintro rfl
  exact⟨Cont.vals_length c,fun j hj=>⟨_,Cont.vals_get hj,Cell.rel_val (Cont.get_flat h hj)⟩⟩
theorem Cont.flat_low{c:Cont}(h:c.flat=true):c.low n:=by
 cases c with
 |cells l=>exact fun x hx=>Cell.flat_low (z61 h x hx)
 |_=>trivial
theorem SV.rel_flat{x:SV}(hx:x.flat=true){v:Value}:x.rel β I w v↔v=x.val:=by
 cases x with
 |c x=>exact Cell.rel_flat (x:=x) hx
 |agg c=>
  constructor
  ·rintro ⟨vs,rfl,h⟩;rw[(Cont.rel_flat hx).1 h];rfl
  ·rintro rfl;exact⟨_,rfl,(Cont.rel_flat hx).2 rfl⟩
 |tup l=>simp[SV.flat]at hx
theorem SV.flat_low{x:SV}(h:x.flat=true):x.low n:=by
 cases x with
 |c x=>exact Cell.flat_low (x:=x) h
 |agg k=>exact Cont.flat_low (c:=k) h
 |tup l=>simp[SV.flat]at h

theorem SV.ofValue_flat(v:Value):(SV.ofValue v).flat=true:=by
 unfold SV.ofValue
 split<;>first|rfl|(split<;>rfl)
theorem SV.ofValue_val(v:Value):(SV.ofValue v).val=v:=by
 unfold SV.ofValue
 split<;>try rfl
 all_goals
  split
  ·rename_i h
   simp only[SV.val,Cell.val,UInt8.toNat_ofNat',UInt32.toNat_ofNat',UInt64.toNat_ofNat']
   congr 1
   omega
  ·rfl

def SV.as(v v':SV):Prop:=∀ (β:Val) (I:Nat→Prop) (w:World) (x:Value) (n:Nat),v.rel β I w x→v.low n→v'.rel β I w x∧v'.low n
theorem SV.as_refl(v:SV):v.as v:=fun _ _ _ _ _ h k=>⟨h,k⟩
theorem Part.sv_rel{p:Part}{v:Value}(h:p.rel β I w v):p.sv.rel β I w v:=by cases p<;>exact h
theorem Part.sv_low{p:Part}(h:p.low n):p.sv.low n:=by cases p<;>exact h

theorem Cont.take_len(c:Cont)(m:Nat):(c.take m).len=min m c.len:=by cases c<;>simp[Cont.take,Cont.len]
theorem Cont.drop_len(c:Cont)(m:Nat):(c.drop m).len=c.len - m:=by cases c<;>simp[Cont.drop,Cont.len]
theorem Cont.sub_len(c:Cont)(i m:Nat):(c.sub i m).len=min m (c.len - i):=by rw[Cont.sub,Cont.take_len,Cont.drop_len]
theorem Cont.take_get(c:Cont){m j:Nat}(h:j< m):(c.take m).get j=c.get j:=by
 cases c<;>simp[Cont.take,Cont.get,List.getD_eq_getElem?_getD,List.getElem?_take_of_lt h]
theorem Cont.drop_get(c:Cont)(m j:Nat):(c.drop m).get j=c.get (m+j):=by
 cases c<;>simp[Cont.drop,Cont.get,List.getD_eq_getElem?_getD]
theorem Cont.sub_get(c:Cont){i m j:Nat}(h:j< m):(c.sub i m).get j=c.get (i+j):=by rw[Cont.sub,Cont.take_get _ h,Cont.drop_get]
theorem Cont.take_low{c:Cont}(h:c.low n)(m:Nat):(c.take m).low n:=by
 cases c with
 |cells l=>exact fun x hx=>h x (List.mem_of_mem_take hx)
 |_=>trivial
theorem Cont.drop_low{c:Cont}(h:c.low n)(m:Nat):(c.drop m).low n:=by
 cases c with
 |cells l=>exact fun x hx=>h x (List.mem_of_mem_drop hx)
 |_=>trivial
theorem Cont.sub_low{c:Cont}(h:c.low n)(i m:Nat):(c.sub i m).low n:=Cont.take_low (Cont.drop_low h i) m
theorem Cont.rel_sub{c:Cont}{vs:List Value}(h:c.rel β I w vs){i m:Nat}(hm:i+m≤c.len):(c.sub i m).rel β I w ((vs.drop i).take m):=by
 refine⟨by rw[Cont.sub_len,List.length_take,List.length_drop,h.1],fun j hj=>?_⟩;rw[Cont.sub_len]at hj;obtain⟨v,hv,hr⟩:=h.2 (i+j) (by omega);exact⟨v,by rw[List.getElem?_take_of_lt (by omega),List.getElem?_drop];exact hv,by rw[Cont.sub_get _ (by omega)];exact hr⟩
theorem DatAt.sub{c:Cont}{b off:Nat}(h:DatAt I w c b off){i m:Nat}(hm:i+m≤c.len):DatAt I w (c.sub i m) b (off+i):=by
 refine⟨h.1,fun j hj=>?_⟩;rw[Cont.sub_len]at hj;rw[Cont.sub_get _ (by omega),Nat.add_assoc];exact h.2 _ (by omega)
theorem DatAt.take{c:Cont}{b off:Nat}(h:DatAt I w c b off)(m:Nat):DatAt I w (c.take m) b off:=by
 refine⟨h.1,fun j hj=>?_⟩;rw[Cont.take_len]at hj;rw[Cont.take_get _ (by omega)];exact h.2 _ (by omega)
theorem DatAt.drop{c:Cont}{b off:Nat}(h:DatAt I w c b off)(i:Nat):DatAt I w (c.drop i) b (off+i):=by
 refine⟨h.1,fun j hj=>?_⟩;rw[Cont.drop_len]at hj;rw[Cont.drop_get,Nat.add_assoc];exact h.2 _ (by omega)

def SObj.Holds(β:Val)(I:Nat→Prop)(w:World)(ad:Option Nat):SObj→Prop
 | .own t c cap=>(∃ b arr,ad=some b∧w.heap[b]? =some (.cells arr t (0,0))∧arr.size=cap∧c.len≤cap∧c.rel β I w (arr.toList.take c.len))∨(ad=none∧c.len=0∧cap=0)
 | .mp _ l=>∃ b es ck,ad=some b∧w.heap[b]? =some (.map es ck)∧es.size=l.length∧∀ (j:Nat) x,l[j]? =some x→∃ e:MapEntry,es[j]? =some e∧x.1.rel β I w e.key∧x.2.rel β I w e.val

theorem SObj.Holds.lt{ad:Option Nat}{o:SObj}(h:o.Holds β I w ad){b:Nat}(hb:ad=some b):b< w.heap.size:=by
 cases o with
 | own t c cap=>
  rcases h with⟨b',arr,hb',hw,_⟩|⟨h,_⟩
  ·rw[hb]at hb';cases hb'
   exact(Array.getElem?_eq_some_iff.1 hw).1
  ·rw[h]at hb;cases hb
 |mp t l=>
  obtain⟨b',es,ck,hb',hw,_⟩:=h;rw[hb]at hb';cases hb';exact(Array.getElem?_eq_some_iff.1 hw).1

theorem SObj.Holds.mono{ad:Option Nat}{o:SObj}(h:o.Holds β I w ad)(hβ:∀ i,i< n→β' i=β i)(hE:Ext I w I' w')(hl:o.low n)(hb:∀ b,ad=some b→w'.heap[b]? =w.heap[b]?):o.Holds β' I' w' ad:=by
 cases o with
 |own t c cap=>
  rcases h with⟨b,arr,hb',hw,hs,hc,hr⟩|h
  ·exact .inl ⟨b,arr,hb',(hb b hb').trans hw,hs,hc,Cont.rel_mono hβ hE hl hr⟩
  ·exact .inr h
 |mp t l=>
  obtain⟨b,es,ck,hb',hw,hs,hr⟩:=h;exact⟨b,es,ck,hb',(hb b hb').trans hw,hs,fun j x hx=>let ⟨e,he,h1,h2⟩:=hr j x hx;⟨e,he,SV.rel_mono hβ hE (hl x (List.mem_of_getElem? hx)).1 h1,SV.rel_mono hβ hE (hl x (List.mem_of_getElem? hx)).2 h2⟩⟩

theorem SObj.Holds.cell{ad:Option Nat}{t:TypeId}{c:Cont}{cap:Nat}(h:(SObj.own t c cap).Holds β I w ad){j:Nat}(hj:j< c.len):∃ b x,ad=some b∧w.cell? ⟨b,j,none⟩=some x∧(c.get j).rel β I w x:=by
 rcases h with⟨b,arr,hb,hw,hs,hc,hr⟩|⟨_,h0,_⟩
 ·obtain⟨v,hv,hrv⟩:=hr.2 j hj
  refine⟨b,v,hb,?_,hrv⟩;rw[cell_of_row w b j arr t (0,0) hw];rw[List.getElem?_take_of_lt hj]at hv
  simpa using hv
 ·omega
end


structure CC where
 F:Nat→Prop
 w0:World
 I0:Nat→Prop
 β0:Val:=fun _=>none
 n0:Nat:=0
 D:List Deferred:=[]

structure HeapOK(C:CC)(β:Val)(n:Nat)(H:Heap)(I:Nat→Prop)(w:World):Prop where
 os:w.os=C.w0.os
 tape:w.tape=C.w0.tape
 output:w.output=C.w0.output
 size:C.w0.heap.size≤w.heap.size
 frame:∀ k,k< C.w0.heap.size→¬ C.F k→w.heap[k]? =C.w0.heap[k]?
 holds:∀ id o,H.get id=some o→o.Holds β I w (β id)
 low:∀ id o,H.get id=some o→id< n∧o.low n
 fresh:∀ id o,H.get id=some o→∀ b,β id=some b→C.w0.heap.size≤b∨C.F b
 sep:∀ i j oi oj,i≠j→H.get i=some oi→H.get j=some oj→∀ b,β i=some b→β j=some b→False
 off:∀ id o,H.get id=some o→∀ b,β id=some b→¬ I b
 ilt:∀ b,I b→b< w.heap.size
 i0:∀ b,I b→C.I0 b∨C.w0.heap.size≤b∨C.F b
 base:∀ b,C.I0 b→I b

structure EnvOK(D:List Deferred)(β:Val)(n:Nat)(I:Nat→Prop)(w:World)(E:Env)(a:Act):Prop where
 defers:a.defers=D
 slot:∀ i v,E.get i=some v→∃ x,a.tmps[i]? =some x∧v.rel β I w x
 low:∀ i v,E.get i=some v→v.low n

def z26(glob:Nat→Option Cont)(I:Nat→Prop)(w:World):Prop:=∀ g c,glob g=some c→CellD I w (.dp c 0) (.pointer (some ⟨g,0,none⟩))

abbrev Same(w w':World):Prop:=Below w.heap.size w w'

section
variable {C:CC} {β β':Val} {n:Nat} {H:Heap} {I I':Nat→Prop} {w w':World} {E:Env} {a:Act} {glob:Nat→Option Cont}

theorem HeapOK.ext(h:HeapOK C β n H I w)(hb:Same w w'):Ext I w I w':=fun b hI=>⟨hI,hb.block b (h.ilt b hI)⟩
theorem z26.mono(h:z26 glob I w)(hE:Ext I w I' w'):z26 glob I' w':=fun g c hg=>(h g c hg).mono hE

theorem HeapOK.later(h:HeapOK C β n H I w)(hb:Same w w'):HeapOK C β n H I w':=by
 refine⟨hb.os.trans h.os,hb.tape.trans h.tape,hb.output.trans h.output,Nat.le_trans h.size hb.size,fun k hk hf=>?_,fun id o ho=>?_,h.low,h.fresh,h.sep,h.off,fun b hI=>Nat.lt_of_lt_of_le (h.ilt b hI) hb.size,h.i0,h.base⟩
 ·rw[hb.block k (Nat.lt_of_lt_of_le hk h.size)];exact h.frame k hk hf
 ·exact(h.holds id o ho).mono (n:=n) (fun _ _=>rfl) (h.ext hb) (h.low id o ho).2 fun b hu=>hb.block b ((h.holds id o ho).lt hu)

theorem HeapOK.widen(h:HeapOK C β n H I w)(hi:∀ b,I b→I' b)(hlt:∀ b,I' b→b< w.heap.size)(hoff:∀ id o,H.get id=some o→∀ b,β id=some b→¬ I' b)(h0:∀ b,I' b→C.I0 b∨C.w0.heap.size≤b∨C.F b):HeapOK C β n H I' w:=
 ⟨h.os,h.tape,h.output,h.size,h.frame,fun id o ho=>(h.holds id o ho).mono (n:=n) (fun _ _=>rfl) (Ext.widen hi) (h.low id o ho).2 fun _ _=>rfl,h.low,h.fresh,h.sep,hoff,hlt,h0,fun b hb=>hi b (h.base b hb)⟩

theorem EnvOK.mono{D:List Deferred}(h:EnvOK D β n I w E a)(hβ:∀ i,i< n→β' i=β i)(hE:Ext I w I' w'){m:Nat}(hm:n≤m):EnvOK D β' m I' w' E a:=
 ⟨h.defers,fun i v hv=>let ⟨x,h1,h2⟩:=h.slot i v hv;⟨x,h1,SV.rel_mono hβ hE (h.low i v hv) h2⟩,fun i v hv=>SV.low_mono hm (h.low i v hv)⟩

theorem Env.get_put(E:Env)(d:Option Nat)(v:SV)(i:Nat):(E.put d v).get i=if d=some i then some v else E.get i:=by
 cases d with
 |none=>simp[Env.put]
 |some d=>simp only[Env.put,Env.get,Option.some.injEq]
theorem Heap.get_cons(id:Nat)(o:SObj)(H:Heap)(i:Nat):Heap.get ((id,o)::H) i=if id=i then some o else H.get i:=rfl
theorem Heap.get_del(H:Heap)(i j:Nat):(H.del i).get j=if i=j then none else H.get j:=by
 induction H with
 |nil=>simp[Heap.del,Heap.get]
 | cons x H ih=>
  obtain⟨k,o⟩:=x
  by_cases hki:k=i
  ·subst hki
   simp only[Heap.del,if_true,ih,Heap.get]
   split<;>simp_all
  ·simp only[Heap.del,if_neg hki,Heap.get,ih]
   by_cases hkj:k=j
   ·subst hkj;simp[Ne.symm hki]
   ·simp[hkj]
end

structure KeyOK(P:Program)(t:Nat)(z:Cont):Prop where
 wide:(match P.underlying t with|some (.array _ _)|some (.struct _)=>true|_=>false)=true
 row:P.keyType t=true
 size:P.cellsOf t=z.len
 lits:∃ L,P.keyLits (P.types.size+1) t z.vals=some L
 deep:P.keyTypeAt 20 t=true
 tiled:P.tiled 20 t=true
 guard:P.eqGuardType P.depth t=false

def likeV:Value→Value→Prop
 | .int k _,.int k' n=>k'=k∧(Lit.int k n).wf=true
 | .bool _,.bool _=>True
 | .string _,.string s=>s.size≤maxLen
 |_,_=>False
theorem zaq{α β:Type}{f g:α→Option β}:∀ {L:List α} {as:List β},L.mapM f=some as→(∀ x∈L,∀ a,f x=some a→∃ b,g x=some b)→∃ bs,L.mapM g=some bs
 |[],_,_,_=>⟨[],by simp⟩
 |x::L,as,h,hx=>by
  rw[List.mapM_cons]at h
  simp only[Option.bind_eq_bind,Option.bind_eq_some_iff]at h
  obtain⟨a,h1,l,h2,_⟩:=h;obtain⟨b,hb⟩:=hx x (.head _) a h1;obtain⟨bs,hbs⟩:=zaq h2 fun y hy=>hx y (.tail _ hy);exact⟨b::bs,by rw[List.mapM_cons];simp[hb,hbs]⟩
def zeg(a b:List Value):Prop:=b.length=a.length∧∀ (i:Nat) x y,a[i]? =some x→b[i]? =some y→likeV x y
theorem zeg.cut{a b:List Value}(h:zeg a b)(i n:Nat):zeg ((a.drop i).take n) ((b.drop i).take n):=by
 refine⟨by simp[h.1],fun j x y hx hy=>?_⟩;rw[List.getElem?_take]at hx hy
 split at hx
 ·rename_i hj
  rw[if_pos hj]at hy;rw[List.getElem?_drop]at hx hy;exact h.2 _ x y hx hy
 ·cases hx
theorem z6q{P:Program}:∀ (d:Nat) (t:TypeId) (cs cs':List Value) (L:List Lit),P.keyLits d t cs=some L→zeg cs cs'→∃ L',P.keyLits d t cs'=some L'
 |0,_,_,_,_,h,_=>by simp[Program.keyLits]at h
 | d+1,t,cs,cs',L,h,hl=>by
  unfold Program.keyLits at h ⊢
  have one:∀ v,cs=[v]→∃ v',cs'=[v']∧likeV v v':=fun v e=>by
   subst e
   have h1:=hl.1
   obtain⟨v',rfl⟩:=List.length_eq_one_iff.1 (by simpa using h1);exact⟨v',rfl,hl.2 0 v v' rfl rfl⟩
  split at h
  ·rename_i hu
   obtain⟨v',rfl,hv⟩:=one _ rfl
   cases v'<;>simp only[likeV]at hv
   exact⟨_,by rw[hu]⟩
  ·rename_i q q' n hu
   obtain⟨v',rfl,hv⟩:=one _ rfl
   cases v'<;>simp only[likeV]at hv
   obtain⟨rfl,hw⟩:=hv
   split at h
   ·rename_i hq
    obtain⟨rfl,_⟩:=hq;exact⟨_,by rw[hu];simp only;rw[if_pos ⟨trivial,hw⟩]⟩
   ·cases h
  ·rename_i s hu
   obtain⟨v',rfl,hv⟩:=one _ rfl
   cases v'<;>simp only[likeV]at hv
   exact⟨_,by rw[hu];simp only;rw[if_pos hv]⟩
  ·rename_i n e hu
   split at h
   ·rename_i hlen
    obtain⟨as,h1,_⟩:=Option.map_eq_some_iff.1 h;obtain⟨bs,h2⟩:=zaq (g:=fun i=>P.keyLits d e ((cs'.drop (i*P.cellsOf e)).take (P.cellsOf e))) h1 fun i _ a ha=>z6q d e _ _ a ha (hl.cut _ _);refine⟨bs.flatten,?_⟩;rw[hu];simp only;rw[if_pos (hl.1.trans hlen),h2];rfl
   ·cases h
  ·rename_i fs hu
   split at h
   ·rename_i hlen
    obtain⟨as,h1,_⟩:=Option.map_eq_some_iff.1 h;obtain⟨bs,h2⟩:=zaq (g:=fun f:Field=>P.keyLits d f.type ((cs'.drop f.offset).take (P.cellsOf f.type))) h1 fun i _ a ha=>z6q d i.type _ _ a ha (hl.cut _ _);refine⟨bs.flatten,?_⟩;rw[hu];simp only;rw[if_pos ⟨hl.1.trans hlen.1,hlen.2⟩,h2];rfl
   ·cases h
  ·cases h
structure TyOK(P:Program)(ty:Nat→Ty):Prop where
 int:∀ t k,ty t= .int k→P.underlying t=some (.int k)
 bool:∀ t,ty t= .bool→P.underlying t=some .bool
 str:∀ t,ty t= .str→P.underlying t=some .string
 slice:∀ t e s b,ty t= .slice e s b→P.underlying t=some (.slice e)∧(P.info? e).map (·.size)=some s∧
  ∃ z,(P.info? e).map (fun i=>(i.zero,i.size,i.bytes))=some (some z,s,b)∧z.cells.size=s∧0< s
 arr:∀ t n e s z,ty t= .arr n e s z→P.underlying t=some (.array n e)∧(P.info? e).map (·.size)=some s∧z.len=n*s
 struct:∀ t fs n z,ty t= .struct fs n z→(∃ fields:Array Field,P.underlying t=some (.struct fields)∧fields.toList.map (fun f=>(f.offset,f.type))=fs.map (fun f=>(f.1,f.2.2))∧∀ f∈fs,(P.info? f.2.2).map (·.size)=some f.2.1)∧z.len=n
 ptr:∀ t,ty t= .ptr→∃ e,P.underlying t=some (.pointer e)
 func:∀ t,ty t= .func→∃ a b c,P.underlying t=some (.func a b c)
 map:∀ t k e,ty t= .map k e→P.underlying t=some (.map k e)
 size:∀ t,ty t≠ .other→(P.info? t).map (·.size)=some (ty t).size
 zero:∀ t z,zeroC (ty t)=some z→∃ v,(P.info? t).bind (·.zero)=some v∧v.cells=z.vals.toArray∧z.flat=true
 zeroV:∀ t z,zeroC (ty t)=some z→(P.info? t).bind (·.zero)=some (if(ty t).one then(z.get 0).val else .agg z.vals.toArray)
 key:∀ t z,(ty t).wide=some z→z.lits=true→KeyOK P t z

theorem z51:∀ {l m:List Cell},zef l m→m.length=l.length∧∀ (i:Nat) x y,l[i]? =some x→m[i]? =some y→likeS x y
 |[],[],_=>⟨rfl,fun i x y h=>by simp at h⟩
 |[],_::_,h=>h.elim
 |_::_,[],h=>h.elim
 | a::as,b::bs,h=>⟨by have:=(z51 h.2).1;simp[this],fun i x y hx hy=>by
   cases i with
   |zero=>simp at hx hy;rw[←hx, ←hy];exact h.1
   |succ i=>simp at hx hy;exact(z51 h.2).2 i x y hx hy⟩
theorem zeh:∀ {l m:List Cell},m.length=l.length→(∀ (i:Nat) x y,l[i]? =some x→m[i]? =some y→likeS x y)→zef l m
 |[],[],_,_=>trivial
 |[],_::_,h,_=>by simp at h
 |_::_,[],h,_=>by simp at h
 |a::as,b::bs,h,k=>⟨k 0 a b rfl rfl,zeh (by simpa using h) fun i x y hx hy=>k (i+1) x y (by simpa using hx) (by simpa using hy)⟩
theorem z8v{z c:Cont}(h:likeC z c):zef z.list c.list:=by
 unfold likeC at h
 split at h
 all_goals first|exact h.elim|exact h|skip
 all_goals refine zeh (by simp[Cont.list,h]) fun i x y hx hy=>?_
 all_goals simp only[Cont.list,List.getElem?_map,Option.map_eq_some_iff]at hx hy
 all_goals obtain⟨a,ha,rfl⟩:=hx
 all_goals obtain⟨b,hb,rfl⟩:=hy
 all_goals first|trivial|skip
 exact⟨h.1,h.2.2 b (List.mem_of_getElem? hb)⟩
theorem zei{x y:Cell}(h:likeS x y):likeV x.val y.val∧y.flat=true:=by
 unfold likeS at h
 split at h
 ·exact⟨⟨h.1,by simp only[Lit.wf,Bool.and_eq_true,decide_eq_true_eq];exact h.2⟩,rfl⟩
 ·exact⟨trivial,rfl⟩
 ·rename_i a b
  have:=b.toNat_lt
  exact⟨⟨rfl,by simp only[Lit.wf,Bool.and_eq_true,decide_eq_true_eq];exact⟨by show(0:Int)≤_;omega,by show _≤(255:Int);omega⟩⟩,rfl⟩
 ·rename_i a b
  have:=b.toNat_lt
  exact⟨⟨rfl,by simp only[Lit.wf,Bool.and_eq_true,decide_eq_true_eq];exact⟨by show(0:Int)≤_;omega,by show _≤(4294967295:Int);omega⟩⟩,rfl⟩
 ·rename_i a b
  have:=b.toNat_lt
  exact⟨⟨rfl,by simp only[Lit.wf,Bool.and_eq_true,decide_eq_true_eq];exact⟨by show(0:Int)≤_;omega,by show _≤(18446744073709551615:Int);omega⟩⟩,rfl⟩
 ·exact⟨by simpa [likeV,Cell.val,ByteArray.size]using h,rfl⟩
 ·exact h.elim
theorem zkf{z c:Cont}(h:likeC z c):zeg z.vals c.vals:=by
 obtain⟨h1,h2⟩:=z51 (z8v h);refine⟨by simp[Cont.vals,h1],fun i x y hx hy=>?_⟩
 simp only[Cont.vals,List.getElem?_map,Option.map_eq_some_iff]at hx hy
 obtain⟨a,ha,rfl⟩:=hx;obtain⟨b,hb,rfl⟩:=hy;exact(zei (h2 i a b ha hb)).1
theorem zch:∀ {l:List Cell},(∀ x∈l,x.flat=true)→z8t l=true
 |[],_=>rfl
 |x::l,h=>by simp only[z8t,Bool.and_eq_true];exact⟨h x (.head _),zch fun y hy=>h y (.tail _ hy)⟩
theorem zkg{z c:Cont}(h:likeC z c):c.flat=true:=by
 cases c with
 | cells m=>
  cases z with
  |cells l=>
   refine zch fun y hy=>?_;obtain⟨i,hi⟩:=List.getElem?_of_mem hy;obtain⟨h1,h2⟩:=z51 (l:=l) (m:=m) h
   have hl:i< l.length:=by rw[←h1];exact(List.getElem?_eq_some_iff.1 hi).1
   exact(zei (h2 i l[i] y (List.getElem?_eq_getElem hl) hi)).2
  |_=>exact h.elim
 |_=>rfl
theorem zlq{z x y:Cell}(hx:likeS z x)(hy:likeS z y)(h:x.val=y.val):x=y:=by
 unfold likeS at hx hy
 split at hx
 all_goals split at hy<;>first|exact hx.elim|exact hy.elim|skip
 all_goals simp_all only[Cell.int.injEq,Cell.bool.injEq,Cell.u8.injEq,Cell.u32.injEq,Cell.u64.injEq,Cell.str.injEq,reduceCtorEq,Cell.val,Value.int.injEq,Value.bool.injEq,Value.string.injEq,true_and]
 all_goals first
  |(rw[UInt8.toNat_inj.1 (Int.ofNat_inj.1 h)];done)
  |(rw[UInt32.toNat_inj.1 (Int.ofNat_inj.1 h)];done)
  |(rw[UInt64.toNat_inj.1 (Int.ofNat_inj.1 h)];done)
  |(simp at h;exact h)
  |skip
theorem zlr{z x y:Cont}(hx:likeC z x)(hy:likeC z y)(h:x.vals=y.vals):x=y:=by
 have hl:x.list=y.list:=by
  have lx:=z51 (z8v hx)
  have ly:=z51 (z8v hy)
  refine List.ext_getElem? fun i=>?_
  have hi:=congrArg (fun l:List Value=>l[i]?) h
  simp only[Cont.vals,List.getElem?_map]at hi
  cases e1:x.list[i]? with
  |none=>rw[e1]at hi;cases e2:y.list[i]? with
   |none=>rfl
   |some b=>rw[e2]at hi;simp at hi
  | some a=>
   rw[e1]at hi
   cases e2:y.list[i]? with
   |none=>rw[e2]at hi;simp at hi
   |some b=>
    rw[e2]at hi
    simp only[Option.map_some,Option.some.injEq]at hi
    have hz:i< z.list.length:=by rw[←lx.1];exact(List.getElem?_eq_some_iff.1 e1).1
    rw[zlq (lx.2 i _ a (List.getElem?_eq_getElem hz) e1) (ly.2 i _ b (List.getElem?_eq_getElem hz) e2) hi]
 have inj:∀ {α:Type} (f:α→Cell) {l m:List α},(∀ a b,f a=f b→a=b)→l.map f=m.map f→l=m:=fun {α} f {l m} hf h=>(List.map_inj_right hf).1 h
 cases x<;>cases y<;>cases z<;>first|exact hx.elim|exact hy.elim|skip
 all_goals simp only[Cont.list]at hl
 ·rw[inj _ (fun a b e=>by cases e;rfl) hl]
 ·rw[inj _ (fun a b e=>by cases e;rfl) hl]
 ·rw[inj _ (fun a b e=>by cases e;rfl) hl]
 ·obtain⟨e1,_⟩:=hx;obtain⟨e2,_⟩:=hy;subst e1;subst e2;rw[inj _ (fun a b e=>by cases e;rfl) hl]
 ·rw[inj _ (fun a b e=>by cases e;rfl) hl]
 ·rw[hl]
theorem KeyOK.keyOf{P:Program}{t:Nat}{z c:Cont}(h:KeyOK P t z)(hc:likeC z c):∃ L,keyOf P t (.agg c.vals.toArray)=some L:=by
 obtain⟨L,hL⟩:=h.lits
 have hlv:=zkf hc
 obtain⟨L',hL'⟩:=z6q _ _ _ _ _ hL hlv;refine⟨.string (keyBytes L'),?_⟩
 have hf:(Value.agg c.vals.toArray).formed P t=true:=by
  have hw:=h.wide
  have hs:c.vals.length=z.len:=by rw[hlv.1];cases z<;>simp[Cont.vals,Cont.list,Cont.len]
  unfold Value.formed
  split at hw
  ·rename_i hu;simp[hu,h.size,hs]
  ·rename_i hu;simp[hu,h.size,hs]
  ·cases hw
 unfold Go.keyOf
 have hw:=h.wide
 split at hw
 ·rename_i hu;simp only[hu];rw[if_pos (by rw[h.row,hf];rfl)];simp[Value.cells,hL']
 ·rename_i hu;simp only[hu];rw[if_pos (by rw[h.row,hf];rfl)];simp[Value.cells,hL']
 ·cases hw
theorem KeyOK.law{P:Program}{t:Nat}{z:Cont}(h:KeyOK P t z):WideMaps.KeyLaw P t:=deep_law (m:=20) (by decide) h.deep h.tiled h.wide
theorem z1j{z:Cont}{p:Prop}(h:z.lits=false)(k:z.lits=true):p:=by rw[h]at k;cases k
end Go.Ab

namespace Go.Ab
set_option linter.all false
open Go.RowKit


theorem z62{k:IntKind}{n:Int}(h:inR k n):k.wrap n=n:=by
 obtain⟨h1,h2⟩:=h
 cases k<;>simp[IntKind.min,IntKind.max,IntKind.bits,IntKind.signed]at h1 h2<;>
  simp[IntKind.wrap,IntKind.bits,IntKind.signed]<;>omega

variable {P:Program} {w:World}

theorem zkh{op:BinOp}{k:IntKind}{x y:Int}{K:SV→Prop}{t:TypeId}(hs:op≠ .shl)(hr:op≠ .shr)(h:intS k x y K op):
  ∃ c:Cell,K (.c c)∧c.flat=true∧∀ (w:World),(binOp op t (.int k x) (.int k y)).run P w= .ok (c.val) w:=by
 cases op<;>simp only[intS]at h<;>try(exact h.elim)
 case add=>exact⟨_,h.2,rfl,fun w=>by simp[binOp,Op.intArith,Cell.val,z62 h.1]⟩
 case sub=>exact⟨_,h.2,rfl,fun w=>by simp[binOp,Op.intArith,Cell.val,z62 h.1]⟩
 case mul=>exact⟨_,h.2,rfl,fun w=>by simp[binOp,Op.intArith,Cell.val,z62 h.1]⟩
 case quo=>
  obtain⟨⟨h1,h2,h3⟩,h4⟩:=h;refine⟨_,h4,rfl,fun w=>?_⟩
  have hle:x / y≤x:=Int.ediv_le_self y h1
  have h0:0≤x / y:=Int.ediv_nonneg h1 (by omega)
  have hin : inR k (x / y) := ⟨by have:k.min≤0:=by cases k<;>decide
                                  omega,by omega⟩
  simp[binOp,Op.intDiv,Cell.val,show y≠0 by omega,Int.tdiv_eq_ediv_of_nonneg h1,z62 hin]
 case rem=>
  obtain⟨⟨h1,h2⟩,h4⟩:=h;exact⟨_,h4,rfl,fun w=>by simp[binOp,Op.intDiv,Cell.val,show y≠0 by omega,Int.tmod_eq_emod_of_nonneg h1]⟩
 case eql=>exact⟨_,h,rfl,fun w=>by simp[binOp,Op.intCmp,Cell.val];rfl⟩
 case neq=>exact⟨_,h,rfl,fun w=>by simp[binOp,Op.intCmp,Cell.val];rfl⟩
 case lss=>exact⟨_,h,rfl,fun w=>by simp[binOp,Op.intCmp,Cell.val]⟩
 case leq=>exact⟨_,h,rfl,fun w=>by simp[binOp,Op.intCmp,Cell.val]⟩
 case gtr=>exact⟨_,h,rfl,fun w=>by simp[binOp,Op.intCmp,Cell.val]⟩
 case geq=>exact⟨_,h,rfl,fun w=>by simp[binOp,Op.intCmp,Cell.val]⟩
 case or=>
  obtain⟨⟨rfl,h1,h2,h3,h4⟩,h5⟩:=h;refine⟨_,h5,rfl,fun w=>?_⟩;obtain⟨a,rfl⟩:=Int.eq_ofNat_of_zero_le h1;obtain⟨b,rfl⟩:=Int.eq_ofNat_of_zero_le h2
  have ha:a< 2 ^ 63:=by omega
  have hb:b< 2 ^ 63:=by omega
  have hab:a ||| b< 2 ^ 63:=Nat.or_lt_two_pow ha hb
  have ma:a%2 ^ IntKind.i64.bits=a:=Nat.mod_eq_of_lt (by show a< 2 ^ 64;omega)
  have mb:b%2 ^ IntKind.i64.bits=b:=Nat.mod_eq_of_lt (by show b< 2 ^ 64;omega)
  have hw:IntKind.i64.wrap (((a ||| b:Nat):Int))=((a ||| b:Nat):Int):=by rw[IntKind.wrap_i64];omega
  simp[binOp,Op.intBits,Cell.val,ma,mb,hw]
 case and=>
  unfold andS at h
  split at h
  ·obtain⟨⟨_,h1,h2,h3,h4⟩,h5⟩:=h
   refine⟨_,h5,rfl,fun w=>?_⟩;obtain⟨a,rfl⟩:=Int.eq_ofNat_of_zero_le h1;obtain⟨b,rfl⟩:=Int.eq_ofNat_of_zero_le h2
   have ha:a< 2 ^ 63:=by omega
   have hb:b< 2 ^ 63:=by omega
   have hab:a &&& b< 2 ^ 63:=Nat.and_lt_two_pow a hb
   have ma:a%2 ^ IntKind.i64.bits=a:=Nat.mod_eq_of_lt (by show a< 2 ^ 64;omega)
   have mb:b%2 ^ IntKind.i64.bits=b:=Nat.mod_eq_of_lt (by show b< 2 ^ 64;omega)
   have hw:IntKind.i64.wrap (((a &&& b:Nat):Int))=((a &&& b:Nat):Int):=by rw[IntKind.wrap_i64];omega
   simp[binOp,Op.intBits,Cell.val,ma,mb,hw]
  ·obtain⟨⟨h1,h2,h3,h4⟩,h5⟩:=h
   refine⟨_,h5,rfl,fun w=>?_⟩;obtain⟨a,rfl⟩:=Int.eq_ofNat_of_zero_le h1;obtain⟨b,rfl⟩:=Int.eq_ofNat_of_zero_le h2
   have ha:a< 2 ^ 16:=by omega
   have hb:b< 2 ^ 16:=by omega
   have hab:a &&& b< 2 ^ 16:=Nat.and_lt_two_pow a hb
   have ma:a%2 ^ IntKind.u16.bits=a:=Nat.mod_eq_of_lt (by show a< 2 ^ 16;omega)
   have mb:b%2 ^ IntKind.u16.bits=b:=Nat.mod_eq_of_lt (by show b< 2 ^ 16;omega)
   have hw:IntKind.u16.wrap (((a &&& b:Nat):Int))=((a &&& b:Nat):Int):=z62 ⟨by show(0:Int)≤_;omega,by show _≤(65535:Int);omega⟩
   simp[binOp,Op.intBits,Cell.val,ma,mb,hw]
  ·exact h.elim

theorem u8_lt(x:UInt8):(x.toNat:Int)< 256:=by have:=x.toNat_lt;omega
theorem zls{op:BinOp}{x y:UInt8}{K:SV→Prop}{t:TypeId}(hs:op≠ .shl)(hr:op≠ .shr)(h:u8S x y K op):
  ∃ c:Cell,K (.c c)∧c.flat=true∧∀ (w:World),(binOp op t (.int .u8 x.toNat) (.int .u8 y.toNat)).run P w= .ok (c.val) w:=by
 have hx:=u8_lt x
 have hy:=u8_lt y
 have hx':x.toNat< 256:=by omega
 have hy':y.toNat< 256:=by omega
 have he:(x.toNat=y.toNat)↔x=y:=UInt8.toNat_inj
 cases op<;>simp only[u8S]at h<;>try(exact h.elim)
 case add=>exact⟨_,h,rfl,fun w=>by simp[binOp,Op.intArith,Cell.val,IntKind.wrap_u8,UInt8.toNat_add]⟩
 case sub=>exact⟨_,h,rfl,fun w=>by simp[binOp,Op.intArith,Cell.val,IntKind.wrap_u8,UInt8.toNat_sub];omega⟩
 case mul=>exact⟨_,h,rfl,fun w=>by simp[binOp,Op.intArith,Cell.val,IntKind.wrap_u8,UInt8.toNat_mul]⟩
 case quo=>
  have h0:y.toNat≠0:=fun e=>h.1 (UInt8.toNat_inj.1 e)
  refine⟨_,h.2,rfl,fun w=>?_⟩
  have hle:x.toNat / y.toNat≤x.toNat:=Nat.div_le_self _ _
  simp only[binOp,Op.intDiv,Cell.val,IntKind.wrap_u8,UInt8.toNat_div,ne_eq,not_true_eq_false,if_false,show ¬ ((y.toNat:Int)=0) by omega,Int.tdiv_eq_ediv_of_nonneg (show(0:Int)≤x.toNat by omega),Sem.run_pure]
  congr 2
  rw[←Int.natCast_ediv]
  generalize x.toNat / y.toNat=q at hle ⊢
  omega
 case rem=>
  have h0:y.toNat≠0:=fun e=>h.1 (UInt8.toNat_inj.1 e)
  refine⟨_,h.2,rfl,fun w=>?_⟩
  simp only[binOp,Op.intDiv,Cell.val,UInt8.toNat_mod,ne_eq,not_true_eq_false,if_false,show ¬ ((y.toNat:Int)=0) by omega,Int.tmod_eq_emod_of_nonneg (show(0:Int)≤x.toNat by omega),Sem.run_pure]
  congr 2
 case and=>exact⟨_,h,rfl,fun w=>by
  have e:=u8_and_nat x.toNat y.toNat hx' hy'
  simp only[bits]at e
  simp only[binOp,Op.intBits,Cell.val,ne_eq,not_true_eq_false,if_false,Sem.run_pure,UInt8.toNat_and, ←e]⟩
 case or=>exact⟨_,h,rfl,fun w=>by
  have e:=u8_or_nat x.toNat y.toNat hx' hy'
  simp only[bits]at e
  simp only[binOp,Op.intBits,Cell.val,ne_eq,not_true_eq_false,if_false,Sem.run_pure,UInt8.toNat_or, ←e]⟩
 case xor=>exact⟨_,h,rfl,fun w=>by
  have e:=u8_xor_nat x.toNat y.toNat hx' hy'
  simp only[bits]at e
  simp only[binOp,Op.intBits,Cell.val,ne_eq,not_true_eq_false,if_false,Sem.run_pure,UInt8.toNat_xor, ←e]⟩
 case eql=>exact⟨_,h,rfl,fun w=>by
  simp only[binOp,Op.intCmp,Cell.val,ne_eq,not_true_eq_false,if_false,Sem.run_pure]
  congr 2
  rw[Bool.eq_iff_iff];simp[←he];omega⟩
 case neq=>exact⟨_,h,rfl,fun w=>by
  simp only[binOp,Op.intCmp,Cell.val,ne_eq,not_true_eq_false,if_false,Sem.run_pure]
  congr 2
  rw[Bool.eq_iff_iff];simp[←he];omega⟩
 case lss=>exact⟨_,h,rfl,fun w=>by simp[binOp,Op.intCmp,Cell.val,UInt8.lt_iff_toNat_lt]⟩
 case leq=>exact⟨_,h,rfl,fun w=>by simp[binOp,Op.intCmp,Cell.val,UInt8.le_iff_toNat_le]⟩
 case gtr=>exact⟨_,h,rfl,fun w=>by simp[binOp,Op.intCmp,Cell.val,UInt8.lt_iff_toNat_lt]⟩
 case geq=>exact⟨_,h,rfl,fun w=>by simp[binOp,Op.intCmp,Cell.val,UInt8.le_iff_toNat_le]⟩

theorem zia(x:UInt32):(x.toNat:Int)< 4294967296:=by have:=x.toNat_lt;omega
theorem zki{op:BinOp}{x y:UInt32}{K:SV→Prop}{t:TypeId}(hs:op≠ .shl)(hr:op≠ .shr)(h:u32S x y K op):
  ∃ c:Cell,K (.c c)∧c.flat=true∧∀ (w:World),(binOp op t (.int .u32 x.toNat) (.int .u32 y.toNat)).run P w= .ok (c.val) w:=by
 have hx:=zia x
 have hy:=zia y
 have hx':x.toNat< 4294967296:=by omega
 have hy':y.toNat< 4294967296:=by omega
 have he:(x.toNat=y.toNat)↔x=y:=UInt32.toNat_inj
 cases op<;>simp only[u32S]at h<;>try(exact h.elim)
 case add=>exact⟨_,h,rfl,fun w=>by simp[binOp,Op.intArith,Cell.val,IntKind.wrap_u32,UInt32.toNat_add]⟩
 case sub=>exact⟨_,h,rfl,fun w=>by simp[binOp,Op.intArith,Cell.val,IntKind.wrap_u32,UInt32.toNat_sub];omega⟩
 case mul=>exact⟨_,h,rfl,fun w=>by simp[binOp,Op.intArith,Cell.val,IntKind.wrap_u32,UInt32.toNat_mul]⟩
 case quo=>
  have h0:y.toNat≠0:=fun e=>h.1 (UInt32.toNat_inj.1 e)
  refine⟨_,h.2,rfl,fun w=>?_⟩
  have hle:x.toNat / y.toNat≤x.toNat:=Nat.div_le_self _ _
  simp only[binOp,Op.intDiv,Cell.val,IntKind.wrap_u32,UInt32.toNat_div,ne_eq,not_true_eq_false,if_false,show ¬ ((y.toNat:Int)=0) by omega,Int.tdiv_eq_ediv_of_nonneg (show(0:Int)≤x.toNat by omega),Sem.run_pure]
  congr 2
  rw[←Int.natCast_ediv]
  generalize x.toNat / y.toNat=q at hle ⊢
  omega
 case rem=>
  have h0:y.toNat≠0:=fun e=>h.1 (UInt32.toNat_inj.1 e)
  refine⟨_,h.2,rfl,fun w=>?_⟩
  simp only[binOp,Op.intDiv,Cell.val,UInt32.toNat_mod,ne_eq,not_true_eq_false,if_false,show ¬ ((y.toNat:Int)=0) by omega,Int.tmod_eq_emod_of_nonneg (show(0:Int)≤x.toNat by omega),Sem.run_pure]
  congr 2
 case and=>exact⟨_,h,rfl,fun w=>by
  have e:=u32_and_nat x.toNat y.toNat hx' hy'
  simp only[bits]at e
  simp only[binOp,Op.intBits,Cell.val,ne_eq,not_true_eq_false,if_false,Sem.run_pure,UInt32.toNat_and, ←e]⟩
 case or=>exact⟨_,h,rfl,fun w=>by
  have e:=u32_or_nat x.toNat y.toNat hx' hy'
  simp only[bits]at e
  simp only[binOp,Op.intBits,Cell.val,ne_eq,not_true_eq_false,if_false,Sem.run_pure,UInt32.toNat_or, ←e]⟩
 case xor=>exact⟨_,h,rfl,fun w=>by
  have e:=u32_xor_nat x.toNat y.toNat hx' hy'
  simp only[bits]at e
  simp only[binOp,Op.intBits,Cell.val,ne_eq,not_true_eq_false,if_false,Sem.run_pure,UInt32.toNat_xor, ←e]⟩
 case eql=>exact⟨_,h,rfl,fun w=>by
  simp only[binOp,Op.intCmp,Cell.val,ne_eq,not_true_eq_false,if_false,Sem.run_pure]
  congr 2
  rw[Bool.eq_iff_iff];simp[←he];omega⟩
 case neq=>exact⟨_,h,rfl,fun w=>by
  simp only[binOp,Op.intCmp,Cell.val,ne_eq,not_true_eq_false,if_false,Sem.run_pure]
  congr 2
  rw[Bool.eq_iff_iff];simp[←he];omega⟩
 case lss=>exact⟨_,h,rfl,fun w=>by simp[binOp,Op.intCmp,Cell.val,UInt32.lt_iff_toNat_lt]⟩
 case leq=>exact⟨_,h,rfl,fun w=>by simp[binOp,Op.intCmp,Cell.val,UInt32.le_iff_toNat_le]⟩
 case gtr=>exact⟨_,h,rfl,fun w=>by simp[binOp,Op.intCmp,Cell.val,UInt32.lt_iff_toNat_lt]⟩
 case geq=>exact⟨_,h,rfl,fun w=>by simp[binOp,Op.intCmp,Cell.val,UInt32.le_iff_toNat_le]⟩

theorem zib(x:UInt64):(x.toNat:Int)< 18446744073709551616:=by have:=x.toNat_lt;omega
theorem zkj{op:BinOp}{x y:UInt64}{K:SV→Prop}{t:TypeId}(hs:op≠ .shl)(hr:op≠ .shr)(h:u64S x y K op):
  ∃ c:Cell,K (.c c)∧c.flat=true∧∀ (w:World),(binOp op t (.int .u64 x.toNat) (.int .u64 y.toNat)).run P w= .ok (c.val) w:=by
 have hx:=zib x
 have hy:=zib y
 have hx':x.toNat< 18446744073709551616:=by omega
 have hy':y.toNat< 18446744073709551616:=by omega
 have he:(x.toNat=y.toNat)↔x=y:=UInt64.toNat_inj
 cases op<;>simp only[u64S]at h<;>try(exact h.elim)
 case add=>exact⟨_,h,rfl,fun w=>by simp[binOp,Op.intArith,Cell.val,IntKind.wrap_u64,UInt64.toNat_add]⟩
 case sub=>exact⟨_,h,rfl,fun w=>by simp[binOp,Op.intArith,Cell.val,IntKind.wrap_u64,UInt64.toNat_sub];omega⟩
 case mul=>exact⟨_,h,rfl,fun w=>by simp[binOp,Op.intArith,Cell.val,IntKind.wrap_u64,UInt64.toNat_mul]⟩
 case quo=>
  have h0:y.toNat≠0:=fun e=>h.1 (UInt64.toNat_inj.1 e)
  refine⟨_,h.2,rfl,fun w=>?_⟩
  have hle:x.toNat / y.toNat≤x.toNat:=Nat.div_le_self _ _
  simp only[binOp,Op.intDiv,Cell.val,IntKind.wrap_u64,UInt64.toNat_div,ne_eq,not_true_eq_false,if_false,show ¬ ((y.toNat:Int)=0) by omega,Int.tdiv_eq_ediv_of_nonneg (show(0:Int)≤x.toNat by omega),Sem.run_pure]
  congr 2
  rw[←Int.natCast_ediv]
  generalize x.toNat / y.toNat=q at hle ⊢
  omega
 case rem=>
  have h0:y.toNat≠0:=fun e=>h.1 (UInt64.toNat_inj.1 e)
  refine⟨_,h.2,rfl,fun w=>?_⟩
  simp only[binOp,Op.intDiv,Cell.val,UInt64.toNat_mod,ne_eq,not_true_eq_false,if_false,show ¬ ((y.toNat:Int)=0) by omega,Int.tmod_eq_emod_of_nonneg (show(0:Int)≤x.toNat by omega),Sem.run_pure]
  congr 2
 case and=>exact⟨_,h,rfl,fun w=>by
  have e:=u64_and_nat x.toNat y.toNat hx' hy'
  simp only[bits]at e
  simp only[binOp,Op.intBits,Cell.val,ne_eq,not_true_eq_false,if_false,Sem.run_pure,UInt64.toNat_and, ←e]⟩
 case or=>exact⟨_,h,rfl,fun w=>by
  have e:=u64_or_nat x.toNat y.toNat hx' hy'
  simp only[bits]at e
  simp only[binOp,Op.intBits,Cell.val,ne_eq,not_true_eq_false,if_false,Sem.run_pure,UInt64.toNat_or, ←e]⟩
 case xor=>exact⟨_,h,rfl,fun w=>by
  have e:=u64_xor_nat x.toNat y.toNat hx' hy'
  simp only[bits]at e
  simp only[binOp,Op.intBits,Cell.val,ne_eq,not_true_eq_false,if_false,Sem.run_pure,UInt64.toNat_xor, ←e]⟩
 case eql=>exact⟨_,h,rfl,fun w=>by
  simp only[binOp,Op.intCmp,Cell.val,ne_eq,not_true_eq_false,if_false,Sem.run_pure]
  congr 2
  rw[Bool.eq_iff_iff];simp[←he];omega⟩
 case neq=>exact⟨_,h,rfl,fun w=>by
  simp only[binOp,Op.intCmp,Cell.val,ne_eq,not_true_eq_false,if_false,Sem.run_pure]
  congr 2
  rw[Bool.eq_iff_iff];simp[←he];omega⟩
 case lss=>exact⟨_,h,rfl,fun w=>by simp[binOp,Op.intCmp,Cell.val,UInt64.lt_iff_toNat_lt]⟩
 case leq=>exact⟨_,h,rfl,fun w=>by simp[binOp,Op.intCmp,Cell.val,UInt64.le_iff_toNat_le]⟩
 case gtr=>exact⟨_,h,rfl,fun w=>by simp[binOp,Op.intCmp,Cell.val,UInt64.lt_iff_toNat_lt]⟩
 case geq=>exact⟨_,h,rfl,fun w=>by simp[binOp,Op.intCmp,Cell.val,UInt64.le_iff_toNat_le]⟩



theorem z5k{n:Int}{b:Nat}(h:n.toNat< b):min n.toNat b=n.toNat:=by omega


theorem zkk{x:UInt8}{n:Int}{yk:IntKind}{t:TypeId}(h0:0≤n):(binOp .shr t (.int .u8 x.toNat) (.int yk n)).run P w= .ok (.int .u8 (shr8 x n.toNat).toNat) w:=by
 have hx:=u8_lt x
 have hn:¬ n< 0:=by omega
 simp only[binOp,Op.shift,hn,if_false,IntKind.bits,shr8,Sem.run_pure]
 congr 2
 rw[Int.fdiv_eq_ediv_of_nonneg _ (Int.le_of_lt (Int.pow_pos (by omega)))]
 by_cases hb:n.toNat< 8
 ·rw[z5k hb,if_pos hb]
  simp only[UInt8.toNat_shiftRight,Nat.toUInt8_eq,UInt8.toNat_ofNat',Nat.shiftRight_eq_div_pow]
  rw[show n.toNat%2 ^ 8%8=n.toNat by omega]
  simp
 ·rw[if_neg hb,show min n.toNat 8=8 by omega]
  simp
  omega
theorem zkl{x:UInt8}{n:Int}{yk:IntKind}{t:TypeId}(h0:0≤n):(binOp .shl t (.int .u8 x.toNat) (.int yk n)).run P w= .ok (.int .u8 (shl8 x n.toNat).toNat) w:=by
 have hn:¬ n< 0:=by omega
 simp only[binOp,Op.shift,hn,if_false,IntKind.bits,shl8,Sem.run_pure,IntKind.wrap_u8]
 congr 2
 by_cases hb:n.toNat< 8
 ·rw[z5k hb,if_pos hb]
  simp only[UInt8.toNat_shiftLeft,Nat.toUInt8_eq,UInt8.toNat_ofNat',Nat.shiftLeft_eq]
  rw[show n.toNat%2 ^ 8%8=n.toNat by omega]
  simp
 ·rw[if_neg hb,show min n.toNat 8=8 by omega]
  simp

theorem zg9{x:UInt32}{n:Int}{yk:IntKind}{t:TypeId}(h0:0≤n):(binOp .shr t (.int .u32 x.toNat) (.int yk n)).run P w= .ok (.int .u32 (shr32 x n.toNat).toNat) w:=by
 have hx:=zia x
 have hn:¬ n< 0:=by omega
 simp only[binOp,Op.shift,hn,if_false,IntKind.bits,shr32,Sem.run_pure]
 congr 2
 rw[Int.fdiv_eq_ediv_of_nonneg _ (Int.le_of_lt (Int.pow_pos (by omega)))]
 by_cases hb:n.toNat< 32
 ·rw[z5k hb,if_pos hb]
  simp only[UInt32.toNat_shiftRight,Nat.toUInt32_eq,UInt32.toNat_ofNat',Nat.shiftRight_eq_div_pow]
  rw[show n.toNat%2 ^ 32%32=n.toNat by omega]
  simp
 ·rw[if_neg hb,show min n.toNat 32=32 by omega]
  simp
  omega
theorem zga{x:UInt32}{n:Int}{yk:IntKind}{t:TypeId}(h0:0≤n):(binOp .shl t (.int .u32 x.toNat) (.int yk n)).run P w= .ok (.int .u32 (shl32 x n.toNat).toNat) w:=by
 have hn:¬ n< 0:=by omega
 simp only[binOp,Op.shift,hn,if_false,IntKind.bits,shl32,Sem.run_pure,IntKind.wrap_u32]
 congr 2
 by_cases hb:n.toNat< 32
 ·rw[z5k hb,if_pos hb]
  simp only[UInt32.toNat_shiftLeft,Nat.toUInt32_eq,UInt32.toNat_ofNat',Nat.shiftLeft_eq]
  rw[show n.toNat%2 ^ 32%32=n.toNat by omega]
  simp
 ·rw[if_neg hb,show min n.toNat 32=32 by omega]
  simp

theorem zgb{x:UInt64}{n:Int}{yk:IntKind}{t:TypeId}(h0:0≤n):(binOp .shr t (.int .u64 x.toNat) (.int yk n)).run P w= .ok (.int .u64 (shr64 x n.toNat).toNat) w:=by
 have hx:=zib x
 have hn:¬ n< 0:=by omega
 simp only[binOp,Op.shift,hn,if_false,IntKind.bits,shr64,Sem.run_pure]
 congr 2
 rw[Int.fdiv_eq_ediv_of_nonneg _ (Int.le_of_lt (Int.pow_pos (by omega)))]
 by_cases hb:n.toNat< 64
 ·rw[z5k hb,if_pos hb]
  simp only[UInt64.toNat_shiftRight,Nat.toUInt64_eq,UInt64.toNat_ofNat',Nat.shiftRight_eq_div_pow]
  rw[show n.toNat%2 ^ 64%64=n.toNat by omega]
  simp
 ·rw[if_neg hb,show min n.toNat 64=64 by omega]
  simp
  omega
theorem zgc{x:UInt64}{n:Int}{yk:IntKind}{t:TypeId}(h0:0≤n):(binOp .shl t (.int .u64 x.toNat) (.int yk n)).run P w= .ok (.int .u64 (shl64 x n.toNat).toNat) w:=by
 have hn:¬ n< 0:=by omega
 simp only[binOp,Op.shift,hn,if_false,IntKind.bits,shl64,Sem.run_pure,IntKind.wrap_u64]
 congr 2
 by_cases hb:n.toNat< 64
 ·rw[z5k hb,if_pos hb]
  simp only[UInt64.toNat_shiftLeft,Nat.toUInt64_eq,UInt64.toNat_ofNat',Nat.shiftLeft_eq]
  rw[show n.toNat%2 ^ 64%64=n.toNat by omega]
  simp
 ·rw[if_neg hb,show min n.toNat 64=64 by omega]
  simp

theorem z80{left:Bool}{x:SV}{n:Int}{yk:IntKind}{K:SV→Prop}{t:TypeId}(h:zi8 left x n K):
  ∃ c:Cell,K (.c c)∧c.flat=true∧∀ (w:World),(binOp (if left then .shl else .shr) t x.val (.int yk n)).run P w= .ok (c.val) w:=by
 obtain⟨h0,h⟩:=h
 have hn:¬ n< 0:=by omega
 split at h
 ·refine⟨_,h,rfl,fun w=>?_⟩
  cases left
  ·exact zkk h0
  ·exact zkl h0
 ·refine⟨_,h,rfl,fun w=>?_⟩
  cases left
  ·exact zg9 h0
  ·exact zga h0
 ·refine⟨_,h,rfl,fun w=>?_⟩
  cases left
  ·exact zgb h0
  ·exact zgc h0
 ·rename_i k x
  cases left
  ·simp only[Bool.false_eq_true,if_false]at h
   obtain⟨h1,h2⟩:=h;refine⟨_,h2,rfl,fun w=>?_⟩
   simp only[Bool.false_eq_true,if_false,SV.val,Cell.val,binOp,Op.shift,hn,Sem.run_pure]
   congr 2
   rw[Int.fdiv_eq_ediv_of_nonneg _ (Int.le_of_lt (Int.pow_pos (by omega))),show min n.toNat k.bits=n.toNat by omega]
  ·simp only[if_true]at h
   obtain⟨h1,h2,h3⟩:=h;refine⟨_,h3,rfl,fun w=>?_⟩
   simp only[if_true,SV.val,Cell.val,binOp,Op.shift,hn,if_false,Sem.run_pure]
   congr 2
   rw[show min n.toNat k.bits=n.toNat by omega,z62 h1]
 ·exact h.elim
theorem run_sizeOf'{t:TypeId}{s:Nat}(h:(P.info? t).map (·.size)=some s):(sizeOf t).run P w= .ok s w:=by
 obtain⟨i,hi,rfl⟩:=Option.map_eq_some_iff.1 h
 simp[sizeOf,typeInfo,hi]


theorem zgd{d:Nat}{e:TypeId}{cs ds:List Value}{eqs:Nat→Bool}(n:Nat)(hn:cs.length=n)(hm:ds.length=n)(isa:(isAgg e).run P w= .ok false w)
  (heq:∀ i (h:i< n),(Op.equalIn d e (cs[i]'(by omega)) (ds[i]'(by omega))).run P w= .ok (eqs i) w):
  ∀ (j k:Nat),k+j=n→
   (forIn (List.range' k j 1) ((none:Option Bool),()) fun i __s=>(do
      let a ←part e cs.toArray (i*1)
      let b ←part e ds.toArray (i*1)
      let r ←Op.equalIn d e a b
      if(!r)=true then pure (ForInStep.done (some false,()))else pure (ForInStep.yield (none,())):Sem (ForInStep (Option Bool×Unit)))).run P w=
    .ok (if(List.range' k j 1).all eqs then(none,()) else(some false,())) w:=by
 intro j
 induction j with
 |zero=>intro k _;simp
 | succ j ih=>
  intro k hk;rw[List.range'_succ,List.forIn_cons]
  have hp1:(part e cs.toArray (k*1)).run P w= .ok (cs[k]'(by omega)) w:=by
   simp[part,isa,show k< cs.length by omega]
  have hp2:(part e ds.toArray (k*1)).run P w= .ok (ds[k]'(by omega)) w:=by
   simp[part,isa,show k< ds.length by omega]
  simp only[Sem.run_bind,hp1,hp2,Result.andThen_ok,heq k (by omega),Sem.run_ite,List.all_cons]
  by_cases hq:eqs k=true
  ·simp only[hq,Bool.not_true,Bool.false_eq_true,if_false,Sem.run_pure,Result.andThen_ok,Bool.true_and]
   exact ih (k+1) (by omega)
  ·simp[hq]

theorem z8w{d:Nat}{t e:TypeId}{cs ds:List Value}{eqs:Nat→Bool}(n:Nat)(ht:P.underlying t=some (.array n e))(hs:(P.info? e).map (·.size)=some 1)
  (hn:cs.length=n) (hm:ds.length=n) (isa:(isAgg e).run P w= .ok false w)
  (heq:∀ i (h:i< n),(Op.equalIn d e (cs[i]'(by omega)) (ds[i]'(by omega))).run P w= .ok (eqs i) w):
  (Op.equalIn (d+1) t (.agg cs.toArray) (.agg ds.toArray)).run P w= .ok ((List.range n).all eqs) w:=by
 rw[Op.equalIn]
 simp only[Sem.run_bind,run_underlying ht,Result.andThen_ok,run_sizeOf' hs]
 rw[Std.Legacy.Range.forIn_eq_forIn_range']
 simp only[Std.Legacy.Range.size,Nat.sub_zero,Nat.add_sub_cancel,Nat.div_one]
 rw[zgd n hn hm isa heq n 0 (by omega),List.range_eq_range']
 simp only[Result.andThen_ok]
 cases (List.range' 0 n 1).all eqs<;>simp

theorem zlt{e:TypeId}{k:IntKind}(he:P.underlying e=some (.int k)):(isAgg e).run P w= .ok false w:=by
 simp[isAgg,run_underlying he]

theorem z42{t e:TypeId}{k:IntKind}{l m:List Int}{n:Nat}(ht:P.underlying t=some (.array n e))(he:P.underlying e=some (.int k))(hs:(P.info? e).map (·.size)=some 1)
  (hl:l.length=n) (hm:m.length=n):
  (Op.equal t (.agg (l.map (Value.int k)).toArray) (.agg (m.map (Value.int k)).toArray)).run P w= .ok (decide (l=m)) w:=by
 unfold Op.equal Op.maxDepth;rw[z8w (eqs:=fun i=>l.getD i 0==m.getD i 0) n ht hs (by simp[hl]) (by simp[hm]) (zlt he) ?_]
 ·congr 1
  rw[Bool.eq_iff_iff]
  simp only[List.all_eq_true,List.mem_range,beq_iff_eq,decide_eq_true_eq]
  constructor
  ·intro h
   apply List.ext_getElem (by omega);intro i h1 h2
   have:=h i (by omega)
   simpa [h1,h2]using this
  ·rintro rfl i _;rfl
 ·intro i h
  rw[Op.equalIn]
  simp only[Sem.run_bind,run_underlying he,Result.andThen_ok,List.getElem_map,if_true,Sem.run_pure]
  congr 1
  rw[Bool.eq_iff_iff]
  simp[show i< l.length by omega,show i< m.length by omega]
theorem z63{α β:Type}{f:α→β}(hf:∀ a b,f a=f b→a=b):∀ {l m:List α},l.map f=m.map f↔l=m
 |[],[]=>by simp
 |[],_::_=>by simp
 |_::_,[]=>by simp
 |a::l,b::m=>by
  simp only[List.map_cons,List.cons.injEq,z63 hf (l:=l) (m:=m)]
  exact⟨fun⟨h1,h2⟩=>⟨hf _ _ h1,h2⟩,fun⟨h1,h2⟩=>⟨by rw[h1],h2⟩⟩
theorem zej{ty:Nat→Ty}(hT:TyOK P ty){t e:TypeId}{n s:Nat}{z:Cont}(htt:ty t= .arr n e s z){x y:Cont}{K:Bool→Prop}(h:zee ty n e x y K):
  ∃ b k,K b∧x.flat=true∧y.flat=true∧P.underlying e=some (.int k)∧∀ w,(Op.equal t (.agg x.vals.toArray) (.agg y.vals.toArray)).run P w= .ok b w:=by
 obtain⟨hu,hes,_⟩:=hT.arr t n e s z htt
 have hse:∀ k,ty e= .int k→(P.info? e).map (·.size)=some 1:=fun k he=>by have:=hT.size e (by rw[he];simp);rw[he]at this;exact this
 unfold zee at h
 split at h
 ·rename_i l m
  obtain⟨he,h1,h2,h⟩:=h;refine⟨_,_,h,rfl,rfl,hT.int _ _ he,fun w=>?_⟩
  have:=z42 (P:=P) (w:=w) (l:=l.map fun x=>(x.toNat:Int)) (m:=m.map fun x=>(x.toNat:Int)) hu (hT.int _ _ he) (hse _ he) (by simpa using h1) (by simpa using h2)
  simp only[z63 (f:=fun x:UInt8=>(x.toNat:Int)) (fun a b e=>UInt8.toNat_inj.1 (by exact_mod_cast e)),List.map_map]at this
  simp only[Cont.vals,Cont.list,List.map_map]
  exact this
 ·rename_i l m
  obtain⟨he,h1,h2,h⟩:=h;refine⟨_,_,h,rfl,rfl,hT.int _ _ he,fun w=>?_⟩
  have:=z42 (P:=P) (w:=w) (l:=l.map fun x=>(x.toNat:Int)) (m:=m.map fun x=>(x.toNat:Int)) hu (hT.int _ _ he) (hse _ he) (by simpa using h1) (by simpa using h2)
  simp only[z63 (f:=fun x:UInt32=>(x.toNat:Int)) (fun a b e=>UInt32.toNat_inj.1 (by exact_mod_cast e)),List.map_map]at this
  simp only[Cont.vals,Cont.list,List.map_map]
  exact this
 ·rename_i l m
  obtain⟨he,h1,h2,h⟩:=h;refine⟨_,_,h,rfl,rfl,hT.int _ _ he,fun w=>?_⟩
  have:=z42 (P:=P) (w:=w) (l:=l.map fun x=>(x.toNat:Int)) (m:=m.map fun x=>(x.toNat:Int)) hu (hT.int _ _ he) (hse _ he) (by simpa using h1) (by simpa using h2)
  simp only[z63 (f:=fun x:UInt64=>(x.toNat:Int)) (fun a b e=>UInt64.toNat_inj.1 (by exact_mod_cast e)),List.map_map]at this
  simp only[Cont.vals,Cont.list,List.map_map]
  exact this
 ·rename_i k l k' m
  obtain⟨rfl,he,h1,h2,h⟩:=h;refine⟨_,_,h,rfl,rfl,hT.int _ _ he,fun w=>?_⟩
  have:=z42 (P:=P) (w:=w) (l:=l) (m:=m) hu (hT.int _ _ he) (hse _ he) h1 h2
  simp only[Cont.vals,Cont.list,List.map_map]
  exact this
 ·exact h.elim

theorem z81{n:Nat}{t e:TypeId}{k:IntKind}{op:BinOp}{x y:Operand}{a b:Array Value}(ht:P.underlying t=some (.array n e))(he:P.underlying e=some (.int k)):
  (eqGuard op t x y (.agg a) (.agg b)).run P w= .ok () w:=by
 have h:P.eqGuardType P.depth t=false:=by
  unfold Program.depth
  simp only[Program.eqGuardType,ht,he]
 cases op<;>simp[eqGuard,h]


theorem z1h{op:BinOp}{t:TypeId}{x y:Operand}{a b:Value}(h1:a≠ .nilIface)(h2:∀ c,a≠ .agg c):(eqGuard op t x y a b).run P w= .ok () w:=by
 cases op<;>cases a<;>simp[eqGuard]at h1 h2 ⊢

theorem z1f{op:BinOp}{t:TypeId}{x y:Operand}{a b:Value}{r:Result Value}(hg:(eqGuard op t x y a b).run P w= .ok () w)(h:(binOp op t a b).run P w=r):
  (do eqGuard op t x y a b;binOp op t a b:Sem Value).run P w=r:=by
 simp only[Sem.run_bind,hg,Result.andThen_ok,h]

theorem z8x{t:Ty}{c:Cont}(h:wideS t c):c.flat=true:=by
 unfold wideS at h
 split at h
 ·exact zkg h.2
 ·exact h.elim
theorem z6r{P:Program}{ty:Nat→Ty}(hT:TyOK P ty){t:Nat}{c:Cont}(h:wideS (ty t) c):∃ z,KeyOK P t z∧likeC z c:=by
 unfold wideS at h
 split at h
 ·rename_i z hz;exact⟨z,hT.key t z hz h.1,h.2⟩
 ·exact h.elim
theorem zar{t:Ty}{x y:Cont}(hx:wideS t x)(hy:wideS t y)(h:x.vals=y.vals):x=y:=by
 unfold wideS at hx hy
 split at hx
 ·rename_i z hz
  rw[hz]at hy;exact zlr hx.2 hy.2 h
 ·exact hx.elim
theorem z8y{P:Program}{ty:Nat→Ty}(hT:TyOK P ty){t:Nat}{x y:Cont}(hx:wideS (ty t) x)(hy:wideS (ty t) y):
  P.eqGuardType P.depth t=false∧∀ w,∃ b:Bool,(b=true↔x=y)∧(Op.equal t (.agg x.vals.toArray) (.agg y.vals.toArray)).run P w= .ok b w:=by
 obtain⟨z,hk,hzx⟩:=z6r hT hx;obtain⟨z',hk',hzy⟩:=z6r hT hy;obtain⟨lx,hlx⟩:=hk.keyOf hzx;obtain⟨ly,hly⟩:=hk'.keyOf hzy;refine⟨hk.guard,fun w=>?_⟩;obtain⟨b,hb,he⟩:=run_equal_deep w (m:=20) (by decide) hk.deep hk.wide hlx hly;refine⟨b,he.trans ⟨fun e=>?_,fun e=>?_⟩,hb⟩
 ·have:=hk.law.inj hlx (e▸hly)
  exact zar hx hy (by simpa using this)
 ·subst e;rw[hlx]at hly;exact Option.some.inj hly

theorem zek{ty:Nat→Ty}{op:BinOp}{t:TypeId}{a b:SV}{K:SV→Prop}(h:binS ty op t a b K):a.flat=true∧b.flat=true:=by
 unfold binS at h
 split at h
 ·exact⟨rfl,rfl⟩
 ·exact⟨rfl,rfl⟩
 ·exact⟨rfl,rfl⟩
 ·exact⟨rfl,rfl⟩
 ·exact⟨rfl,rfl⟩
 ·exact⟨rfl,rfl⟩
 ·split at h
  ·cases op<;>simp only[arrS]at h<;>first|exact h.elim|skip
   all_goals
    unfold zee at h
    split at h<;>first|exact⟨rfl,rfl⟩|exact h.elim
  ·cases op<;>simp only[zg8]at h<;>first|exact h.elim|exact⟨z8x h.1,z8x h.2.1⟩
  ·exact h.elim
 ·exact h.elim
theorem z64{left:Bool}{x:SV}{n:Int}{K:SV→Prop}(h:zi8 left x n K):x.flat=true:=by
 obtain⟨_,h⟩:=h
 split at h<;>first|rfl|exact h.elim
theorem zge{x:SV}{K:Int→Prop}(h:zan x K):x.flat=true:=by
 unfold zan at h
 split at h<;>first|rfl|exact h.elim
theorem zkm{k:IntKind}{x:SV}{K:SV→Prop}(h:convS k x K):x.flat=true:=by
 unfold convS at h
 split at h<;>first|rfl|exact h.elim

theorem zic{ty:Nat→Ty}(hT:TyOK P ty){op:BinOp}{t:TypeId}{a b:SV}{K:SV→Prop}{x y:Operand}(hs:op≠ .shl)(hr:op≠ .shr)(h:binS ty op t a b K):
  ∃ c:Cell,K (.c c)∧c.flat=true∧∀ (w:World),(do eqGuard op t x y a.val b.val;binOp op t a.val b.val:Sem Value).run P w= .ok (c.val) w:=by
 unfold binS at h
 split at h
 ·obtain⟨rfl,h⟩:=h
  obtain⟨c,hc,hb,hrun⟩:=zkh (P:=P) (t:=t) hs hr h;exact⟨c,hc,hb,fun w=>z1f (z1h (by simp[SV.val,Cell.val]) (by simp[SV.val,Cell.val])) (hrun w)⟩
 ·obtain⟨c,hc,hb,hrun⟩:=zls (P:=P) (t:=t) hs hr h
  exact⟨c,hc,hb,fun w=>z1f (z1h (by simp[SV.val,Cell.val]) (by simp[SV.val,Cell.val])) (hrun w)⟩
 ·obtain⟨c,hc,hb,hrun⟩:=zki (P:=P) (t:=t) hs hr h
  exact⟨c,hc,hb,fun w=>z1f (z1h (by simp[SV.val,Cell.val]) (by simp[SV.val,Cell.val])) (hrun w)⟩
 ·obtain⟨c,hc,hb,hrun⟩:=zkj (P:=P) (t:=t) hs hr h
  exact⟨c,hc,hb,fun w=>z1f (z1h (by simp[SV.val,Cell.val]) (by simp[SV.val,Cell.val])) (hrun w)⟩
 ·rename_i x y
  have e:((⟨x.toArray⟩:ByteArray).toList==(⟨y.toArray⟩:ByteArray).toList)=decide (x=y):=by
   rw[ByteArray.toList_eq,ByteArray.toList_eq,Bool.eq_iff_iff];simp
  cases op<;>simp only[strS]at h<;>try(exact h.elim)
  ·exact⟨_,h.2,rfl,fun w=>z1f (z1h (by simp[SV.val,Cell.val]) (by simp[SV.val,Cell.val])) (by
    have hs1:(⟨x.toArray⟩:ByteArray).size=x.length:=by simp[ByteArray.size]
    have hs2:(⟨y.toArray⟩:ByteArray).size=y.length:=by simp[ByteArray.size]
    have hle:=h.1
    simp only[SV.val,Cell.val,binOp,Op.stringOp,hs1,hs2]
    have hm:IntKind.i64.max=9223372036854775807:=by decide
    rw[if_neg (by rw[hm];omega)]
    simp only[Sem.run_pure]
    congr 2)⟩
  ·exact⟨_,h,rfl,fun w=>z1f (z1h (by simp[SV.val,Cell.val]) (by simp[SV.val,Cell.val])) (by simp only[SV.val,Cell.val,binOp,Op.stringOp,e,Sem.run_pure])⟩
  ·exact⟨_,h,rfl,fun w=>z1f (z1h (by simp[SV.val,Cell.val]) (by simp[SV.val,Cell.val])) (by simp only[SV.val,Cell.val,binOp,Op.stringOp,e,Sem.run_pure])⟩
 ·rename_i x y
  obtain⟨ht,h⟩:=h
  have hu:=hT.bool t ht
  have e:(x==y)=decide (x=y):=by cases x<;>cases y<;>rfl
  cases op<;>simp only[boolS]at h<;>try(exact h.elim)
  ·exact⟨_,h,rfl,fun w=>z1f (z1h (by simp[SV.val,Cell.val]) (by simp[SV.val,Cell.val])) (by simp[SV.val,Cell.val,binOp,run_equal_bool w t x y hu,e])⟩
  ·exact⟨_,h,rfl,fun w=>z1f (z1h (by simp[SV.val,Cell.val]) (by simp[SV.val,Cell.val])) (by simp[SV.val,Cell.val,binOp,run_equal_bool w t x y hu,e])⟩
 ·rename_i x y
  split at h
  ·rename_i n e s z ht
   obtain⟨hu,hes,_⟩:=hT.arr t n e s z ht
   cases op<;>simp only[arrS]at h<;>try(exact h.elim)
   ·obtain⟨b,k,hK,_,_,hie,hrun⟩:=zej hT ht h
    exact⟨_,hK,rfl,fun w=>z1f (z81 hu hie) (by simp only[SV.val,binOp,Sem.run_bind,hrun];rfl)⟩
   ·obtain⟨b,k,hK,_,_,hie,hrun⟩:=zej hT ht h
    exact⟨_,hK,rfl,fun w=>z1f (z81 hu hie) (by simp only[SV.val,binOp,Sem.run_bind,hrun];rfl)⟩
  ·rename_i fs n z ht
   rw[←ht]at h
   have guard:∀ (w:World) (x y:Operand) (a b:Array Value),P.eqGuardType P.depth t=false→(eqGuard op t x y (.agg a) (.agg b)).run P w= .ok () w:=fun w x y a b hg=>by cases op<;>simp[eqGuard,hg]
   cases op<;>simp only[zg8]at h<;>try(exact h.elim)
   ·obtain⟨h1,h2,hK⟩:=h
    obtain⟨hg,hrun⟩:=z8y hT h1 h2
    haveI:=Classical.propDecidable (x=y)
    have hd:∀ w,(Op.equal t (.agg x.vals.toArray) (.agg y.vals.toArray)).run P w= .ok (decide (x=y)) w:=fun w=>by
     obtain⟨b,hb,hr⟩:=hrun w;rw[hr];congr 1;rw[Bool.eq_iff_iff,hb];simp
    exact⟨_,hK (decide (x=y)) (by simp),rfl,fun w=>z1f (guard w _ _ _ _ hg) (by simp only[SV.val,binOp,Sem.run_bind,hd];rfl)⟩
   ·obtain⟨h1,h2,hK⟩:=h
    obtain⟨hg,hrun⟩:=z8y hT h1 h2
    haveI:=Classical.propDecidable (x=y)
    have hd:∀ w,(Op.equal t (.agg x.vals.toArray) (.agg y.vals.toArray)).run P w= .ok (decide (x=y)) w:=fun w=>by
     obtain⟨b,hb,hr⟩:=hrun w;rw[hr];congr 1;rw[Bool.eq_iff_iff,hb];simp
    exact⟨_,hK (decide (x=y)) (by simp),rfl,fun w=>z1f (guard w _ _ _ _ hg) (by simp only[SV.val,binOp,Sem.run_bind,hd];rfl)⟩
  ·exact h.elim
 ·exact h.elim

theorem zlu{k:IntKind}{x:SV}{K:SV→Prop}{src dst:TypeId}{d:TypeDesc}(hsrc:P.underlying src=some d)(hd:P.underlying dst=some (.int k))(h:convS k x K):
  ∃ c:Cell,K (.c c)∧c.flat=true∧∀ (w:World),(convert src dst x.val).run P w= .ok (c.val) w:=by
 have key:∀ (k':IntKind) (n m:Int) (w:World),k.wrap n=m→(convert src dst (.int k' n)).run P w= .ok (.int k m) w:=by
  rintro k' n m w rfl
  simp[convert,run_underlying hsrc,run_underlying hd,Conv.intToInt]
 unfold convS at h
 split at h
 ·rename_i x
  have hx:=u8_lt x
  split at h
  ·exact⟨_,h,rfl,fun w=>key _ _ _ w (by rw[IntKind.wrap_u8];omega)⟩
  ·exact⟨_,h,rfl,fun w=>key _ _ _ w (by rw[IntKind.wrap_u32,UInt8.toNat_toUInt32];omega)⟩
  ·exact⟨_,h,rfl,fun w=>key _ _ _ w (by rw[IntKind.wrap_u64,UInt8.toNat_toUInt64];omega)⟩
  ·exact⟨_,h,rfl,fun w=>key _ _ _ w (by rw[IntKind.wrap_i64];omega)⟩
  ·exact h.elim
 ·rename_i x
  have hx:=zia x
  split at h
  ·exact⟨_,h,rfl,fun w=>key _ _ _ w (by rw[IntKind.wrap_u8,UInt32.toNat_toUInt8];omega)⟩
  ·exact⟨_,h,rfl,fun w=>key _ _ _ w (by rw[IntKind.wrap_u32];omega)⟩
  ·exact⟨_,h,rfl,fun w=>key _ _ _ w (by rw[IntKind.wrap_u64,UInt32.toNat_toUInt64];omega)⟩
  ·exact⟨_,h,rfl,fun w=>key _ _ _ w (by rw[IntKind.wrap_i64];omega)⟩
  ·exact h.elim
 ·rename_i x
  have hx:=zib x
  split at h
  ·exact⟨_,h,rfl,fun w=>key _ _ _ w (by rw[IntKind.wrap_u8,UInt64.toNat_toUInt8];omega)⟩
  ·exact⟨_,h,rfl,fun w=>key _ _ _ w (by rw[IntKind.wrap_u32,UInt64.toNat_toUInt32];omega)⟩
  ·exact⟨_,h,rfl,fun w=>key _ _ _ w (by rw[IntKind.wrap_u64];omega)⟩
  ·exact⟨_,h.2,rfl,fun w=>key _ _ _ w (z62 h.1)⟩
  ·exact h.elim
 ·rename_i k' x
  split at h
  ·exact⟨_,h,rfl,fun w=>key _ _ _ w (by rw[IntKind.wrap_u8];simp[UInt8.ofInt];omega)⟩
  ·exact⟨_,h,rfl,fun w=>key _ _ _ w (by rw[IntKind.wrap_u32];simp[UInt32.ofInt];omega)⟩
  ·exact⟨_,h,rfl,fun w=>key _ _ _ w (by rw[IntKind.wrap_u64];simp[UInt64.ofInt];omega)⟩
  ·exact⟨_,h.2,rfl,fun w=>key _ _ _ w (z62 h.1)⟩
 ·exact h.elim
end Go.Ab

namespace Go.Ab
set_option linter.all false
open Go.RowKit

theorem z3m(b o j:Nat):(⟨b,o,none⟩:Addr).add j=⟨b,o+j,none⟩:=by
 unfold Addr.add;split<;>simp_all
theorem zas{Q:Nat→Value→Prop}:∀ (m:Nat),(∀ j,j< m→∃ u,Q j u)→∃ vs:List Value,vs.length=m∧∀ j,j< m→∃ u,vs[j]? =some u∧Q j u
 |0,_=>⟨[],rfl,fun j hj=>absurd hj (Nat.not_lt_zero j)⟩
 | m+1,h=>by
  obtain⟨vs,h1,h2⟩:=zas m fun j hj=>h j (by omega);obtain⟨u,hu⟩:=h m (by omega);refine⟨vs++[u],by simp[h1],fun j hj=>?_⟩
  by_cases e:j< m
  ·obtain⟨x,hx,hq⟩:=h2 j e
   exact⟨x,by rw[List.getElem?_append_left (by omega)];exact hx,hq⟩
  ·obtain rfl:j=m:=by omega
   exact⟨u,by rw[List.getElem?_append_right (by omega)];simp[h1],hu⟩

theorem CellD.pure{I:Nat→Prop}{w:World}{x:Cell}{v:Value}(h:CellD I w x v):x.pureB=true:=by
 cases h with
 |flat x hx=>cases x<;>first|rfl|(simp[Cell.flat]at hx)
 |_=>rfl
theorem Cell.pure_low1{n:Nat}{x:Cell}(h:x.pureB=true):x.low1 n:=by
 cases x<;>first|trivial|(simp[Cell.pureB]at h)
theorem CellD.low{I:Nat→Prop}{w:World}{n:Nat}{x:Cell}{v:Value}(h:CellD I w x v):x.low n:=by
 cases h with
 |flat x hx=>exact Cell.flat_low hx
 |clo f caps g hg=>
  intro y hy;obtain⟨j,hj,rfl⟩:=List.mem_iff_getElem.1 hy
  have:=hg j hj
  rw[List.getD_eq_getElem?_getD,List.getElem?_eq_getElem hj,Option.getD_some]at this;exact Cell.pure_low1 this.pure
 |_=>trivial
theorem DatAt.low{I:Nat→Prop}{w:World}{n:Nat}{c:Cont}{b k:Nat}(hd:DatAt I w c b k):c.low n:=by
 cases c with
 |cells l=>
  intro y hy;obtain⟨j,hj,rfl⟩:=List.mem_iff_getElem.1 hy;obtain⟨z,_,hz⟩:=hd.2 j hj
  have e:(Cont.cells l).get j=l[j]:=by simp[Cont.get,hj]
  rw[e]at hz;exact hz.low
 |_=>trivial

section
variable {P:Program} {ty:Nat→Ty} {t:TypeId} {w:World}
theorem TyOK.isAgg_one(hT:TyOK P ty)(h:(ty t).one=true)(w:World):(isAgg t).run P w= .ok false w:=by
 cases ht:ty t<;>rw[ht]at h<;>simp[Ty.one]at h
 ·have:=hT.int t _ ht;simp[isAgg,run_underlying this]
 ·have:=hT.bool t ht;simp[isAgg,run_underlying this]
 ·have:=hT.str t ht;simp[isAgg,run_underlying this]
 ·have:=(hT.slice t _ _ _ ht).1;simp[isAgg,run_underlying this]
 ·obtain⟨e,he⟩:=hT.ptr t ht;simp[isAgg,run_underlying he]
 ·obtain⟨a,b,c,he⟩:=hT.func t ht;simp[isAgg,run_underlying he]
 ·have:=hT.map t _ _ ht;simp[isAgg,run_underlying this]
theorem TyOK.size_one(hT:TyOK P ty)(h:(ty t).one=true):(P.info? t).map (·.size)=some 1:=by
 have h0:=hT.size t (by intro e;rw[e]at h;simp[Ty.one]at h)
 have:(ty t).size=1:=by cases ht:ty t<;>rw[ht]at h<;>simp[Ty.one]at h<;>rfl
 rw[this]at h0;exact h0
end

section
variable {P:Program} {C:CC} {β:Val} {n:Nat} {H:Heap} {I:Nat→Prop} {w:World} {ty:Nat→Ty}

def z37(β:Val)(I:Nat→Prop)(w:World)(c:Cont)(b k:Nat):Prop:=
 ∀ j,j< c.len→∃ u,(∀ w',Same w w'→w'.cell? ⟨b,k+j,none⟩=some u)∧(c.get j).rel β I w u

theorem DatAt.cellsAt(hH:HeapOK C β n H I w){c:Cont}{b k:Nat}(h:DatAt I w c b k):z37 β I w c b k:=fun j hj=>by
 obtain⟨x,h1,h2⟩:=h.2 j hj;exact⟨x,fun w' hw=>((hH.ext hw).cell h.1).trans h1,Cell.rel_of h2⟩

theorem HeapOK.cellsAt(hH:HeapOK C β n H I w){id:Nat}{t:TypeId}{c:Cont}{cap:Nat}(hid:H.get id=some (.own t c cap)){off:Nat}(ho:off< c.len):∃ b,β id=some b∧z37 β I w c b 0:=by
 obtain⟨b,x,hb,_,_⟩:=(hH.holds id _ hid).cell ho;refine⟨b,hb,fun j hj=>?_⟩;obtain⟨b',x,hb',hc,hr⟩:=(hH.holds id _ hid).cell hj;rw[hb]at hb';cases hb';refine⟨x,fun w' hw=>?_,hr⟩;rw[Nat.zero_add];exact(World.cell?_of_block (hw.block b ((hH.holds id _ hid).lt hb))).trans hc

theorem zel(hH:HeapOK C β n H I w){x:SV}{v:Value}(hx:x.rel β I w v){K:Cont→Nat→Prop}(h:atS H x K):
  ∃ c off,K c off∧c.low n∧(off< c.len→∃ b k,v= .pointer (some ⟨b,k+off,none⟩)∧z37 β I w c b k):=by
 unfold atS at h
 split at h
 ·rename_i id off
  split at h
  ·rename_i t c cap hid
   refine⟨c,off,h,(hH.low id _ hid).2,fun ho=>?_⟩;obtain⟨b,hb,hc⟩:=hH.cellsAt hid ho
   have hv:v= .pointer (place β id off):=hx
   exact⟨b,0,by rw[hv];simp[place,hb],hc⟩
  ·exact h.elim
 ·rename_i c off
  obtain⟨b,k,hv,ho,hd⟩:=CellD.dp_inv (show CellD I w (.dp c off) v from hx)
  have hl:c.low n:=hd.low
  exact⟨c,off,h,hl,fun _=>⟨b,k,hv,hd.cellsAt hH⟩⟩
 ·exact h.elim

theorem z6s{c:Cont}{b k off:Nat}(hc:z37 β I w c b k)(m:Nat)(hm:off+m≤c.len):
  ∃ vs,(c.sub off m).rel β I w vs∧vs.length=m∧∀ w',Same w w'→(loadCells ⟨b,k+off,none⟩ m).run P w'= .ok vs.toArray w':=by
 obtain⟨vs,hl,hv⟩:=zas (Q:=fun j u=>(∀ w',Same w w'→w'.cell? ⟨b,k+(off+j),none⟩=some u)∧(c.get (off+j)).rel β I w u) m fun j hj=>hc (off+j) (by omega);refine⟨vs,⟨by rw[Cont.sub_len];omega,fun j hj=>?_⟩,hl,fun w' hw=>?_⟩
 ·rw[Cont.sub_len]at hj
  obtain⟨u,hu,_,hr⟩:=hv j (by omega);exact⟨u,hu,by rw[Cont.sub_get _ (by omega)];exact hr⟩
 ·have:=run_loadCells_list (P:=P) w' ⟨b,k+off,none⟩ vs fun j v hj=>by
   rw[z3m,Nat.add_assoc]
   have hjm:j< m:=by
    rcases Nat.lt_or_ge j m with h|h
    ·exact h
    ·rw[List.getElem?_eq_none (by omega)]at hj;cases hj
   obtain⟨u,hu,hc,_⟩:=hv j hjm;rw[hu]at hj;cases hj;exact hc w' hw
  rw[hl]at this;exact this

theorem Cont.sub_all(c:Cont):c.sub 0 c.len=c:=by cases c<;>simp[Cont.sub,Cont.drop,Cont.take,Cont.len]

theorem zat(hT:TyOK P ty){t off:Nat}{c:Cont}{v:Value}(hl:c.low n)(hp:off< c.len→∃ b k,v= .pointer (some ⟨b,k+off,none⟩)∧z37 β I w c b k){K:SV→Prop}(h:loadS ty t c off K):
  ∃ sv x,K sv∧sv.low n∧sv.rel β I w x∧∀ w',Same w w'→(Instr.loadAt t v).run P w'= .ok x w':=by
 unfold loadS at h
 have many:∀ m,(isAgg t).run P=(fun w=>.ok true w)→(P.info? t).map (·.size)=some m→0< m→off+m≤c.len→(if off=0∧c.len=m then K (.agg c)else K (.agg (c.sub off m)))→
   ∃ sv x,K sv∧sv.low n∧sv.rel β I w x∧∀ w',Same w w'→(Instr.loadAt t v).run P w'= .ok x w':=by
  intro m hagg hsz hpos hle hK;obtain⟨b,k,rfl,hc⟩:=hp (by omega);obtain⟨vs,hr,hvl,hrun⟩:=z6s (P:=P) hc m hle
  have hrun':∀ w',Same w w'→(Instr.loadAt t (.pointer (some ⟨b,k+off,none⟩))).run P w'= .ok (.agg vs.toArray) w':=fun w' hw=>by
   have ha:=congrFun hagg w'
   simp only[Instr.loadAt,Instr.sureAddr,loadVar,Sem.run_bind,Sem.run_pure,Result.andThen_ok,ha,if_true,run_sizeOf' hsz,hrun w' hw]
  split at hK
  ·rename_i hz
   refine⟨_,.agg vs.toArray,hK,hl,⟨vs,rfl,?_⟩,hrun'⟩;rw[hz.1, ←hz.2,Cont.sub_all]at hr;exact hr
  ·exact⟨_,.agg vs.toArray,hK,Cont.sub_low hl _ _,⟨vs,rfl,hr⟩,hrun'⟩
 have one:(ty t).one=true→(off< c.len∧K (.c (c.get off)))→∃ sv x,K sv∧sv.low n∧sv.rel β I w x∧∀ w',Same w w'→(Instr.loadAt t v).run P w'= .ok x w':=by
  intro hf ⟨h1,h2⟩;obtain⟨b,k,rfl,hc⟩:=hp h1;obtain⟨u,hu,hr⟩:=hc off h1;exact⟨_,u,h2,Cont.get_low hl off,hr,fun w' hw=>by simp[Instr.loadAt,Instr.sureAddr,loadVar,hT.isAgg_one hf w',run_load,hu w' hw]⟩
 cases ht:ty t with
 |other=>simp only[ht]at h
 |arr m e s z=>
  simp only[ht]at h
  obtain⟨hu,_⟩:=hT.arr t m e s z ht
  have hs:=hT.size t (by rw[ht];simp)
  rw[ht]at hs;exact many (m*s) (by funext w;simp[isAgg,run_underlying hu]) hs h.1 h.2.1 h.2.2
 |struct fs m z=>
  simp only[ht]at h
  obtain⟨⟨fields,hu,_⟩,_⟩:=hT.struct t fs m z ht
  have hs:=hT.size t (by rw[ht];simp)
  rw[ht]at hs;exact many m (by funext w;simp[isAgg,run_underlying hu]) hs h.1 h.2.1 h.2.2
 |_=>simp only[ht]at h;exact one (by rw[ht];rfl) h

theorem z5d(hH:HeapOK C β n H I w){x:SV}{v:Value}(hx:x.rel β I w v)(hxl:x.low n){j:Nat}{K:SV→Prop}(h:zcf H x j K):
  ∃ sv b k,K sv∧sv.low n∧v= .pointer (some ⟨b,k,none⟩)∧sv.rel β I w (.pointer (some ⟨b,k+j,none⟩)):=by
 unfold zcf at h
 split at h
 ·rename_i id off
  split at h
  ·rename_i t c cap hid
   obtain⟨b,hb,_⟩:=hH.cellsAt hid h.1
   have hv:v= .pointer (place β id off):=hx
   exact⟨_,b,off,h.2,hxl,by rw[hv];simp[place,hb],by simp[SV.rel,Cell.rel,Cell.rel1,place,hb]⟩
  ·exact h.elim
 ·rename_i c off
  obtain⟨b,k,hv,ho,hd⟩:=CellD.dp_inv (show CellD I w (.dp c off) v from hx);refine⟨_,b,k+off,h.2,trivial,hv,?_⟩
  have:=DatAt.dp hd h.1
  rw[←Nat.add_assoc]at this;exact this
 ·exact h.elim

theorem zem(hT:TyOK P ty)(hH:HeapOK C β n H I w){t:TypeId}{x:SV}{v:Value}(hx:x.rel β I w v)(hxl:x.low n){i:Int}{q:IntKind}{K:SV→Prop}(h:zlm ty H t x i K):
  ∃ sv u,K sv∧sv.low n∧sv.rel β I w u∧∀ w',(Instr.indexAt t v (.int q i)).run P w'= .ok u w':=by
 unfold zlm at h
 split at h
 ·rename_i id off len cap
  split at h
  ·rename_i e s by_ ht
   obtain⟨hu,hes,_⟩:=hT.slice t e s by_ ht;obtain⟨h0,h1,h2⟩:=h;obtain⟨hlc,off',hv,hoff⟩:=hx
   have ho:off'=off:=by rcases hoff with h|h<;>omega
   subst ho;obtain⟨sv,b,k,hK,hlow,hp,hr⟩:=z5d hH (x:=.c (.ptr id off')) (v:=.pointer (place β id off')) rfl hxl h2;refine⟨sv,_,hK,hlow,hr,fun w'=>?_⟩
   have hpl:place β id off'=some ⟨b,k,none⟩:=by simpa using hp
   simp[Instr.indexAt,asIntOf,run_underlying hu,hv,hpl,h0,h1,run_sizeOf' hes,z3m]
  ·exact h.elim
 ·rename_i m c
  split at h
  ·rename_i e s by_ ht
   obtain⟨hu,hes,_⟩:=hT.slice t e s by_ ht;obtain⟨h0,h1,h2,h3⟩:=h;obtain⟨a,cap,hv,hn,hd⟩:=CellD.ds_inv (show CellD I w (.ds m c) v from hx)
   rcases hd with⟨hz,_⟩|⟨b,off,ha,hd⟩
   ·omega
   ·refine⟨_,.pointer (some ⟨b,off+i.toNat*s,none⟩),h3,trivial,DatAt.dp hd h2,fun w'=>?_⟩
    simp[Instr.indexAt,asIntOf,run_underlying hu,hv,ha,h0,h1,run_sizeOf' hes,z3m]
  ·exact h.elim
 ·split at h
  ·rename_i m e s z ht
   obtain⟨hu,hes,_⟩:=hT.arr t m e s z ht;obtain⟨h0,h1,h2⟩:=h;obtain⟨sv,b,k,hK,hlow,hv,hr⟩:=z5d hH hx hxl h2;refine⟨sv,_,hK,hlow,hr,fun w'=>?_⟩
   simp[Instr.indexAt,asIntOf,run_underlying hu,hv,Instr.sureAddr,h0,h1,run_sizeOf' hes,z3m]
  ·exact h.elim

theorem TyOK.field(hT:TyOK P ty){t m:Nat}{fs:List (Nat×Nat×TypeId)}{z:Cont}(ht:ty t= .struct fs m z){f off sz te:Nat}(hf:fs[f]? =some (off,sz,te)):
  ∃ fields:Array Field,P.underlying t=some (.struct fields)∧∃ fd:Field,fields[f]? =some fd∧fd.offset=off∧fd.type=te∧(P.info? te).map (·.size)=some sz:=by
 obtain⟨⟨fields,hu,hm,hs⟩,_⟩:=hT.struct t fs m z ht;refine⟨fields,hu,?_⟩
 have h1:(fs.map (fun f=>(f.1,f.2.2)))[f]? =some (off,te):=by simp[hf]
 rw[←hm,List.getElem?_map]at h1;obtain⟨fd,hfd,he⟩:=Option.map_eq_some_iff.1 h1
 have h2:fd.offset=off∧fd.type=te:=by simpa using he
 exact⟨fd,by simpa using hfd,h2.1,h2.2,hs _ (List.mem_of_getElem? hf)⟩

theorem za7(hT:TyOK P ty)(hH:HeapOK C β n H I w){t:TypeId}{x:SV}{v:Value}(hx:x.rel β I w v)(hxl:x.low n){f:Nat}{K:SV→Prop}(h:z8u ty H t x f K):
  ∃ sv u,K sv∧sv.low n∧sv.rel β I w u∧∀ w',(Instr.fieldAt t v f).run P w'= .ok u w':=by
 unfold z8u at h
 split at h
 ·rename_i fs m z ht
  split at h
  ·rename_i off sz te hf
   obtain⟨hsz,h⟩:=h;obtain⟨fields,hu,fd,hfd,h1,h2,h3⟩:=hT.field ht hf;obtain⟨sv,b,k,hK,hlow,hv,hr⟩:=z5d hH hx hxl h;refine⟨sv,_,hK,hlow,hr,fun w'=>?_⟩
   have h3':(P.info? fd.type).map (·.size)=some sz:=by rw[h2];exact h3
   have h4:¬ (sz=0):=by omega
   simp[Instr.fieldAt,run_underlying hu,hfd,hv,Instr.sureAddr,fieldPlace,run_sizeOf' h3',h4,h1,z3m]
  ·exact h.elim
 ·exact h.elim

theorem zen(hT:TyOK P ty){t:TypeId}{x:SV}{v:Value}(hx:x.rel β I w v)(hxl:x.low n){f:Nat}{K:SV→Prop}(h:zln ty t x f K):
  ∃ sv u,K sv∧sv.low n∧sv.rel β I w u∧∀ w',(Instr.field t v f).run P w'= .ok u w':=by
 unfold zln at h
 split at h
 ·rename_i fs m z c ht
  split at h
  ·rename_i off sz te hf
   obtain⟨hle,h⟩:=h;obtain⟨fields,hu,fd,hfd,h1,h2,h3⟩:=hT.field ht hf;obtain⟨vs,hv,hr⟩:=hx;subst h1 h2
   split at h
   ·rename_i ho
    obtain⟨rfl,hK⟩:=h;obtain⟨u,hu',hr'⟩:=hr.2 fd.offset (by omega);refine⟨_,u,hK,Cont.get_low hxl _,hr',fun w'=>?_⟩
    simp[Instr.field,run_underlying hu,hfd,hv,asAgg,part,hT.isAgg_one ho w',hu']
   ·obtain⟨hq,_,h0,hK⟩:=h
    refine⟨_,.agg ((vs.drop fd.offset).take sz).toArray,hK,Cont.sub_low hxl _ _,⟨_,rfl,Cont.rel_sub hr hle⟩,fun w'=>?_⟩
    have ha:(isAgg fd.type).run P w'= .ok true w':=by
     split at hq
     ·rename_i ht';have:=(hT.arr _ _ _ _ _ ht').1;simp[isAgg,run_underlying this]
     ·rename_i ht';obtain⟨fl,this,_⟩:=(hT.struct _ _ _ _ ht').1;simp[isAgg,run_underlying this]
     ·exact hq.elim
    have e:(vs.toArray.extract fd.offset (fd.offset+sz))=((vs.drop fd.offset).take sz).toArray:=by simp
    simp only[Instr.field,Sem.run_bind,run_underlying hu,Result.andThen_ok,hfd,hv,asAgg,Sem.run_pure,part,ha,if_true,run_sizeOf' h3,e]
  ·exact h.elim
 ·exact h.elim

def z7o(x:Option Value)(i:Option Int):Prop:=match x,i with
 |none,none=>True
 |some (.int _ n),some i=>n=i
 |_,_=>False

theorem run_sliceBounds'{b:Bool}{len cap:Nat}{lo hi:Option Value}{l h:Option Int}(hlo:z7o lo l)(hhi:z7o hi h)(h0:0≤l.getD 0)(h1:l.getD 0≤h.getD len)(h2:h.getD len≤cap)(w:World):
  (Instr.sliceBounds b len cap lo hi none).run P w= .ok ((l.getD 0).toNat,(h.getD len).toNat,cap) w:=by
 unfold Instr.sliceBounds
 have hB:∀ (k:IntKind) (i:Int) (y:Nat) (c:BoundsCode),0≤i→i≤y→(Instr.sliceBound (.int k i) y c).run P w= .ok i.toNat w:=fun k i y c a b=>run_sliceBound w k i y c a b
 cases hi with
 | none=>
  cases h with
  |some _=>exact hhi.elim
  | none=>
   cases lo with
   |none=>cases l with
    |some _=>exact hlo.elim
    |none=>simp
   | some lv=>cases l with
    |none=>cases lv<;>exact hlo.elim
    |some l=>
     cases lv<;>simp only[z7o]at hlo
     subst hlo
     simp only[Option.getD_some,Option.getD_none]at h0 h1
     simp[hB _ _ _ _ h0 h1]
 | some hv=>cases h with
  |none=>cases hv<;>exact hhi.elim
  | some h=>
   cases hv<;>simp only[z7o]at hhi
   subst hhi
   simp only[Option.getD_some]at h1 h2
   have hh:=hB
   cases lo with
   | none=>cases l with
    |some _=>exact hlo.elim
    |none=>
     simp only[Option.getD_none]at h1
     simp[hB _ _ _ _ h1 h2]
   | some lv=>cases l with
    |none=>cases lv<;>exact hlo.elim
    |some l=>
     cases lv<;>simp only[z7o]at hlo
     subst hlo
     simp only[Option.getD_some]at h0 h1
     rename_i q _ _
     simp[hB _ _ _ _ (Int.le_trans h0 h1) h2,hB _ _ _ _ h0 (show _≤((q.toNat:Nat):Int) by omega)]

theorem zci{m s:Nat}{c:Cont}{lo hi:Option Int}{K:SV→Prop}(hs:0< s)(hc:c.len=m*s)(h:cutS m s c lo hi K):
  (0≤lo.getD 0∧lo.getD 0≤hi.getD m∧hi.getD m≤m)∧∃ c',K (.c (.ds ((hi.getD m).toNat - (lo.getD 0).toNat) c'))∧c'.len=((hi.getD m).toNat - (lo.getD 0).toNat)*s∧∀ (I:Nat→Prop) (w:World) b off,DatAt I w c b off→DatAt I w c' b (off+(lo.getD 0).toNat*s):=by
 unfold cutS at h
 split at h
 ·refine⟨⟨by simp,by simp,by simp⟩,c,by simpa using h,by simpa using hc,fun I w b off hd=>by simpa using hd⟩
 ·rename_i l
  obtain⟨h0,h1,h2⟩:=h;refine⟨⟨h0,by simpa using h1,by simp⟩,c.drop (l.toNat*s),by simpa using h2,?_,fun I w b off hd=>?_⟩
  ·simp only[Option.getD_some,Option.getD_none,Int.toNat_natCast,Cont.drop_len,hc,Nat.sub_mul]
  ·simpa using hd.drop _
 ·rename_i h'
  obtain⟨h0,h1,h2⟩:=h;refine⟨⟨by simp,by simpa using h0,by simpa using h1⟩,c.take (h'.toNat*s),by simpa using h2,?_,fun I w b off hd=>?_⟩
  ·simp only[Option.getD_some,Option.getD_none,Int.toNat_zero,Nat.sub_zero,Cont.take_len,hc]
   have:h'.toNat*s≤m*s:=Nat.mul_le_mul_right _ (by omega)
   omega
  ·simpa using hd.take _
 ·rename_i l h'
  obtain⟨h0,h1,h2,h3⟩:=h
  have h4:(l.toNat*s)+(h'.toNat - l.toNat)*s≤m*s:=by
   rw[←Nat.add_mul];exact Nat.mul_le_mul_right _ (by omega)
  refine⟨⟨h0,by simpa using h1,by simpa using h2⟩,_,by simpa using h3,?_,fun I w b off hd=>?_⟩
  ·simp only[Option.getD_some,Cont.sub_len,hc];omega
  ·simpa using hd.sub (i:=l.toNat*s) (m:=(h'.toNat - l.toNat)*s) (by omega)

theorem z2d(hT:TyOK P ty)(hH:HeapOK C β n H I w){t:TypeId}{x:SV}{v:Value}(hx:x.rel β I w v)(hxl:x.low n){lo hi:Option Value}{l h:Option Int}(hlo:z7o lo l)(hhi:z7o hi h){K:SV→Prop}(hs:zcg ty H t x l h K):
  ∃ sv u,K sv∧sv.low n∧sv.rel β I w u∧∀ w',(Instr.sliceAt t v lo hi none).run P w'= .ok u w':=by
 unfold zcg at hs
 split at hs
 ·rename_i id off len cap
  split at hs
  ·rename_i e s by_ ht
   obtain⟨hu,hes,_⟩:=hT.slice t e s by_ ht;obtain⟨h0,h1,h2,h3⟩:=hs;obtain⟨hlc,off',hv,hoff⟩:=hx;refine⟨_,.slice (if cap=(l.getD 0).toNat then place β id off' else(place β id off').map (·.add ((l.getD 0).toNat*s))) ((h.getD len).toNat - (l.getD 0).toNat) (cap - (l.getD 0).toNat),h3,hxl,⟨by omega,?_⟩,fun w'=>?_⟩
   ·split
    ·rename_i e
     exact⟨off',rfl,.inr (by omega)⟩
    ·rename_i e
     refine⟨off'+(l.getD 0).toNat*s,?_,?_⟩
     ·unfold place;cases β id<;>simp[z3m]
     ·rcases hoff with rfl|h
      ·exact .inl rfl
      ·exact absurd (by omega) e
   ·simp only[Instr.sliceAt,Instr.slice,Sem.run_bind,run_underlying hu,Result.andThen_ok,hv,run_sliceBounds' (P:=P) (b:=true) hlo hhi h0 h1 h2 w',run_sizeOf' hes,Sem.run_pure]
  ·exact hs.elim
 ·rename_i m c
  split at hs
  ·rename_i e s by_ ht
   obtain⟨hu,hes,z,_,_,hs0⟩:=hT.slice t e s by_ ht;obtain⟨hc,hs⟩:=hs;obtain⟨⟨h0,h1,h2⟩,c',hK,hc',hd'⟩:=zci hs0 hc hs;obtain⟨a,cap,hv,hn,hd⟩:=CellD.ds_inv (show CellD I w (.ds m c) v from hx);refine⟨_,.slice (if cap=(l.getD 0).toNat then a else a.map (·.add ((l.getD 0).toNat*s))) ((h.getD m).toNat - (l.getD 0).toNat) (cap - (l.getD 0).toNat),hK,trivial,?_,fun w'=>?_⟩
   ·show CellD I w _ _
    by_cases hz:(h.getD m).toNat - (l.getD 0).toNat=0
    ·rw[hz]at hc' ⊢
     exact .ds0 c' _ _ (by simpa using hc')
    ·rcases hd with⟨_,hm0⟩|⟨b,off,ha,hd⟩
     ·omega
     ·subst ha
      rw[if_neg (by omega)]
      simp only[Option.map_some,z3m]
      exact(hd' I w b off hd).ds (by omega) (fun h0=>by rw[hc']at h0;rcases Nat.mul_eq_zero.1 h0 with h|h<;>omega)
   ·simp only[Instr.sliceAt,Instr.slice,Sem.run_bind,run_underlying hu,Result.andThen_ok,hv,run_sliceBounds' (P:=P) (b:=true) hlo hhi h0 h1 (show h.getD (m:Int)≤(cap:Nat) by omega) w',run_sizeOf' hes,Sem.run_pure]
  ·exact hs.elim
 ·split at hs
  ·rename_i e s by_ ht
   obtain⟨hu,hes,_⟩:=hT.slice t e s by_ ht;obtain⟨h0,h1,h3⟩:=hs
   have hv:v= .slice none 0 0:=CellD.of_flat rfl hx
   refine⟨_,.slice none 0 0,h3,trivial,CellD.flat _ rfl,fun w'=>?_⟩
   simp only[Instr.sliceAt,Instr.slice,Sem.run_bind,run_underlying hu,Result.andThen_ok,hv,run_sliceBounds' (P:=P) (b:=true) (len:=0) (cap:=0) hlo hhi (by omega) (by simp[h0,h1]) (by simp[h1]) w',run_sizeOf' hes,Sem.run_pure]
   simp[h0,h1]
  ·exact hs.elim
 ·rename_i id off
  split at hs
  ·rename_i m e s z ht
   obtain⟨hu,hes,_⟩:=hT.arr t m e s z ht;obtain⟨hth,h0,h1,h2,h3⟩:=hs
   split at hth
   ·rename_i t' c cap hid
    obtain⟨b,hb,_⟩:=hH.cellsAt hid hth
    have hv:v= .pointer (some ⟨b,off,none⟩):=by have:v= .pointer (place β id off):=hx;rw[this];simp[place,hb]
    refine⟨_,.slice (some (if m=(l.getD 0).toNat then⟨b,off,none⟩ else(⟨b,off,none⟩:Addr).add ((l.getD 0).toNat*s))) ((h.getD m).toNat - (l.getD 0).toNat) (m - (l.getD 0).toNat),h3,hxl,⟨by omega,?_⟩,fun w'=>?_⟩
    ·split
     ·rename_i e
      exact⟨off,by simp[place,hb],.inr (by omega)⟩
     ·exact⟨off+(l.getD 0).toNat*s,by simp[place,hb,z3m],.inl rfl⟩
    ·simp only[Instr.sliceAt,Sem.run_bind,run_underlying hu,Result.andThen_ok,hv,Instr.sureAddr,run_sliceBounds' (P:=P) (b:=false) hlo hhi h0 h1 h2 w',run_sizeOf' hes,Sem.run_pure]
   ·exact hth.elim
  ·exact hs.elim
 ·rename_i c off
  split at hs
  ·rename_i m e s z ht
   obtain⟨hu,hes,_⟩:=hT.arr t m e s z ht;obtain⟨hpos,hle,hs⟩:=hs;obtain⟨b,k,hv,ho,hd⟩:=CellD.dp_inv (show CellD I w (.dp c off) v from hx)
   have hs0:0< s:=Nat.pos_of_ne_zero (fun e=>by simp[e]at hpos)
   obtain⟨c1,hc1,hd1,hs⟩:∃ c1:Cont,c1.len=m*s∧DatAt I w c1 b (k+off)∧cutS m s c1 l h K:=by
    split at hs
    ·rename_i hz
     exact⟨c,hz.2,by rw[hz.1];exact hd,hs⟩
    ·exact⟨_,by rw[Cont.sub_len];omega,hd.sub hle,hs⟩
   obtain⟨⟨h0,h1,h2⟩,c',hK,hc',hd'⟩:=zci hs0 hc1 hs;refine⟨_,.slice (some (if m=(l.getD 0).toNat then⟨b,k+off,none⟩ else(⟨b,k+off,none⟩:Addr).add ((l.getD 0).toNat*s))) ((h.getD m).toNat - (l.getD 0).toNat) (m - (l.getD 0).toNat),hK,trivial,?_,fun w'=>?_⟩
   ·show CellD I w _ _
    by_cases hz:(h.getD m).toNat - (l.getD 0).toNat=0
    ·rw[hz]at hc' ⊢
     exact .ds0 c' _ _ (by simpa using hc')
    ·rw[if_neg (by omega),z3m]
     exact(hd' I w b _ hd1).ds (by omega) (fun h0=>by rw[hc']at h0;rcases Nat.mul_eq_zero.1 h0 with h|h<;>omega)
   ·simp only[Instr.sliceAt,Sem.run_bind,run_underlying hu,Result.andThen_ok,hv,Instr.sureAddr,run_sliceBounds' (P:=P) (b:=false) hlo hhi h0 h1 h2 w',run_sizeOf' hes,Sem.run_pure]
  ·exact hs.elim
 ·rename_i str
  split at hs
  ·rename_i ht
   have hu:=hT.str t ht
   obtain⟨h0,h1,h2,h3⟩:=hs
   have hv:v=(Cell.str str).val:=CellD.of_flat rfl hx
   refine⟨_,_,h3,trivial,Cell.rel_val (β:=β) (x:=.str _) rfl,fun w'=>?_⟩
   have hsz:(⟨str.toArray⟩:ByteArray).size=str.length:=by simp[ByteArray.size]
   have hbs:=run_sliceBounds' (P:=P) (b:=false) (len:=str.length) (cap:=str.length) hlo hhi h0 h1 h2 w'
   simp only[Instr.sliceAt,Instr.slice,Sem.run_bind,run_underlying hu,Result.andThen_ok,hv,Cell.val,hsz,Option.isSome_none,Bool.false_eq_true,if_false,hbs,Sem.run_pure]
   congr 2
   apply ByteArray.ext
   simp[List.take_drop]
  ·exact hs.elim
 ·exact hs.elim
end
end Go.Ab

namespace Go.Ab
set_option linter.all false
open Go.RowKit
section
variable {P:Program} {C:CC} {β:Val} {n:Nat} {H:Heap} {I:Nat→Prop} {w:World} {ty:Nat→Ty} {glob:Nat→Option Cont} {E:Env} {a:Act}

theorem z37.sub{c:Cont}{b k:Nat}(h:z37 β I w c b k){i m:Nat}(hm:i+m≤c.len):z37 β I w (c.sub i m) b (k+i):=fun j hj=>by
 rw[Cont.sub_len]at hj;rw[Cont.sub_get _ (by omega),Nat.add_assoc];exact h _ (by omega)

theorem zlv(hH:HeapOK C β n H I w){s:Nat}{x:SV}{v:Value}(hx:x.rel β I w v){K:Nat→Cont→Prop}(hns:∀ t,x≠ .c (.str t))(h:srcS H s x K):
  ∃ m c,K m c∧c.len=m*s∧c.low n∧∃ ad cap,v= .slice ad m cap∧(c.len=0∨∃ b k,ad=some ⟨b,k,none⟩∧z37 β I w c b k):=by
 unfold srcS at h
 split at h
 ·have hv:v= .slice none 0 0:=CellD.of_flat rfl hx
  exact⟨0,_,h,by simp[Cont.len],(fun x hx=>by cases hx),none,0,hv,.inl rfl⟩
 ·rename_i m c
  obtain⟨hc,hK⟩:=h;obtain⟨ad,cap,hv,_,hd⟩:=CellD.ds_inv (show CellD I w (.ds m c) v from hx)
  rcases hd with⟨h0,rfl⟩|⟨b,off,ha,hd⟩
  ·refine⟨0,c,hK,hc,?_,ad,cap,hv,.inl h0⟩
   cases c with
   |cells l=>intro y hy;simp only[Cont.len]at h0;rw[List.eq_nil_of_length_eq_zero h0]at hy;cases hy
   |_=>trivial
  ·exact⟨m,c,hK,hc,hd.low,ad,cap,hv,.inr ⟨b,off,ha,hd.cellsAt hH⟩⟩
 ·rename_i id off m cap
  split at h
  ·rename_i t c capc hid
   obtain⟨hle,hK⟩:=h;obtain⟨hlc,off',hv,hoff⟩:=hx
   have key:∃ c1:Cont,K m c1∧c1.len=m*s∧c1.low n∧(c1.len=0∨∃ b,β id=some b∧off'=off∧z37 β I w c1 b off):=by
    have hb:0< m*s→∃ b,β id=some b∧off'=off∧z37 β I w c b 0:=fun hpos=>by
     obtain⟨b,hb,hc⟩:=hH.cellsAt hid (off:=off) (by omega);refine⟨b,hb,?_,hc⟩
     rcases hoff with h|h
     ·exact h
     ·have:m=0:=by omega
      subst this;simp at hpos
    unfold z6p at hK
    split at hK
    ·rename_i hz
     refine⟨c,hK,hz.2,(hH.low id _ hid).2,?_⟩
     by_cases hpos:0< m*s
     ·obtain⟨b,h1,h2,h3⟩:=hb hpos
      exact .inr ⟨b,h1,h2,by rw[hz.1];exact h3⟩
     ·exact .inl (by omega)
    ·refine⟨_,hK,by rw[Cont.sub_len];omega,Cont.sub_low (hH.low id _ hid).2 _ _,?_⟩
     by_cases hpos:0< m*s
     ·obtain⟨b,h1,h2,h3⟩:=hb hpos
      exact .inr ⟨b,h1,h2,by have:=h3.sub hle;rwa [Nat.zero_add]at this⟩
     ·exact .inl (by rw[Cont.sub_len];omega)
   obtain⟨c1,K1,hl1,hlow,h1⟩:=key;refine⟨m,c1,K1,hl1,hlow,_,cap,hv,?_⟩
   rcases h1 with h1|⟨b,hb,rfl,hc⟩
   ·exact .inl h1
   ·exact .inr ⟨b,off',by simp[place,hb],hc⟩
  ·exact h.elim
 ·rename_i t
  exact absurd rfl (hns t)
 ·exact h.elim

structure Src(P:Program)(size m:Nat)(news:List Value)(x:Value)(w:World):Prop where
 len:(Builtin.lenOf x).run P w= .ok m w
 first:(Builtin.firstCells size m x).run P w= .ok news.toArray w
 size:news.length=m*size

theorem zau(hH:HeapOK C β n H I w){s:Nat}{x:SV}{v:Value}(hx:x.rel β I w v){K:Nat→Cont→Prop}(h:srcS H s x K):
  ∃ m c,K m c∧c.len=m*s∧c.low n∧∃ news,c.rel β I w news∧∀ w',Same w w'→Src P s m news v w':=by
 by_cases hs:∃ t,x= .c (.str t)
 ·obtain⟨t,rfl⟩:=hs
  obtain⟨rfl,hK⟩:=h
  have hv:v=(Cell.str t).val:=CellD.of_flat rfl hx
  refine⟨t.length,_,hK,by simp[Cont.len],trivial,(Cont.u8s t).vals,(Cont.rel_flat rfl).2 rfl,fun w' _=>⟨?_,?_,by simp[Cont.vals_length,Cont.len]⟩⟩
  ·simp[hv,Cell.val,Builtin.lenOf,ByteArray.size]
  ·simp only[hv,Cell.val,Builtin.firstCells,Sem.run_pure]
   congr 1
   have:(⟨t.toArray⟩:ByteArray).extract 0 t.length=⟨t.toArray⟩:=by
    have h0:= @ByteArray.extract_zero_size ⟨t.toArray⟩
    have h1:(⟨t.toArray⟩:ByteArray).size=t.length:=by simp[ByteArray.size]
    rwa [h1]at h0
   rw[this];apply Array.ext'
   simp[Cont.vals,Cont.list,Cell.val]
 ·obtain⟨m,c,hK,hc,hl,ad,cap,hv,hd⟩:=zlv hH hx (fun t e=>hs ⟨t,e⟩) h
  subst hv
  rcases hd with h0|⟨b,k,rfl,hd⟩
  ·refine⟨m,c,hK,hc,hl,[],⟨by simp[h0],fun j hj=>by omega⟩,fun w' _=>⟨rfl,?_,by simp;omega⟩⟩
   have e:m*s=0:=by omega
   simp only[Builtin.firstCells,e]
   cases ad<;>rfl
  ·obtain⟨vs,hr,hvl,hrun⟩:=z6s (P:=P) hd (off:=0) c.len (by omega)
   rw[Cont.sub_all]at hr;refine⟨m,c,hK,hc,hl,vs,hr,fun w' hw=>⟨rfl,?_,by omega⟩⟩
   have:=hrun w' hw
   simp only[Nat.add_zero,hc]at this
   simp only[Builtin.firstCells]
   exact this

theorem zcb(hT:TyOK P ty)(hH:HeapOK C β n H I w){src dst e s b:Nat}(hs:ty src= .slice e s b)(hd:ty dst= .str){x:SV}{v:Value}(hx:x.rel β I w v){K:SV→Prop}(h:zd6 ty H e x K):
  ∃ t,K (.c (.str t))∧∀ w',Same w w'→(convert src dst v).run P w'= .ok (Cell.str t).val w':=by
 unfold zd6 at h
 split at h
 ·rename_i he
  obtain⟨hns,h⟩:=h;obtain⟨m,c,hK,hc,hl,ad,cap,hv,hcells⟩:=zlv hH hx (fun t e=>by subst e;exact hns) h
  have hus:=(hT.slice _ _ _ _ hs).1
  have hue:=hT.int _ _ he
  have hud:=hT.str _ hd
  have key:∀ l:List UInt8,c= .u8s l→∀ w',Same w w'→(convert src dst v).run P w'= .ok (Cell.str l).val w':=by
   rintro l rfl w' hw
   have hm:m=l.length:=by simp only[Cont.len]at hc;omega
   rcases hcells with h0|⟨b',k,rfl,hcells⟩
   ·have:l=[]:=List.eq_nil_of_length_eq_zero h0
    subst this
    simp only[List.length_nil]at hm
    subst hm;rw[hv];rw[run_convert_bytes_string w' src dst e ad 0 cap hus hue hud]
    cases ad<;>simp[Conv.bytesToString,Cell.val]<;>rfl
   ·have hlen:(l.map (fun x=>(x.toNat:Int))).length=m:=by simp[hm]
    have hr:=run_convert_bytes_arg (P:=P) (w:=w') src e hus hue b' k m cap _ hlen (fun i hi=>by
     obtain⟨u,hu,hr⟩:=hcells i (by simp only[Cont.len];omega);rw[hu w' hw,(Cell.rel_flat rfl).1 hr]
     simp only[Cont.get,Cell.val,List.getD_eq_getElem?_getD,List.getElem?_map]
     rw[List.getElem?_eq_getElem (by omega)]
     simp) dst hud
    rw[hv,hr]
    simp only[Cell.val]
    congr 2
    apply ByteArray.ext;apply Array.toList_inj.1;rw[strOfNums_data,List.map_map]
    conv=>rhs;rw[←List.map_id l]
    simp[Function.comp_def]
  split at hK
  ·rename_i l
   exact⟨l,hK,key l rfl⟩
  ·refine⟨[],hK,fun w' hw=>?_⟩
   have hm:m=0:=by simp only[Cont.len,List.length_nil]at hc;omega
   subst hm;rw[hv,run_convert_bytes_string w' src dst e ad 0 cap hus hue hud]
   cases ad<;>simp[Conv.bytesToString,Cell.val]<;>rfl
  ·exact hK.elim
 ·exact h.elim

theorem z82{D:List Deferred}(hE:EnvOK D β n I w E a)(hG:z26 glob I w){x:Operand}{v:SV}(h:E.ev glob x=some v):v.rel β I w (a.eval x)∧v.low n:=by
 cases x with
 |tmp t=>
  obtain⟨u,hu,hr⟩:=hE.slot t v h;exact⟨by simp only[Act.eval,Array.getD_eq_getD_getElem?,hu,Option.getD_some];exact hr,hE.low t v h⟩
 |const c=>
  simp only[Env.ev,Option.some.injEq]at h
  subst h;exact⟨(SV.rel_flat (SV.ofValue_flat c)).2 (SV.ofValue_val c).symm,SV.flat_low (SV.ofValue_flat c)⟩
 | global g=>
  simp only[Env.ev]at h
  split at h
  ·rename_i c hg
   cases h;exact⟨Cell.rel_of (β:=β) (hG g c hg),trivial⟩
  ·cases h
   exact⟨Cell.rel_val (β:=β) (x:=.raw _) rfl,trivial⟩
 | func f=>
  simp only[Env.ev]at h
  split at h
  ·rename_i hlt
   cases h;exact⟨⟨fun _=>undef,by simp[Act.eval,zao hlt],fun j hj=>by simp at hj⟩,fun x hx=>by cases hx⟩
  ·cases h

theorem z0n{D:List Deferred}(hE:EnvOK D β n I w E a)(hG:z26 glob I w){x:Operand}{K:SV→Prop}(h:onV (E.ev glob x) K):∃ v,v.rel β I w (a.eval x)∧v.low n∧K v:=by
 unfold onV at h
 split at h
 ·rename_i v hv
  obtain⟨h1,h2⟩:=z82 hE hG hv;exact⟨v,h1,h2,h⟩
 ·exact h.elim

theorem z4b{y:SV}{v:Value}(hv:y.rel β I w v){K:Int→Prop}(h:zan y K):∃ k i,v= .int k i∧K i:=by
 have e:=(SV.rel_flat (zge h)).1 hv
 unfold zan at h
 split at h
 ·exact⟨_,_,e,h⟩
 ·exact⟨_,_,e,h⟩
 ·exact⟨_,_,e,h⟩
 ·exact⟨_,_,e,h⟩
 ·exact h.elim

theorem z27{D:List Deferred}(hE:EnvOK D β n I w E a)(hG:z26 glob I w){x:Operand}{K:Int→Prop}(h:onI (E.ev glob x) K):∃ k i,a.eval x= .int k i∧K i:=by
 unfold onI at h
 split at h
 ·rename_i v hv;exact z4b (z82 hE hG hv).1 h
 ·exact h.elim

theorem zkn(x:UInt8)(w:World):(Op.unary .xor (.int .u8 x.toNat)).run P w= .ok (.int .u8 (~~~x).toNat) w:=by
 have hx:=(~~~x).toNat_lt
 have e1:BitVec.ofInt 8 ((2:Int) ^ 8 - 1)=BitVec.allOnes 8:=by decide
 have e2:BitVec.ofInt 8 (x.toNat:Int)=x.toBitVec:=by
  apply BitVec.eq_of_toNat_eq
  simp
 have e3:(BitVec.ofInt 8 ((2:Int) ^ 8 - 1) ^^^ BitVec.ofInt 8 (x.toNat:Int)).toNat=(~~~x).toNat:=by
  rw[e1,e2,BitVec.allOnes_xor];rfl
 show Result.ok (Value.int .u8 (IntKind.u8.wrap ((BitVec.ofInt 8 ((2:Int) ^ 8 - 1) ^^^ BitVec.ofInt 8 (x.toNat:Int)).toNat:Nat))) w=_
 rw[e3,IntKind.wrap_u8]
 congr 2
 omega
theorem zgf(x:UInt32)(w:World):(Op.unary .xor (.int .u32 x.toNat)).run P w= .ok (.int .u32 (~~~x).toNat) w:=by
 have hx:=(~~~x).toNat_lt
 have e1:BitVec.ofInt 32 ((2:Int) ^ 32 - 1)=BitVec.allOnes 32:=by decide
 have e2:BitVec.ofInt 32 (x.toNat:Int)=x.toBitVec:=by
  apply BitVec.eq_of_toNat_eq
  simp
 have e3:(BitVec.ofInt 32 ((2:Int) ^ 32 - 1) ^^^ BitVec.ofInt 32 (x.toNat:Int)).toNat=(~~~x).toNat:=by
  rw[e1,e2,BitVec.allOnes_xor];rfl
 show Result.ok (Value.int .u32 (IntKind.u32.wrap ((BitVec.ofInt 32 ((2:Int) ^ 32 - 1) ^^^ BitVec.ofInt 32 (x.toNat:Int)).toNat:Nat))) w=_
 rw[e3,IntKind.wrap_u32]
 congr 2
 omega
open MapKept in
theorem z5l(hT:TyOK P ty){kt:Nat}{x:Cell}(h:keyS ty kt (.c x)):∃ d,P.underlying kt=some d∧IsKey d x.val∧x.flat=true:=by
 unfold keyS at h
 split at h
 ·rename_i e;cases e
 ·rename_i e;cases e;exact⟨_,hT.int _ _ h.1,rfl,rfl⟩
 ·rename_i e;cases e;exact⟨_,hT.int _ _ h,rfl,rfl⟩
 ·rename_i e;cases e;exact⟨_,hT.int _ _ h,rfl,rfl⟩
 ·rename_i e;cases e;exact⟨_,hT.int _ _ h,rfl,rfl⟩
 ·rename_i e;cases e;exact⟨_,hT.str _ h,trivial,rfl⟩
 ·rename_i e;cases e;exact⟨_,hT.bool _ h,trivial,rfl⟩
 ·exact h.elim
theorem z3i{kt:Nat}{k:SV}(h:keyS ty kt k):(∃ x,k= .c x∧(ty kt).wide=none)∨∃ c,k= .agg c∧wideS (ty kt) c:=by
 unfold keyS at h
 split at h
 ·exact .inr ⟨_,rfl,h⟩
 ·exact .inl ⟨_,rfl,by rw[h.1];rfl⟩
 all_goals first|exact .inl ⟨_,rfl,by rw[h];rfl⟩|exact h.elim
theorem z77{t:Ty}{c:Cont}(h:wideS t c):t.wide≠none:=fun e=>by
 unfold wideS at h;rw[e]at h;exact h
theorem z83(hT:TyOK P ty){kt:Nat}{k:SV}(h:keyS ty kt k):k.flat=true:=by
 rcases z3i h with⟨x,rfl,_⟩|⟨c,rfl,hc⟩
 ·obtain⟨_,_,_,hf⟩:=z5l hT h;exact hf
 ·exact z8x hc
theorem keyS_inj{kt:Nat}{a b:SV}(ha:keyS ty kt a)(hb:keyS ty kt b)(h:a.val=b.val):a=b:=by
 rcases z3i ha with⟨x,rfl,hx⟩|⟨x,rfl,hx⟩<;>rcases z3i hb with⟨y,rfl,hy⟩|⟨y,rfl,hy⟩
 ·unfold keyS at ha hb
  split at ha<;>split at hb<;>first|exact ha.elim|exact hb.elim|skip
  all_goals simp only[SV.c.injEq,reduceCtorEq] at*
  all_goals subst_vars
  all_goals simp only[SV.val,Cell.val,Value.int.injEq,Value.string.injEq,Value.bool.injEq,reduceCtorEq,true_and,false_and]at h
  all_goals first
   |(obtain⟨rfl,rfl⟩:=h;rfl)
   |(obtain⟨rfl,_⟩:=h;simp at ha hb;done)
   |(rw[UInt8.toNat_inj.1 (Int.ofNat_inj.1 h)];done)
   |(rw[UInt32.toNat_inj.1 (Int.ofNat_inj.1 h)];done)
   |(rw[UInt64.toNat_inj.1 (Int.ofNat_inj.1 h)];done)
   |(subst h;rfl)
   |(simp at h;subst h;rfl)
   |skip
 ·exact absurd hx (z77 hy)
 ·exact absurd hy (z77 hx)
 ·rw[zar hx hy (by simpa [SV.val]using h)]
theorem z4z(hT:TyOK P ty){kt:Nat}{k:SV}(h:keyS ty kt k)(em:Bool)(w:World):(Instr.checkKey em 10000 kt k.val).run P w= .ok () w:=by
 rcases z3i h with⟨x,rfl,_⟩|⟨c,rfl,hc⟩
 ·obtain⟨d,hd,hik,_⟩:=z5l hT h
  exact MapKept.run_checkKey hd hik em _
 ·obtain⟨z,hk,hz⟩:=z6r hT hc
  obtain⟨L,hL⟩:=hk.keyOf hz;exact hk.law.check w em hL
theorem zko(hT:TyOK P ty){kt:Nat}{k:SV}(h:keyS ty kt k)(w:World):(Instr.keyThatStays k.val k.val).run P w= .ok k.val w:=by
 rcases z3i h with⟨x,rfl,_⟩|⟨c,rfl,hc⟩
 ·obtain⟨d,hd,hik,_⟩:=z5l hT h
  exact MapKept.run_keyThatStays hik
 ·obtain⟨z,hk,hz⟩:=z6r hT hc
  obtain⟨L,hL⟩:=hk.keyOf hz;exact hk.law.stays w hL
theorem z6t(hT:TyOK P ty){kt:Nat}{c:Cont}(hc:wideS (ty kt) c):∀ (es:List MapEntry) (i:Nat),(∀ e∈es,∃ c',wideS (ty kt) c'∧e.key= .agg c'.vals.toArray)→
  ((∀ w,(Instr.findAsking kt (.agg c.vals.toArray) es i).run P w= .ok none w)∧∀ e∈es,e.key≠ .agg c.vals.toArray)∨
  ∃ j e,(∀ w,(Instr.findAsking kt (.agg c.vals.toArray) es i).run P w= .ok (some (i+j,e.val)) w)∧es[j]? =some e∧e.key= .agg c.vals.toArray
 |[],i,_=>.inl ⟨fun w=>by simp[Instr.findAsking],by simp⟩
 | e ::es,i,hall=>by
  obtain⟨c',hc',he⟩:=hall e (.head _);obtain⟨_,hrun⟩:=z8y hT hc hc'
  by_cases hcc:c=c'
  ·have hr:∀ w,(Op.equal kt (.agg c.vals.toArray) e.key).run P w= .ok true w:=fun w=>by
    obtain⟨b,hb,h⟩:=hrun w;rw[he,h,hb.2 hcc]
   exact .inr ⟨0,e,fun w=>by simp[Instr.findAsking,hr],rfl,by rw[he,hcc]⟩
  ·have hr:∀ w,(Op.equal kt (.agg c.vals.toArray) e.key).run P w= .ok false w:=fun w=>by
    obtain⟨b,hb,h⟩:=hrun w;cases b
    ·rw[he,h]
    ·exact absurd (hb.1 rfl) hcc
   rcases z6t hT hc es (i+1) (fun y hy=>hall y (.tail _ hy)) with⟨h1,h2⟩|⟨j,e',h1,h2,h3⟩
   ·refine .inl ⟨fun w=>by simp[Instr.findAsking,hr,h1],fun y hy=>?_⟩
    rcases List.mem_cons.1 hy with rfl|hy
    ·intro e1
     rw[he]at e1;exact hcc (zar hc hc' (by simpa using e1.symm))
    ·exact h2 y hy
   ·exact .inr ⟨j+1,e',fun w=>by simp[Instr.findAsking,hr,h1,Nat.add_assoc,Nat.add_comm 1 j],by simpa using h2,h3⟩
theorem zeo(hT:TyOK P ty){kt:Nat}{k:SV}(hk:keyS ty kt k){l:List (SV×SV)}(hl:∀ p∈l,keyS ty kt p.1){es:Array MapEntry}(hs:es.size=l.length)
  (he:∀ (j:Nat) x,l[j]? =some x→∃ e:MapEntry,es[j]? =some e∧x.1.rel β I w e.key∧x.2.rel β I w e.val):
  (∃ (j:Nat) (v:SV) (e:MapEntry),l[j]? =some (k,v)∧es[j]? =some e∧v.rel β I w e.val∧e.key=k.val∧∀ w',(Instr.findKey kt k.val es.toList).run P w'= .ok (some (j,e.val)) w')∨
  ((∀ p∈l,p.1≠k)∧∀ w',(Instr.findKey kt k.val es.toList).run P w'= .ok none w'):=by
 have key:∀ (j:Nat) e,es[j]? =some e→∃ x,l[j]? =some x∧x.1.val=e.key∧x.2.rel β I w e.val:=fun j e hj=>by
  have hjl:j< l.length:=by rw[←hs];exact(Array.getElem?_eq_some_iff.1 hj).1
  obtain⟨e',he',h1,h2⟩:=he j l[j] (List.getElem?_eq_getElem hjl);rw[hj]at he';cases he';exact⟨_,List.getElem?_eq_getElem hjl,((SV.rel_flat (z83 hT (hl _ (List.getElem_mem hjl)))).1 h1).symm,h2⟩
 have hmem:∀ e∈es.toList,∃ x∈l,x.1.val=e.key:=fun e hm=>by
  obtain⟨j,hj,rfl⟩:=List.mem_iff_getElem.1 hm;obtain⟨x,hx,h1,_⟩:=key j es.toList[j] (by rw[←Array.getElem?_toList];exact List.getElem?_eq_getElem hj);exact⟨x,List.mem_of_getElem? hx,h1⟩
 have no:(∀ e∈es.toList,e.key≠k.val)→∀ p∈l,p.1≠k:=fun h p hp e=>by
  obtain⟨j,hj,rfl⟩:=List.mem_iff_getElem.1 hp;obtain⟨e',he',h4,_⟩:=he j _ (List.getElem?_eq_getElem hj);refine h e' (by simpa using List.mem_of_getElem? (l:=es.toList) (i:=j) (by simpa using he')) ?_;rw[(SV.rel_flat (z83 hT (hl _ (List.getElem_mem hj)))).1 h4,e]
 have yes:∀ (j:Nat) (e:MapEntry),es.toList[j]? =some e→e.key=k.val→(∀ w',(Instr.findKey kt k.val es.toList).run P w'= .ok (some (j,e.val)) w')→
   ∃ (j:Nat) (v:SV) (e:MapEntry),l[j]? =some (k,v)∧es[j]? =some e∧v.rel β I w e.val∧e.key=k.val∧∀ w',(Instr.findKey kt k.val es.toList).run P w'= .ok (some (j,e.val)) w':=fun j e h2 h3 h1=>by
  obtain⟨⟨k',v⟩,hx,h4,h5⟩:=key j e (by simpa using h2);obtain rfl:k'=k:=keyS_inj (hl _ (List.mem_of_getElem? hx)) hk (h4.trans h3);exact⟨j,v,e,hx,by simpa using h2,h5,h3,h1⟩
 rcases z3i hk with⟨x,rfl,hwd⟩|⟨c,rfl,hc⟩
 ·obtain⟨d,hd,hik,_⟩:=z5l hT hk
  have hall:∀ e∈es.toList,MapKept.IsKey d e.key:=fun e hm=>by
   obtain⟨x,hx,h1⟩:=hmem e hm
   rcases z3i (hl x hx) with⟨y,hy,_⟩|⟨c,_,hc⟩
   ·have hlx:=hl x hx
    rw[hy]at hlx h1;obtain⟨d',hd',hi,_⟩:=z5l hT hlx;rw[hd]at hd';cases hd';rw[←h1];exact hi
   ·exact absurd hwd (z77 hc)
  rcases MapKept.findNow_spec hik es.toList 0 hall with⟨h1,h2⟩|⟨j,e,h1,h2,h3⟩
  ·exact .inr ⟨no h2,fun w'=>MapKept.run_findKey hd h1⟩
  ·rw[Nat.zero_add]at h1
   exact .inl (yes j e h2 h3 fun w'=>MapKept.run_findKey hd h1)
 ·have hall:∀ e∈es.toList,∃ c',wideS (ty kt) c'∧e.key= .agg c'.vals.toArray:=fun e hm=>by
   obtain⟨x,hx,h1⟩:=hmem e hm
   rcases z3i (hl x hx) with⟨y,_,hwd⟩|⟨c',hy,hc'⟩
   ·exact absurd hwd (z77 hc)
   ·exact⟨c',hc',by rw[←h1,hy];rfl⟩
  obtain⟨z,hkz,_⟩:=z6r hT hc
  rcases z6t hT hc es.toList 0 hall with⟨h1,h2⟩|⟨j,e,h1,h2,h3⟩
  ·exact .inr ⟨no h2,fun w'=>by rw[run_findKey_eq w' hkz.wide];exact h1 w'⟩
  ·refine .inl (yes j e h2 h3 fun w'=>?_)
   rw[run_findKey_eq w' hkz.wide]
   have:=h1 w'
   rwa [Nat.zero_add]at this
theorem Cont.flat_get{c:Cont}(h:c.flat=true)(i:Nat):(c.get i).flat=true:=by
 cases c with
 | cells l=>
  by_cases hi:i< l.length
  ·exact z61 h _ (z2g hi)
  ·show(l.getD i .nils).flat=true
   rw[List.getD_eq_getElem?_getD,List.getElem?_eq_none (by omega)];rfl
 |_=>rfl
theorem zid{v:SV}{x:Value}{b ok:Bool}{K:SV→Prop}(h:gotS v b ok K)(hl:v.low n)(hr:v.rel β I w x):∃ u,K u∧u.low n∧u.rel β I w (if ok then .tuple #[x,.bool b]else x):=by
 unfold gotS at h
 split at h
 ·exact⟨v,h,hl,by simpa using hr⟩
 ·split at h
  ·rename_i y
   refine⟨_,h,fun p hp=>?_,[x,.bool b],by simp,rfl,fun j p hp=>?_⟩
   ·simp only[List.mem_cons,List.not_mem_nil,or_false]at hp
    rcases hp with rfl|rfl
    ·exact hl
    ·exact trivial
   ·match j with
    |0=>simp at hp;subst hp;exact⟨x,rfl,hr⟩
    |1=>simp at hp;subst hp;exact⟨_,rfl,Cell.rel_val (β:=β) (x:=.bool b) rfl⟩
    |j+2=>simp at hp
  ·rename_i y
   refine⟨_,h,fun p hp=>?_,[x,.bool b],by simp,rfl,fun j p hp=>?_⟩
   ·simp only[List.mem_cons,List.not_mem_nil,or_false]at hp
    rcases hp with rfl|rfl
    ·exact hl
    ·exact trivial
   ·match j with
    |0=>simp at hp;subst hp;exact⟨x,rfl,hr⟩
    |1=>simp at hp;subst hp;exact⟨_,rfl,Cell.rel_val (β:=β) (x:=.bool b) rfl⟩
    |j+2=>simp at hp
  ·exact h.elim
theorem zlw(hT:TyOK P ty){t:Nat}{K:SV→Prop}(h:zeroS (ty t) K):∃ v x,K v∧v.low n∧v.rel β I w x∧∀ w',(zeroValue t).run P w'= .ok x w':=by
 unfold zeroS at h
 split at h
 ·rename_i z hz
  have h1:=hT.zeroV t z hz
  obtain⟨_,_,_,hf⟩:=hT.zero t z hz;obtain⟨i,hi,hz0⟩:=Option.bind_eq_some_iff.1 h1
  have hrun:∀ w',(zeroValue t).run P w'= .ok (if(ty t).one then(z.get 0).val else .agg z.vals.toArray) w':=fun w'=>by simp[zeroValue,typeInfo,hi,hz0]
  split at h
  ·rename_i h1
   rw[h1]at hrun
   have hg:(z.get 0).flat=true:=Cont.flat_get hf 0
   exact⟨_,_,h,SV.flat_low (x:=.c (z.get 0)) hg,Cell.rel_val hg,hrun⟩
  ·rename_i h1
   rw[h1]at hrun;exact⟨_,_,h,Cont.flat_low hf,⟨_,rfl,(Cont.rel_flat hf).2 rfl⟩,hrun⟩
 ·exact h.elim
theorem zlx(hT:TyOK P ty)(hH:HeapOK C β n H I w){t:Nat}{x k:SV}{xv kv:Value}(hx:x.rel β I w xv)(hk:k.rel β I w kv){ok:Bool}{K:SV→Prop}(h:lookS ty H t x k ok K):
  ∃ v y,K v∧v.low n∧v.rel β I w y∧∀ w',Same w w'→(Instr.lookup t xv kv ok).run P w'= .ok y w':=by
 unfold lookS at h
 split at h
 ·rename_i kt et id hty
  split at h
  ·rename_i mt l hid
   obtain⟨hks,hls,hyes,hno⟩:=h;obtain rfl:=(SV.rel_flat (z83 hT hks)).1 hk;obtain⟨b,es,ck,hb,hw,hs,he⟩:=hH.holds id _ hid
   have hxv:xv= .map (some b):=by have:xv= .map (β id):=hx;rw[this,hb]
   subst hxv
   have hbs:b< w.heap.size:=(Array.getElem?_eq_some_iff.1 hw).1
   have hw':∀ w',Same w w'→w'.heap[b]? =some (.map es ck):=fun w' hs=>(hs.block b hbs).trans hw
   have hm:=hT.map t kt et hty
   rcases zeo (P:=P) hT hks hls hs he with⟨j,v,e,h1,h2,h3,_,h4⟩|⟨h1,h2⟩
   ·obtain⟨u,hK,hl,hr⟩:=zid (hyes j v h1) ((hH.low id _ hid).2 _ (List.mem_of_getElem? h1)).2 h3
    refine⟨u,_,hK,hl,hr,fun w' hs=>?_⟩
    simp only[Instr.lookup,Sem.run_bind,run_underlying hm,Result.andThen_ok,Sem.run_pure,MapKept.run_getObj_map (hw' w' hs),z4z hT hks,h4]
   ·obtain⟨z,zx,hz,hzl,hzr,hzrun⟩:=zlw (n:=n) (β:=β) (I:=I) (w:=w) hT (hno h1)
    obtain⟨u,hK,hl,hr⟩:=zid hz hzl hzr;refine⟨u,_,hK,hl,hr,fun w' hs=>?_⟩
    simp only[Instr.lookup,Sem.run_bind,run_underlying hm,Result.andThen_ok,Sem.run_pure,MapKept.run_getObj_map (hw' w' hs),z4z hT hks,h2,hzrun]
  ·exact h.elim
 ·exact h.elim
theorem z84{t e:TypeId}{ad:Option Addr}{len cap:Nat}{w:World}(ht:P.underlying t=some (.slice e)):(Op.equal t (.slice ad len cap) (.slice none 0 0)).run P w= .ok ad.isNone w:=by
 unfold Op.equal Op.maxDepth;rw[show(10000:Nat)=9999+1 from rfl,Op.equalIn]
 cases ad<;>simp[run_underlying ht]
theorem zgg(x:UInt64)(w:World):(Op.unary .neg (.int .u64 x.toNat)).run P w= .ok (.int .u64 (-x).toNat) w:=by
 have hx:=x.toNat_lt
 simp[Op.unary,Op.intArith,IntKind.wrap_u64,UInt64.toNat_neg,UInt64.size]
 omega
theorem zgh(x:UInt64)(w:World):(Op.unary .xor (.int .u64 x.toNat)).run P w= .ok (.int .u64 (~~~x).toNat) w:=by
 have hx:=(~~~x).toNat_lt
 have e1:BitVec.ofInt 64 ((2:Int) ^ 64 - 1)=BitVec.allOnes 64:=by decide
 have e2:BitVec.ofInt 64 (x.toNat:Int)=x.toBitVec:=by
  apply BitVec.eq_of_toNat_eq
  simp
 have e3:(BitVec.ofInt 64 ((2:Int) ^ 64 - 1) ^^^ BitVec.ofInt 64 (x.toNat:Int)).toNat=(~~~x).toNat:=by
  rw[e1,e2,BitVec.allOnes_xor];rfl
 show Result.ok (Value.int .u64 (IntKind.u64.wrap ((BitVec.ofInt 64 ((2:Int) ^ 64 - 1) ^^^ BitVec.ofInt 64 (x.toNat:Int)).toNat:Nat))) w=_
 rw[e3,IntKind.wrap_u64]
 congr 2
 omega

def Gives(P:Program)(β:Val)(n:Nat)(I:Nat→Prop)(w:World)(a:Act)(o:Oper)(K:SV→Prop):Prop:=
 ∃ v x,K v∧v.low n∧v.rel β I w x∧∀ w',Same w w'→(execOp a.eval o).run P w'= .ok (.value x) w'

theorem Gives.cell{o:Oper}{K:SV→Prop}{c:Cell}(hK:K (.c c))(hf:c.flat=true)(h:∀ w',(execOp a.eval o).run P w'= .ok (.value c.val) w'):Gives P β n I w a o K:=
 ⟨.c c,c.val,hK,SV.flat_low (x:=.c c) hf,Cell.rel_val hf,fun w' _=>h w'⟩

theorem z0x(s:Sem Value){v:Value}{w:World}(h:s.run P w= .ok v w):(do pure (.value (←s)):Sem Next).run P w= .ok (.value v) w:=by
 simp[h]

theorem zep(hT:TyOK P ty){t:TypeId}{x:SV}{v:Value}(hx:x.rel β I w v)(hxl:x.low n){i:Int}{k:IntKind}{K:SV→Prop}(h:zlp ty t x i K):
  ∃ sv u,K sv∧sv.low n∧sv.rel β I w u∧∀ w',(Instr.index t v (.int k i)).run P w'= .ok u w':=by
 unfold zlp at h
 split at h
 ·rename_i c
  split at h
  ·rename_i m e s z ht
   obtain⟨hu,hes,_⟩:=hT.arr t m e s z ht;obtain⟨hf,rfl,hl,h0,h1,hK⟩:=h;obtain⟨vs,hv,hr⟩:=hx;obtain⟨u,hu',hr'⟩:=hr.2 i.toNat (by omega);refine⟨_,u,hK,Cont.get_low hxl _,hr',fun w'=>?_⟩
   simp[Instr.index,asIntOf,run_underlying hu,hv,h0,h1,run_sizeOf' hes,part,hT.isAgg_one hf w',hu']
  ·exact h.elim
 ·rename_i s
  split at h
  ·rename_i ht
   have hu:=hT.str t ht
   obtain⟨h0,h1,hK⟩:=h
   have hv:v=(Cell.str s).val:=CellD.of_flat rfl hx
   refine⟨_,_,hK,trivial,Cell.rel_val (β:=β) (x:=.u8 _) rfl,fun w'=>?_⟩
   have hsz:(⟨s.toArray⟩:ByteArray).size=s.length:=by simp[ByteArray.size]
   have hlt:i.toNat< (⟨s.toArray⟩:ByteArray).size:=by omega
   have e:(⟨s.toArray⟩:ByteArray)[i.toNat]? =some (s.getD i.toNat 0):=by
    rw[ByteArray.getElem?_lt' _ _ hlt]
    congr 1
    show s.toArray[i.toNat]=_
    rw[List.getD_eq_getElem?_getD,List.getElem?_eq_getElem (by omega)]
    simp
   simp[Instr.index,asIntOf,run_underlying hu,hv,Cell.val,h0,e]
  ·exact h.elim
 ·exact h.elim

theorem zkp(hT:TyOK P ty){t:TypeId}{x:SV}{v:Value}(hx:x.rel β I w v){K:SV→Prop}(h:lenS ty t x K):
  ∃ c:Cell,K (.c c)∧c.flat=true∧∀ w' o,(Builtin.len_ #[t] o #[v]).run P w'= .ok c.val w':=by
 unfold lenS at h
 split at h
 ·split at h
  ·rename_i ht
   have hu:=(hT.slice _ _ _ _ ht).1
   obtain⟨_,off',hv,_⟩:=hx;exact⟨_,h,rfl,fun w o=>by simp[Builtin.len_,run_underlying hu,hv,Cell.val,goInt]⟩
  ·exact h.elim
 ·rename_i m c
  split at h
  ·rename_i ht
   have hu:=(hT.slice _ _ _ _ ht).1
   obtain⟨ad,cap,hv,_⟩:=CellD.ds_inv (show CellD I w (.ds m c) v from hx);exact⟨_,h,rfl,fun w o=>by simp[Builtin.len_,run_underlying hu,hv,Cell.val,goInt]⟩
  ·exact h.elim
 ·split at h
  ·rename_i ht
   have hu:=(hT.slice _ _ _ _ ht).1
   have hv:v=Cell.nils.val:=CellD.of_flat rfl hx
   exact⟨_,h,rfl,fun w o=>by simp[Builtin.len_,run_underlying hu,hv,Cell.val,goInt]⟩
  ·exact h.elim
 ·rename_i s
  split at h
  ·rename_i ht
   have hu:=hT.str _ ht
   have hv:v=(Cell.str s).val:=CellD.of_flat rfl hx
   have hsz:(⟨s.toArray⟩:ByteArray).size=s.length:=by simp[ByteArray.size]
   exact⟨_,h,rfl,fun w o=>by simp[Builtin.len_,run_underlying hu,hv,Cell.val,goInt,hsz]⟩
  ·exact h.elim
 ·exact h.elim

theorem zkq(hT:TyOK P ty){t:TypeId}{x:SV}{v:Value}(hx:x.rel β I w v){K:SV→Prop}(h:capS ty t x K):
  ∃ c:Cell,K (.c c)∧c.flat=true∧∀ w' o,(Builtin.cap_ #[t] o #[v]).run P w'= .ok c.val w':=by
 unfold capS at h
 split at h
 ·rename_i ht
  have hu:=(hT.slice _ _ _ _ ht).1
  have hv:v=Cell.nils.val:=CellD.of_flat rfl hx
  exact⟨_,h,rfl,fun w o=>by simp[Builtin.cap_,run_underlying hu,hv,Cell.val,goInt]⟩
 ·rename_i ht
  have hu:=(hT.slice _ _ _ _ ht).1
  obtain⟨_,off',hv,_⟩:=hx;exact⟨_,h,rfl,fun w o=>by simp[Builtin.cap_,run_underlying hu,hv,Cell.val,goInt]⟩
 ·exact h.elim
theorem z85{D:List Deferred}(hE:EnvOK D β n I w E a)(hG:z26 glob I w):∀ {xs:List Operand} {K:List SV→Prop},evs glob E xs K→∃ vs:List SV,K vs∧(∀ v∈vs,SV.low n v)∧vs.length=xs.length∧∀ (j:Nat) x v,xs[j]? =some x→vs[j]? =some v→v.rel β I w (a.eval x)
 |[],K,h=>⟨[],h,(fun v hv=>by cases hv),rfl,fun j x v hx=>by simp at hx⟩
 | x::xs,K,h=>by
  obtain⟨v,hv,hb,h⟩:=z0n hE hG h;obtain⟨vs,hK,hbs,hl,hr⟩:=z85 hE hG h;refine⟨v::vs,hK,fun u hu=>?_,by simp[hl],fun j y u hy hu=>?_⟩
  ·rcases List.mem_cons.1 hu with rfl|hu
   ·exact hb
   ·exact hbs u hu
  ·cases j with
   |zero=>simp only[List.getElem?_cons_zero,Option.some.injEq]at hy hu;subst hy hu;exact hv
   |succ j=>simp only[List.getElem?_cons_succ]at hy hu;exact hr j y u hy hu

theorem z9q:∀ {vs:List SV} {l:List Cell},cellsOf vs=some l→vs=l.map .c∧∀ x∈l,∀ f cs,x≠ .clo f cs
 |[],l,h=>by simp only[cellsOf,Option.some.injEq]at h;subst h;exact⟨rfl,fun x hx=>by cases hx⟩
 | .c x::vs,l,h=>by
  rcases Cell.clo_or x with⟨f,cs,rfl⟩|hx
  ·simp[cellsOf]at h
  ·have h':(cellsOf vs).map (x:: ·)=some l:=by
    cases x<;>first|exact h|exact absurd rfl (hx _ _)
   obtain⟨l',hl,rfl⟩:=Option.map_eq_some_iff.1 h';obtain⟨h1,h2⟩:=z9q hl;refine⟨by rw[h1];rfl,fun y hy=>?_⟩
   rcases List.mem_cons.1 hy with rfl|hy
   ·exact hx
   ·exact h2 y hy
 | .agg _::_,_,h=>by simp[cellsOf]at h
 | .tup _::_,_,h=>by simp[cellsOf]at h

theorem max3_run(ts:Array TypeId)(t:TypeId)(k:IntKind)(x y z:Int)(P:Program)(w:World):(Builtin.max_ ts t #[Value.int k x,Value.int k y,Value.int k z]).run P w= .ok (Value.int k (max (max x y) z)) w:=by
 have e:∀ a b:Int,(if a< b then b else a)=max a b:=fun a b=>by omega
 simp[Builtin.max_,Builtin.max2,e]
theorem z65{D:List Deferred}(hT:TyOK P ty)(hG:z26 glob I w)(hE:EnvOK D β n I w E a)(hH:HeapOK C β n H I w){o:Oper}{K:SV→Prop}(h:pureS ty glob o E H K):
  Gives P β n I w a o K:=by
 unfold pureS at h
 split at h
 ·-- move
  rename_i x hop
  obtain⟨v,hv,hb,hK⟩:=z0n hE hG h;exact⟨v,_,hK,hb,hv,fun w' _=>by simp[execOp,hop]⟩
 ·rename_i x hop
  obtain⟨v,hv,hb,hK⟩:=z0n hE hG h;exact⟨v,_,hK,hb,hv,fun w' _=>by simp[execOp,hop]⟩
 ·-- pick
  rename_i c x y hop
  obtain⟨vc,hvc,_,h⟩:=z0n hE hG h;obtain⟨vx,hvx,hbx,h⟩:=z0n hE hG h;obtain⟨vy,hvy,hby,h⟩:=z0n hE hG h
  split at h
  ·refine Gives.cell h rfl fun w'=>?_
   have e1:=(SV.rel_flat (x:=.c (.bool _)) rfl).1 hvc
   have e2:=(SV.rel_flat (x:=.c (.bool _)) rfl).1 hvx
   have e3:=(SV.rel_flat (x:=.c (.bool _)) rfl).1 hvy
   simp only[execOp,hop,e1,e2,e3,SV.val,Cell.val,asBool,Sem.run_bind,Sem.run_pure,Result.andThen_ok]
   congr 2
   split<;>rfl
  ·have e1:=(SV.rel_flat (x:=.c (.bool _)) rfl).1 hvc
   exact⟨_,_,h,hbx,hvx,fun w' _=>by simp[execOp,hop,e1,SV.val,Cell.val,asBool]⟩
  ·have e1:=(SV.rel_flat (x:=.c (.bool _)) rfl).1 hvc
   exact⟨_,_,h,hby,hvy,fun w' _=>by simp[execOp,hop,e1,SV.val,Cell.val,asBool]⟩
  ·exact h.elim
 ·-- a slice held against nil
  rename_i op t x yt hop
  obtain⟨ht,h⟩:=h;obtain⟨vx,hvx,hbx,h⟩:=z0n hE hG h;clear hbx
  split at ht
  ·rename_i e s by_ hty
   have hu:=(hT.slice _ _ _ _ hty).1
   have key:∀ ad len cap w',a.eval x= .slice ad len cap→(do eqGuard .eql t x (.const (.slice none 0 0)) (a.eval x) (a.eval (.const (.slice none 0 0)));binOp .eql t (a.eval x) (a.eval (.const (.slice none 0 0))):Sem Value).run P w'= .ok (.bool ad.isNone) w'∧
     (do eqGuard .neq t x (.const (.slice none 0 0)) (a.eval x) (a.eval (.const (.slice none 0 0)));binOp .neq t (a.eval x) (a.eval (.const (.slice none 0 0))):Sem Value).run P w'= .ok (.bool !ad.isNone) w':=by
    intro ad len cap w' hv
    have hc:a.eval (.const (.slice none 0 0))= .slice none 0 0:=rfl
    rw[hv,hc];exact⟨z1f (z1h (by simp) (by simp)) (by simp only[binOp,Sem.run_bind,z84 hu];rfl),z1f (z1h (by simp) (by simp)) (by simp only[binOp,Sem.run_bind,z84 hu];rfl)⟩
   unfold nilS at h
   split at h
   ·have hv:=CellD.of_flat (x:=.nils) rfl hvx
    refine Gives.cell h rfl fun w'=>?_
    simp only[execOp,hop]
    exact z0x _ (key _ _ _ w' hv).1
   ·have hv:=CellD.of_flat (x:=.nils) rfl hvx
    refine Gives.cell h rfl fun w'=>?_
    simp only[execOp,hop]
    exact z0x _ (key _ _ _ w' hv).2
   ·rename_i m c _
    obtain⟨ad,cap,hv,hn,hd⟩:=CellD.ds_inv (show CellD I w (.ds m c) _ from hvx);refine Gives.cell (h ad.isNone fun e=>?_) rfl fun w'=>?_
    ·rcases hd with⟨_,h0⟩|⟨b,off,rfl,_⟩
     ·exact h0
     ·cases e
    ·simp only[execOp,hop]
     exact z0x _ (key _ _ _ w' hv).1
   ·rename_i m c _
    obtain⟨ad,cap,hv,hn,hd⟩:=CellD.ds_inv (show CellD I w (.ds m c) _ from hvx);refine Gives.cell (h (!ad.isNone) fun e=>?_) rfl fun w'=>?_
    ·rcases hd with⟨_,h0⟩|⟨b,off,rfl,_⟩
     ·exact h0
     ·cases e
    ·simp only[execOp,hop]
     exact z0x _ (key _ _ _ w' hv).2
   ·exact h.elim
  ·exact ht.elim
 ·-- binOp
  rename_i op t x y yt hne hop
  split at h
  ·obtain⟨vx,hvx,_,h⟩:=z0n hE hG h
   obtain⟨vy,hvy,_,h⟩:=z0n hE hG h;obtain⟨k,i,hi,h⟩:=z4b hvy h
   have ex:=(SV.rel_flat (z64 h)).1 hvx
   obtain⟨c,hc,hb,hrun⟩:=z80 (P:=P) (yk:=k) (t:=t) h;refine Gives.cell hc hb fun w'=>?_
   have:=hrun w'
   simp only[if_true]at this
   simp only[execOp,hop,ex,hi]
   exact z0x _ (by simpa [eqGuard]using this)
  ·obtain⟨vx,hvx,_,h⟩:=z0n hE hG h
   obtain⟨vy,hvy,_,h⟩:=z0n hE hG h;obtain⟨k,i,hi,h⟩:=z4b hvy h
   have ex:=(SV.rel_flat (z64 h)).1 hvx
   obtain⟨c,hc,hb,hrun⟩:=z80 (P:=P) (yk:=k) (t:=t) h;refine Gives.cell hc hb fun w'=>?_
   have:=hrun w'
   simp only[Bool.false_eq_true,if_false]at this
   simp only[execOp,hop,ex,hi]
   exact z0x _ (by simpa [eqGuard]using this)
  ·rename_i hs hr
   obtain⟨vx,hvx,_,h⟩:=z0n hE hG h;obtain⟨vy,hvy,_,h⟩:=z0n hE hG h;obtain⟨f1,f2⟩:=zek h
   have ex:=(SV.rel_flat f1).1 hvx
   have ey:=(SV.rel_flat f2).1 hvy
   obtain⟨c,hc,hb,hrun⟩:=zic (P:=P) (x:=x) (y:=y) hT (fun e=>hs e) (fun e=>hr e) h;refine Gives.cell hc hb fun w'=>?_
   simp only[execOp,hop,ex,ey]
   exact z0x _ (hrun w')
 ·-- unOp
  rename_i op t x hop
  obtain⟨vx,hvx,_,h⟩:=z0n hE hG h
  split at h
  ·refine Gives.cell h rfl fun w'=>?_
   have ex:=(SV.rel_flat (x:=.c (.bool _)) rfl).1 hvx
   simp[execOp,hop,ex,SV.val,Cell.val,Op.unary]
  ·refine Gives.cell h rfl fun w'=>?_
   have ex:=(SV.rel_flat (x:=.c (.u8 _)) rfl).1 hvx
   simp only[execOp,hop,ex,SV.val,Cell.val]
   exact z0x _ (zkn _ w')
  ·refine Gives.cell h rfl fun w'=>?_
   have ex:=(SV.rel_flat (x:=.c (.u32 _)) rfl).1 hvx
   simp only[execOp,hop,ex,SV.val,Cell.val]
   exact z0x _ (zgf _ w')
  ·refine Gives.cell h rfl fun w'=>?_
   have ex:=(SV.rel_flat (x:=.c (.u64 _)) rfl).1 hvx
   simp only[execOp,hop,ex,SV.val,Cell.val]
   exact z0x _ (zgh _ w')
  ·refine Gives.cell h.2 rfl fun w'=>?_
   have ex:=(SV.rel_flat (x:=.c (.int _ _)) rfl).1 hvx
   simp[execOp,hop,ex,SV.val,Cell.val,Op.unary,Op.intArith,z62 h.1]
  ·refine Gives.cell h rfl fun w'=>?_
   have ex:=(SV.rel_flat (x:=.c (.u64 _)) rfl).1 hvx
   simp only[execOp,hop,ex,SV.val,Cell.val]
   exact z0x _ (zgg _ w')
  ·exact h.elim
 ·-- convert
  rename_i src dst x hop
  split at h
  ·rename_i k' k hs hd
   obtain⟨vx,hvx,_,h⟩:=z0n hE hG h
   have ex:=(SV.rel_flat (zkm h)).1 hvx
   obtain⟨c,hc,hb,hrun⟩:=zlu (P:=P) (hT.int _ _ hs) (hT.int _ _ hd) h;refine Gives.cell hc hb fun w'=>?_
   simp only[execOp,hop,ex]
   exact z0x _ (hrun w')
  ·rename_i e s b hs hd
   obtain⟨vx,hvx,_,h⟩:=z0n hE hG h;obtain⟨t,hK,hrun⟩:=zcb (P:=P) hT hH hs hd hvx h;refine⟨_,_,hK,trivial,Cell.rel_val (β:=β) (x:=.str t) rfl,fun w' hw=>?_⟩
   simp only[execOp,hop]
   exact z0x _ (hrun w' hw)
  ·exact h.elim
 ·-- load
  rename_i t x hop
  obtain⟨vx,hvx,_,h⟩:=z0n hE hG h;obtain⟨c,off,h,hl,hp⟩:=zel hH hvx h;obtain⟨sv,u,hK,hb,hr,hrun⟩:=zat (P:=P) hT hl hp h;refine⟨sv,u,hK,hb,hr,fun w' hw=>?_⟩
  simp only[execOp,hop]
  exact z0x _ (hrun w' hw)
 ·-- nilCheck
  rename_i x hop
  obtain⟨vx,hvx,hbx,h⟩:=z0n hE hG h;obtain⟨sv,b,k,hK,hl,hv,hr⟩:=z5d hH hvx hbx h;exact⟨sv,_,hK,hl,hr,fun w' _=>by simp[execOp,hop,hv]⟩
 ·-- makeFunc
  rename_i f first caps hop
  obtain⟨hlt,h⟩:=h
  split at h
  ·rename_i hf
   obtain⟨vs,hK,hlow,hl,hr⟩:=z85 hE hG h
   split at hK
   ·rename_i l hcl
    obtain⟨hvs,hnc⟩:=z9q hcl;subst hvs
    have hfirst:first= #[]:=by
     apply Array.ext';exact hf
    have hll:l.length=caps.size:=by simpa using hl
    refine⟨_,.func (.func f) #[] (caps.map a.eval),hK,fun x hx=>?_,⟨fun j=>a.eval (caps.getD j default),?_,fun j hj=>?_⟩,fun w' _=>?_⟩
    ·have:SV.low n (.c x):=hlow _ (List.mem_map_of_mem hx)
     have h2:x.low n:=this
     rwa [Cell.low_eq (hnc x hx)]at h2
    ·rw[zao hlt]
     congr 1
     apply Array.ext';apply List.ext_getElem?;intro j
     simp only[Array.toList_map,List.getElem?_map]
     by_cases hj:j< l.length
     ·rw[List.getElem?_range hj]
      have hj':j< caps.size:=by omega
      simp[hj',Array.getD]
     ·rw[List.getElem?_eq_none (by simp;omega),List.getElem?_eq_none (by simp;omega)];rfl
    ·have hj':j< caps.size:=by omega
     have h1:caps.toList[j]? =some (caps.getD j default):=by simp[hj',Array.getD]
     have h2:(l.map SV.c)[j]? =some (.c (l.getD j .nils)):=by simp[hj,List.getD_eq_getElem?_getD]
     have h3:(l.getD j .nils).rel β I w (a.eval (caps.getD j default)):=hr j _ _ h1 h2
     have h4:=hlow _ (List.mem_of_getElem? h2)
     rwa [Cell.rel_eq (hnc _ (z2g hj))]at h3
    ·simp[execOp,hop,Instr.makeFunc,hfirst]
   ·exact hK.elim
  ·rename_i r hf hcp
   obtain⟨v,hv,hbv,h⟩:=z0n hE hG h;unfold recvS at h
   split at h
   ·rename_i l
    obtain⟨hnc,hK⟩:=h;obtain⟨vs,hvs,hlen,hrel⟩:=hv
    have hfirst:first= #[r]:=by apply Array.ext';exact hf
    have hcaps:caps= #[]:=by apply Array.ext';exact hcp
    refine⟨_,.func (.func f) #[.agg vs.toArray] #[],hK,fun x hx=>?_,⟨fun j=>vs.getD j default,?_,fun j hj=>?_⟩,fun w' _=>?_⟩
    ·have h2:x.low n:=hbv x hx
     rwa [Cell.low_eq (hnc x hx)]at h2
    ·have e:(List.range l.length).map (fun j=>vs.getD j default)=vs:=by
      have hlen':vs.length=l.length:=hlen
      rw[←hlen'];apply List.ext_getElem?;intro j
      by_cases hj:j< vs.length
      ·simp[hj,List.getD_eq_getElem?_getD]
      ·rw[List.getElem?_eq_none (by simp;omega),List.getElem?_eq_none (by omega)]
     rw[e];unfold cloV;rw[if_neg (Nat.not_lt.2 (Nat.le_add_left _ _)),Nat.add_sub_cancel]
    ·obtain⟨u,hu,hr⟩:=hrel j hj
     have hu':vs.getD j default=u:=by rw[List.getD_eq_getElem?_getD,hu];rfl
     show(l.getD j .nils).rel1 β I w (vs.getD j default)
     rw[hu']
     have hr':(l.getD j .nils).rel β I w u:=hr
     rwa [Cell.rel_eq (hnc _ (z2g hj))]at hr'
    ·simp[execOp,hop,Instr.makeFunc,hfirst,hcaps,hvs]
   ·exact h.elim
  ·exact h.elim
 ·-- indexAddr
  rename_i t x i hop
  obtain⟨vx,hvx,hbx,h⟩:=z0n hE hG h;obtain⟨k,i',hi,h⟩:=z27 hE hG h;obtain⟨sv,u,hK,hb,hr,hrun⟩:=zem (P:=P) (q:=k) hT hH hvx hbx h;refine⟨sv,u,hK,hb,hr,fun w' _=>?_⟩
  simp only[execOp,hop,hi]
  exact z0x _ (hrun w')
 ·-- index
  rename_i t x i hop
  obtain⟨vx,hvx,hbx,h⟩:=z0n hE hG h;obtain⟨k,i',hi,h⟩:=z27 hE hG h;obtain⟨sv,u,hK,hb,hr,hrun⟩:=zep (P:=P) (k:=k) hT hvx hbx h;refine⟨sv,u,hK,hb,hr,fun w' _=>?_⟩
  simp only[execOp,hop,hi]
  exact z0x _ (hrun w')
 ·-- fieldAddr
  rename_i t x f hop
  obtain⟨vx,hvx,hbx,h⟩:=z0n hE hG h;obtain⟨sv,u,hK,hb,hr,hrun⟩:=za7 (P:=P) hT hH hvx hbx h;refine⟨sv,u,hK,hb,hr,fun w' _=>?_⟩
  simp only[execOp,hop]
  exact z0x _ (hrun w')
 ·-- field
  rename_i t x f hop
  obtain⟨vx,hvx,hbx,h⟩:=z0n hE hG h;obtain⟨sv,u,hK,hb,hr,hrun⟩:=zen (P:=P) hT hvx hbx h;refine⟨sv,u,hK,hb,hr,fun w' _=>?_⟩
  simp only[execOp,hop]
  exact z0x _ (hrun w')
 ·-- slice
  rename_i t x lo hi hop
  obtain⟨vx,hvx,hbx,h⟩:=z0n hE hG h
  split at h
  ·obtain⟨sv,u,hK,hb,hr,hrun⟩:=z2d (P:=P) (lo:=none) (hi:=none) (l:=none) (h:=none) hT hH hvx hbx trivial trivial h
   refine⟨sv,u,hK,hb,hr,fun w' _=>?_⟩
   simp only[execOp,hop]
   exact z0x _ (hrun w')
  ·obtain⟨k,i,hi,h⟩:=z27 hE hG h
   obtain⟨sv,u,hK,hb,hr,hrun⟩:=z2d (P:=P) (lo:=some (.int k i)) (hi:=none) (l:=some i) (h:=none) hT hH hvx hbx rfl trivial h;refine⟨sv,u,hK,hb,hr,fun w' _=>?_⟩
   simp only[execOp,hop,Option.map_some,hi]
   exact z0x _ (hrun w')
  ·obtain⟨k,i,hi,h⟩:=z27 hE hG h
   obtain⟨sv,u,hK,hb,hr,hrun⟩:=z2d (P:=P) (lo:=none) (hi:=some (.int k i)) (l:=none) (h:=some i) hT hH hvx hbx trivial rfl h;refine⟨sv,u,hK,hb,hr,fun w' _=>?_⟩
   simp only[execOp,hop,Option.map_some,hi]
   exact z0x _ (hrun w')
  ·obtain⟨k,i,hi,h⟩:=z27 hE hG h
   obtain⟨k',i',hi',h⟩:=z27 hE hG h;obtain⟨sv,u,hK,hb,hr,hrun⟩:=z2d (P:=P) (lo:=some (.int k i)) (hi:=some (.int k' i')) (l:=some i) (h:=some i') hT hH hvx hbx rfl rfl h;refine⟨sv,u,hK,hb,hr,fun w' _=>?_⟩
   simp only[execOp,hop,Option.map_some,hi,hi']
   exact z0x _ (hrun w')
 ·-- a slice of nothing, without room
  rename_i t x hx mx hop
  obtain⟨vx,hvx,hbx,h1⟩:=z0n hE hG h;obtain⟨k,i,hi,h2⟩:=z27 hE hG h1;obtain⟨k',i',hi',⟨hz,hz'⟩,h3⟩:=z27 hE hG h2;clear h h1 h2;subst hz hz'
  split at h3
  ·rename_i e s by_ m c ht
   obtain⟨hu,hes,_⟩:=hT.slice t e s by_ ht;obtain⟨ad,cap,hv,hn,hd⟩:=CellD.ds_inv (show CellD I w (.ds m c) _ from hvx);refine⟨.c (.raw (.slice ad 0 0)),.slice ad 0 0,h3 ad,trivial,CellD.flat _ rfl,fun w' _=>?_⟩
   simp only[execOp,hop,Option.map_some,Option.map_none,hi,hi']
   exact z0x _ (by simp[Instr.sliceAt,Instr.slice,run_underlying hu,hv,Instr.sliceBounds,Instr.sliceBound,asIntOf,run_sizeOf' hes])
  ·rename_i e s by_ ht
   obtain⟨hu,hes,_⟩:=hT.slice t e s by_ ht;refine⟨.c .nils,.slice none 0 0,h3,trivial,CellD.flat .nils rfl,fun w' _=>?_⟩
   have hv:=CellD.of_flat (x:=.nils) rfl hvx
   simp only[execOp,hop,Option.map_some,Option.map_none,hi,hi']
   exact z0x _ (by simp[Instr.sliceAt,Instr.slice,run_underlying hu,hv,Cell.val,Instr.sliceBounds,Instr.sliceBound,asIntOf,run_sizeOf' hes])
  ·exact h3.elim
 ·-- lookup
  rename_i t x i ok hop
  obtain⟨vx,hvx,hbx,h⟩:=z0n hE hG h;obtain⟨vi,hvi,hbi,h⟩:=z0n hE hG h;obtain⟨v,y,hK,hl,hr,hrun⟩:=zlx (P:=P) hT hH hvx hvi h;refine⟨v,y,hK,hl,hr,fun w' hw=>?_⟩
  simp only[execOp,hop]
  exact z0x _ (hrun w' hw)
 ·-- extract
  rename_i t i hop
  obtain⟨vx,hvx,hbx,h⟩:=z0n hE hG h
  split at h
  ·rename_i l
   split at h
   ·rename_i p hp
    obtain⟨vs,hv,hl,hr⟩:=hvx;obtain⟨u,hu,hru⟩:=hr i p hp;refine⟨_,u,h,Part.sv_low (hbx p (List.mem_of_getElem? hp)),Part.sv_rel hru,fun w' _=>?_⟩
    simp only[execOp,hop,hv]
    exact z0x _ (by simp only[Instr.extract,List.getElem?_toArray,hu];rfl)
   ·exact h.elim
  ·exact h.elim
 ·-- a slice as an array
  rename_i t x hop
  obtain⟨vx,hvx,hbx,h⟩:=z0n hE hG h
  split at h
  ·rename_i m e s z l c hty
   obtain⟨⟨h1,h2,h3⟩,h⟩:=h;obtain⟨ad,cap,hv,hn,hd⟩:=CellD.ds_inv (show CellD I w (.ds l c) _ from hvx)
   have hu:=(hT.arr _ _ _ _ _ hty).1
   rcases hd with⟨h0,_⟩|⟨b,off,rfl,hd⟩
   ·omega
   ·refine⟨_,.pointer (some ⟨b,off,none⟩),h,trivial,Cell.rel_of (β:=β) ((hd.take (m*s)).dp (by rw[Cont.take_len];omega)),fun w' _=>?_⟩
    simp only[execOp,hop,hv]
    exact z0x _ (by simp[Instr.arrayAt,run_underlying hu,show ¬ l< m by omega])
  ·exact h.elim
 ·-- call of a builtin
  rename_i c hop
  have hc:∀ (b:Builtin) (l:List Operand) (r:Value) (w:World),c.callee= .builtin b→c.args.toList=l→(builtin b c.argTypes o.type (c.args.map fun| .const _=>true|_=>false) (l.map a.eval).toArray).run P w= .ok (.value r) w→
    (execOp a.eval o).run P w= .ok (.value r) w:=by
   intro b l r w hcb hl hrun
   have e:c.args.map a.eval=(l.map a.eval).toArray:=by rw[←hl, ←Array.toList_map,Array.toArray_toList]
   simp only[execOp,hop,resolve,hcb,Sem.run_bind,Sem.run_pure,Result.andThen_ok,invoke,e]
   exact hrun
  split at h
  ·rename_i x t hcb hl ht
   obtain⟨vx,hvx,hbx,h⟩:=z0n hE hG h;obtain⟨v,hK,hb,hrun⟩:=zkq (P:=P) hT hvx h;refine Gives.cell hK hb fun w'=>hc _ _ _ w' hcb hl ?_
   have ea:c.argTypes= #[t]:=by
    have:=congrArg List.toArray ht
    simpa using this
   simp only[builtin,List.map_cons,List.map_nil,ea]
   exact z0x _ (hrun w' o.type)
  ·rename_i x t hcb hl ht
   obtain⟨vx,hvx,hbx,h⟩:=z0n hE hG h;obtain⟨v,hK,hb,hrun⟩:=zkp (P:=P) hT hvx h;refine Gives.cell hK hb fun w'=>hc _ _ _ w' hcb hl ?_
   have ea:c.argTypes= #[t]:=by
    have:=congrArg List.toArray ht
    simpa using this
   simp only[builtin,List.map_cons,List.map_nil,ea]
   exact z0x _ (hrun w' o.type)
  ·rename_i x y hcb hl
   obtain⟨vx,hvx,hbx,h⟩:=z0n hE hG h;obtain⟨vy,hvy,hby,h⟩:=z0n hE hG h
   split at h
   ·obtain⟨rfl,h⟩:=h
    have ex:=(SV.rel_flat (x:=.c (.int _ _)) rfl).1 hvx
    have ey:=(SV.rel_flat (x:=.c (.int _ _)) rfl).1 hvy
    refine Gives.cell h rfl fun w'=>hc _ _ _ w' hcb hl ?_
    simp only[builtin,List.map_cons,List.map_nil,ex,ey,SV.val,Cell.val]
    exact z0x _ (by simp[Builtin.min_,Builtin.min2])
   ·exact h.elim
  ·rename_i x y hcb hl
   obtain⟨vx,hvx,hbx,h⟩:=z0n hE hG h;obtain⟨vy,hvy,hby,h⟩:=z0n hE hG h
   split at h
   ·obtain⟨rfl,h⟩:=h
    have ex:=(SV.rel_flat (x:=.c (.int _ _)) rfl).1 hvx
    have ey:=(SV.rel_flat (x:=.c (.int _ _)) rfl).1 hvy
    refine Gives.cell h rfl fun w'=>hc _ _ _ w' hcb hl ?_
    simp only[builtin,List.map_cons,List.map_nil,ex,ey,SV.val,Cell.val]
    exact z0x _ (by simp[Builtin.max_,Builtin.max2])
   ·exact h.elim
  ·rename_i x y z hcb hl
   obtain⟨vx,hvx,hbx,h1⟩:=z0n hE hG h;obtain⟨vy,hvy,hby,h2⟩:=z0n hE hG h1;obtain⟨vz,hvz,hbz,h3⟩:=z0n hE hG h2;clear h h1 h2
   split at h3
   ·obtain⟨⟨rfl,rfl⟩,h⟩:=h3
    have ex:=(SV.rel_flat (x:=.c (.int _ _)) rfl).1 hvx
    have ey:=(SV.rel_flat (x:=.c (.int _ _)) rfl).1 hvy
    have ez:=(SV.rel_flat (x:=.c (.int _ _)) rfl).1 hvz
    refine Gives.cell h rfl fun w'=>hc _ _ _ w' hcb hl ?_
    simp only[builtin,List.map_cons,List.map_nil,ex,ey,ez,SV.val,Cell.val]
    exact z0x _ (max3_run _ _ _ _ _ _ _ _)
   ·exact h3.elim
  ·exact h.elim
 ·exact h.elim
def zeq(o:Oper):Bool:=match o.op with
 | .move _| .assign _=>true
 | .binOp _ _ _ (.const (.slice _ _ _)) _=>false
 | .binOp _ _ _ _ _=>true
 | .slice _ _ _ _ none=>true
 | .extract _ _=>true
 |_=>false
theorem zgi{D:List Deferred}(hT:TyOK P ty)(hG:z26 glob I w)(hE:EnvOK D β n I w E a)(hH:HeapOK C β n H I w){o:Oper}(hs:zeq o=true){K:SV→Prop}(h:pureS ty glob o E H K):
  ∃ v x,K v∧v.low n∧v.rel β I w x∧∀ w',(execOp a.eval o).run P w'= .ok (.value x) w':=by
 unfold zeq at hs
 split at hs
 ·rename_i x hop
  unfold pureS at h;rw[hop]at h;obtain⟨v,hv,hb,hK⟩:=z0n hE hG h;exact⟨v,_,hK,hb,hv,fun w'=>by simp[execOp,hop]⟩
 ·rename_i x hop
  unfold pureS at h;rw[hop]at h;obtain⟨v,hv,hb,hK⟩:=z0n hE hG h;exact⟨v,_,hK,hb,hv,fun w'=>by simp[execOp,hop]⟩
 ·cases hs
 ·rename_i op t x y yt hne hop
  unfold pureS at h;rw[hop]at h
  have fl:∀ {c:Cell},K (.c c)→c.flat=true→(∀ w',(execOp a.eval o).run P w'= .ok (.value c.val) w')→∃ v x,K v∧v.low n∧v.rel β I w x∧∀ w',(execOp a.eval o).run P w'= .ok (.value x) w':=
   fun {c} hK hf hr=>⟨.c c,c.val,hK,SV.flat_low (x:=.c c) hf,Cell.rel_val hf,hr⟩
  split at h
  all_goals first|(rename_i e;cases e)|skip
  all_goals first|(exfalso;exact hne _ _ _ rfl)|skip
  all_goals first|(exact False.elim h)|skip
  split at h
  ·obtain⟨vx,hvx,_,h⟩:=z0n hE hG h
   obtain⟨vy,hvy,_,h⟩:=z0n hE hG h;obtain⟨k,i,hi,h⟩:=z4b hvy h
   have ex:=(SV.rel_flat (z64 h)).1 hvx
   obtain⟨c,hc,hb,hrun⟩:=z80 (P:=P) (yk:=k) (t:=t) h;refine fl hc hb fun w'=>?_
   have:=hrun w'
   simp only[if_true]at this
   simp only[execOp,hop,ex,hi]
   exact z0x _ (by simpa [eqGuard]using this)
  ·obtain⟨vx,hvx,_,h⟩:=z0n hE hG h
   obtain⟨vy,hvy,_,h⟩:=z0n hE hG h;obtain⟨k,i,hi,h⟩:=z4b hvy h
   have ex:=(SV.rel_flat (z64 h)).1 hvx
   obtain⟨c,hc,hb,hrun⟩:=z80 (P:=P) (yk:=k) (t:=t) h;refine fl hc hb fun w'=>?_
   have:=hrun w'
   simp only[Bool.false_eq_true,if_false]at this
   simp only[execOp,hop,ex,hi]
   exact z0x _ (by simpa [eqGuard]using this)
  ·rename_i hs hr
   obtain⟨vx,hvx,_,h⟩:=z0n hE hG h;obtain⟨vy,hvy,_,h⟩:=z0n hE hG h;obtain⟨f1,f2⟩:=zek h
   have ex:=(SV.rel_flat f1).1 hvx
   have ey:=(SV.rel_flat f2).1 hvy
   obtain⟨c,hc,hb,hrun⟩:=zic (P:=P) (x:=x) (y:=y) hT (fun e=>hs e) (fun e=>hr e) h;refine fl hc hb fun w'=>?_
   simp only[execOp,hop,ex,ey]
   exact z0x _ (hrun w')
 ·rename_i t x lo hi hop
  unfold pureS at h;rw[hop]at h;obtain⟨vx,hvx,hbx,h⟩:=z0n hE hG h
  split at h
  ·obtain⟨sv,u,hK,hb,hr,hrun⟩:=z2d (P:=P) (lo:=none) (hi:=none) (l:=none) (h:=none) hT hH hvx hbx trivial trivial h
   refine⟨sv,u,hK,hb,hr,fun w'=>?_⟩
   simp only[execOp,hop,Option.map_none,Option.map_some]
   exact z0x _ (hrun w')
  ·obtain⟨k,i,ei,h⟩:=z27 hE hG h
   obtain⟨sv,u,hK,hb,hr,hrun⟩:=z2d (P:=P) (lo:=some (.int k i)) (hi:=none) (l:=some i) (h:=none) hT hH hvx hbx rfl trivial h;refine⟨sv,u,hK,hb,hr,fun w'=>?_⟩
   simp only[execOp,hop,Option.map_none,Option.map_some,ei]
   exact z0x _ (hrun w')
  ·obtain⟨k,i,ei,h⟩:=z27 hE hG h
   obtain⟨sv,u,hK,hb,hr,hrun⟩:=z2d (P:=P) (lo:=none) (hi:=some (.int k i)) (l:=none) (h:=some i) hT hH hvx hbx trivial rfl h;refine⟨sv,u,hK,hb,hr,fun w'=>?_⟩
   simp only[execOp,hop,Option.map_none,Option.map_some,ei]
   exact z0x _ (hrun w')
  ·obtain⟨k,i,ei,h⟩:=z27 hE hG h
   obtain⟨k',i',ei',h⟩:=z27 hE hG h;obtain⟨sv,u,hK,hb,hr,hrun⟩:=z2d (P:=P) (lo:=some (.int k i)) (hi:=some (.int k' i')) (l:=some i) (h:=some i') hT hH hvx hbx rfl rfl h;refine⟨sv,u,hK,hb,hr,fun w'=>?_⟩
   simp only[execOp,hop,Option.map_none,Option.map_some,ei,ei']
   exact z0x _ (hrun w')
 ·rename_i t i hop
  unfold pureS at h;rw[hop]at h;obtain⟨vx,hvx,hbx,h⟩:=z0n hE hG h
  split at h
  ·rename_i l
   split at h
   ·rename_i p hp
    obtain⟨vs,hv,hl,hr⟩:=hvx;obtain⟨u,hu,hru⟩:=hr i p hp;refine⟨_,u,h,Part.sv_low (hbx p (List.mem_of_getElem? hp)),Part.sv_rel hru,fun w'=>?_⟩
    simp only[execOp,hop,hv]
    exact z0x _ (by simp only[Instr.extract,List.getElem?_toArray,hu];rfl)
   ·exact h.elim
  ·exact h.elim
 ·cases hs
end
end Go.Ab

namespace Go.Ab
set_option linter.all false
open Go.RowKit
section
variable {P:Program} {C:CC} {β:Val} {n:Nat} {H:Heap} {I:Nat→Prop} {w:World}

def upd(β:Val)(n:Nat)(x:Option Nat):Val:=fun i=>if i=n then x else β i
theorem z54{β:Val}{n:Nat}{x:Option Nat}:∀ i,i< n→upd β n x i=β i:=fun i hi=>by simp[upd];omega
theorem z2q{β:Val}{n:Nat}{x:Option Nat}:upd β n x n=x:=by simp[upd]

theorem HeapOK.sub(h:HeapOK C β n H I w){H':Heap}(hs:∀ id o,H'.get id=some o→H.get id=some o):HeapOK C β n H' I w:=
 ⟨h.os,h.tape,h.output,h.size,h.frame,fun id o ho=>h.holds id o (hs id o ho),fun id o ho=>h.low id o (hs id o ho),fun id o ho=>h.fresh id o (hs _ _ ho),
  fun i j oi oj hij hi hj=>h.sep i j oi oj hij (hs _ _ hi) (hs _ _ hj),fun id o ho=>h.off id o (hs _ _ ho),h.ilt,h.i0,h.base⟩
theorem HeapOK.del(h:HeapOK C β n H I w)(i:Nat):HeapOK C β n (H.del i) I w:=by
 refine h.sub fun id o ho=>?_;rw[Heap.get_del]at ho
 split at ho
 ·cases ho
 ·exact ho
theorem HeapOK.rename(h:HeapOK C β n H I w){β':Val}(hβ:∀ i,i< n→β' i=β i):HeapOK C β' n H I w:=by
 refine⟨h.os,h.tape,h.output,h.size,h.frame,fun id o ho=>?_,h.low,fun id o ho b hb=>?_,fun i j oi oj hij hi hj b hu hv=>?_,fun id o ho b hb=>?_,h.ilt,h.i0,h.base⟩
 ·rw[hβ id (h.low id o ho).1]
  exact(h.holds id o ho).mono hβ (Ext.refl _ _) (h.low id o ho).2 fun _ _=>rfl
 ·rw[hβ id (h.low id _ ho).1]at hb
  exact h.fresh id o ho b hb
 ·rw[hβ i (h.low i _ hi).1]at hu
  rw[hβ j (h.low j _ hj).1]at hv;exact h.sep i j oi oj hij hi hj b hu hv
 ·rw[hβ id (h.low id _ ho).1]at hb
  exact h.off id o ho b hb

theorem HeapOK.name(h:HeapOK C β n H I w){o:SObj}{ad:Option Nat}(ho:o.Holds β I w ad)(hl:o.low n)(hf:∀ b,ad=some b→C.w0.heap.size≤b∨C.F b)(hs:∀ id o',H.get id=some o'→∀ b,β id=some b→ad=some b→False)(hi:∀ b,ad=some b→¬ I b):
  HeapOK C (upd β n ad) (n+1) ((n,o)::H) I w:=by
 have h1:=h.rename (z54 (x:=ad))
 refine⟨h1.os,h1.tape,h1.output,h1.size,h1.frame,fun id o' ho'=>?_,fun id o' ho'=>?_,fun id o' ho' b hb=>?_,fun i j oi oj hij hi' hj' b hu hv=>?_,fun id o' ho' b hb=>?_,h.ilt,h.i0,h.base⟩
 ·rw[Heap.get_cons]at ho'
  split at ho'
  ·rename_i hid
   cases ho';subst hid
   rw[z2q];exact ho.mono z54 (Ext.refl _ _) hl fun _ _=>rfl
  ·exact h1.holds id o' ho'
 ·rw[Heap.get_cons]at ho'
  split at ho'
  ·rename_i hid
   cases ho';subst hid
   exact⟨Nat.lt_succ_self _,SObj.low_mono (Nat.le_succ _) hl⟩
  ·exact⟨Nat.lt_succ_of_lt (h.low id o' ho').1,SObj.low_mono (Nat.le_succ _) (h.low id o' ho').2⟩
 ·rw[Heap.get_cons]at ho'
  split at ho'
  ·rename_i hid
   subst hid;rw[z2q]at hb;exact hf b hb
  ·exact h1.fresh id o' ho' b hb
 ·rw[Heap.get_cons]at hi' hj'
  split at hi'
  ·rename_i hid
   subst hid;rw[if_neg hij]at hj';rw[z54 j (h.low j oj hj').1]at hv;rw[z2q]at hu;exact hs j oj hj' b hv hu
  ·split at hj'
   ·rename_i hid hjd
    subst hjd;rw[z54 i (h.low i _ hi').1]at hu;rw[z2q]at hv;exact hs i oi hi' b hu hv
   ·exact h1.sep i j oi oj hij hi' hj' b hu hv
 ·rw[Heap.get_cons]at ho'
  split at ho'
  ·rename_i hid
   subst hid;rw[z2q]at hb;exact hi b hb
  ·exact h1.off id o' ho' b hb

theorem HeapOK.push(h:HeapOK C β n H I w){arr:Array Value}{t:TypeId}{c:Cont}(hc:c.rel β I w (arr.toList.take c.len))(hb:c.low n)(hl:c.len≤arr.size):
  HeapOK C (upd β n (some w.heap.size)) (n+1) ((n,.own t c arr.size)::H) I (w.alloc (.cells arr t)):=by
 have hsame:Same w (w.alloc (.cells arr t)):=(Below.refl _ w).alloc (Nat.le_refl _) (.cells arr t)
 have h1:=h.later hsame
 refine h1.name (.inl ⟨_,arr,rfl,heap_alloc_new w _,rfl,hl,Cont.rel_mono (fun _ _=>rfl) (h.ext hsame) hb hc⟩) hb (fun b e=>?_) (fun id o ho b hb e=>?_) (fun b e hI=>?_)
 ·cases e;exact .inl h.size
 ·cases e
  have:=(h.holds id o ho).lt hb
  omega
 ·cases e
  exact absurd (h.ilt _ hI) (Nat.lt_irrefl _)

theorem HeapOK.pushNil(h:HeapOK C β n H I w){t:TypeId}{c:Cont}(h0:c.len=0)(hb:c.low n):HeapOK C (upd β n none) (n+1) ((n,.own t c 0)::H) I w:=
 h.name (.inr ⟨rfl,h0,rfl⟩) hb (fun b e=>by cases e) (fun id o ho b hb e=>by cases e) (fun b e=>by cases e)

theorem HeapOK.write(h:HeapOK C β n H I w){id b:Nat}{oo:SObj}(hid:H.get id=some oo)(hb:β id=some b){w':World}{o':SObj}
  (hos:w'.os=w.os) (htape:w'.tape=w.tape) (hout:w'.output=w.output) (hsz:w.heap.size≤w'.heap.size) (hother:∀ k,k< w.heap.size→k≠b→w'.heap[k]? =w.heap[k]?)
  (hnew:Ext I w I w'→o'.Holds β I w' (some b)) (hbl:o'.low n):
  Ext I w I w'∧HeapOK C β n ((id,o')::H) I w':=by
 have hbs:b< w.heap.size:=(h.holds id _ hid).lt hb
 have hfr:=h.fresh id _ hid _ hb
 have hext:Ext I w I w':=fun k hk=>⟨hk,hother k (h.ilt k hk) (fun e=>h.off id _ hid b hb (e▸hk))⟩
 refine⟨hext,hos.trans h.os,htape.trans h.tape,hout.trans h.output,Nat.le_trans h.size hsz,fun k hk hf=>?_,fun i o ho=>?_,fun i o ho=>?_,fun i o ho a ha=>?_,fun i j oi oj hij hi hj k hu hv=>?_,fun i o ho a ha=>?_,fun k hk=>Nat.lt_of_lt_of_le (h.ilt k hk) hsz,h.i0,h.base⟩
 ·have hkb:k≠b:=by
   rintro rfl
   rcases hfr with hfr|hfr
   ·omega
   ·exact hf hfr
  rw[hother k (Nat.lt_of_lt_of_le hk h.size) hkb];exact h.frame k hk hf
 ·rw[Heap.get_cons]at ho
  split at ho
  ·rename_i e;cases ho;subst e
   rw[hb];exact hnew hext
  ·rename_i e
   refine(h.holds i o ho).mono (n:=n) (fun _ _=>rfl) hext (h.low i o ho).2 fun k hu=>hother k ((h.holds i o ho).lt hu) ?_
   rintro rfl
   exact h.sep id i _ o e hid ho k hb hu
 ·rw[Heap.get_cons]at ho
  split at ho
  ·rename_i e;cases ho;subst e
   exact⟨(h.low _ _ hid).1,hbl⟩
  ·exact h.low i o ho
 ·rw[Heap.get_cons]at ho
  split at ho
  ·rename_i e;subst e
   exact h.fresh _ _ hid a ha
  ·exact h.fresh i o ho a ha
 ·rw[Heap.get_cons]at hi hj
  split at hi
  ·rename_i e;subst e
   rw[if_neg hij]at hj;exact h.sep _ j _ oj hij hid hj _ hu hv
  ·split at hj
   ·rename_i e e';subst e'
    exact h.sep i _ oi _ hij hi hid _ hu hv
   ·exact h.sep i j oi oj hij hi hj k hu hv
 ·rw[Heap.get_cons]at ho
  split at ho
  ·rename_i e;subst e
   exact h.off _ _ hid a ha
  ·exact h.off i o ho a ha

theorem HeapOK.alias(h:HeapOK C β n H I w){id:Nat}{o:SObj}(hid:H.get id=some o):HeapOK C (upd β n (β id)) (n+1) ((n,o)::H.del id) I w:=by
 refine(h.del id).name (h.holds id o hid) (h.low id o hid).2 (fun b e=>h.fresh id o hid b e) (fun i o' ho b hb e=>?_) (fun b e=>h.off id o hid b e);rw[Heap.get_del]at ho
 split at ho
 ·cases ho
 ·rename_i hne
  exact h.sep i id o' o (Ne.symm hne) ho hid b hb e

def After(C:CC)(β:Val)(n:Nat)(I:Nat→Prop)(w:World)(K:SV→Heap→Nat→Prop)(v:Value)(w':World):Prop:=
 ∃ sv H' n' β' I',K sv H' n'∧sv.rel β' I' w' v∧sv.low n'∧n≤n'∧(∀ i,i< n→β' i=β i)∧Ext I w I' w'∧HeapOK C β' n' H' I' w'

def z6h(C:CC)(β:Val)(n:Nat)(I:Nat→Prop)(w:World)(K:SV→Heap→Nat→Prop)(v:Value)(w':World):Prop:=Same w w'∧After C β n I w K v w'

def Runs(P:Program)(a:Act)(o:Oper)(w:World)(R:Value→World→Prop):Prop:=
 match (execOp a.eval o).run P w with
 | .ok (.value v) w'=>R v w'
 | .ok .skip w'=>R undef w'
 | .ok (.enter f args) w'=>Calls P f args w' fun e w''=>∃ v,e= .returned v∧R v w''
 |_=>False

theorem Runs.wp{a:Act}{o:Oper}{R:Value→World→Prop}(h:Runs P a o w R){K:Act→World→Prop}{Q:Exit→Act→World→Prop}(hK:∀ v w',R v w'→K (a.put o.dst v) w'):o.wp P a w K Q:=by
 unfold Runs at h;unfold Oper.wp Oper.upon
 split at h
 ·rename_i v w' hr;rw[hr];exact hK _ _ h
 ·rename_i w' hr;rw[hr];exact hK _ _ h
 ·rename_i f args w' hr;rw[hr]
  refine Calls.mono h fun e w'' ⟨v,he,hR⟩=>?_;subst he;exact hK _ _ hR
 ·exact h.elim
theorem Runs.of_value{a:Act}{o:Oper}{R:Value→World→Prop}{v:Value}{w':World}(hr:(execOp a.eval o).run P w= .ok (.value v) w')(h:R v w'):Runs P a o w R:=by
 unfold Runs;rw[hr];exact h
theorem Runs.of_skip{a:Act}{o:Oper}{R:Value→World→Prop}{w':World}(hr:(execOp a.eval o).run P w= .ok .skip w')(h:R undef w'):Runs P a o w R:=by
 unfold Runs;rw[hr];exact h

theorem Gives.runs{a:Act}{o:Oper}{K:SV→Heap→Nat→Prop}(h:Gives P β n I w a o fun v=>K v H n)(hH:HeapOK C β n H I w):Runs P a o w (z6h C β n I w K):=by
 obtain⟨v,x,hK,hb,hrel,hr⟩:=h;exact Runs.of_value (hr w (Below.refl _ _)) ⟨Below.refl _ _,v,H,n,β,I,hK,hrel,hb,Nat.le_refl _,fun _ _=>rfl,Ext.refl _ _,hH⟩


def SV.cont:SV→Option Cont
 | .c (.u8 x)=>some (.u8s [x])
 | .c (.u32 x)=>some (.u32s [x])
 | .c (.u64 x)=>some (.u64s [x])
 | .c (.int k x)=>some (.ints k [x])
 | .c (.bool x)=>some (.bools [x])
 | .c x=>some (.cells [x])
 | .agg k=>some k
 | .tup _=>none

def zav:SV→Prop
 | .c x=>x.solid
 |_=>True

theorem Cell.solid_one{x:Cell}(hs:x.solid){v:Value}(h:x.rel β I w v):v.oneCell'=true:=by
 have hD:∀ {y:Cell} {v:Value},y.solid→CellD I w y v→v.oneCell'=true:=by
  intro y v hs h
  cases h with
  |flat x hx=>cases y<;>first|rfl|exact hs|(simp[Cell.flat]at hx)
  |clo f caps g hg=>exact zi9 _ _
  |_=>rfl
 rcases Cell.clo_or x with⟨f,cs,rfl⟩|hc
 ·obtain⟨g,rfl,_⟩:=h;exact zi9 _ _
 ·rw[Cell.rel_eq hc]at h
  cases x with
  |ptr id off=>cases h;rfl
  |slice id off len cap=>obtain⟨_,_,rfl,_⟩:=h;rfl
  |map id=>cases h;rfl
  |_=>exact hD hs h

theorem z66{v:Value}(h:v.oneCell'=true):v.cells= #[v]:=by
 cases v<;>first|rfl|(simp[Value.oneCell']at h)

theorem SV.cont_cells{v:SV}{c:Cont}(h:v.cont=some c)(hs:zav v){x:Value}(hr:v.rel β I w x):c.rel β I w x.cells.toList∧(v.low n→c.low n):=by
 have one:∀ y:Cell,v= .c y→x.cells= #[x]:=by
  rintro y rfl
  exact z66 (Cell.solid_one hs hr)
 have scal:∀ (y:Cell) (d:Cont),v= .c y→d.len=1→d.get 0=y→d.rel β I w x.cells.toList:=by
  intro y d hy h1 h2;rw[one y hy];subst hy;refine⟨by simp[h1],fun j hj=>?_⟩
  obtain rfl:j=0:=by omega
  exact⟨x,rfl,by rw[h2];exact hr⟩
 unfold SV.cont at h
 split at h<;>cases h
 all_goals first
  |exact⟨scal _ _ rfl rfl rfl,fun _=>trivial⟩
  |exact⟨scal _ _ rfl rfl rfl,fun h y hy=>by obtain rfl:=List.mem_singleton.1 hy;exact h⟩
  |skip
 obtain⟨vs,rfl,hr⟩:=hr;exact⟨by simpa [Value.cells]using hr,fun h=>h⟩

def zly(ty:Nat→Ty)(t:TypeId)(H:Heap)(n:Nat)(K:SV→Heap→Nat→Prop):Prop:=
 match zeroC (ty t) with
 |some z=>K (.c (.ptr n 0)) ((n,.own t z z.len)::H) (n+1)
 |none=>False

theorem zd7{t:TypeId}{v:Value}(h:(P.info? t).bind (·.zero)=some v):(zeroValue t).run P w= .ok v w:=by
 obtain⟨i,hi,hz⟩:=Option.bind_eq_some_iff.1 h
 simp[zeroValue,typeInfo,hi,hz]

theorem z52{K:SV→Heap→Nat→Prop}(hH:HeapOK C β n H I w){arr:Array Value}{t:TypeId}{c:Cont}{v:SV}{x:Value}(hK:K v ((n,.own t c arr.size)::H) (n+1))(hc:c.rel β I w (arr.toList.take c.len))(hb:c.low n)(hl:c.len≤arr.size)
  (hv:v.rel (upd β n (some w.heap.size)) I (w.alloc (.cells arr t)) x) (hvb:v.low (n+1)):z6h C β n I w K x (w.alloc (.cells arr t)):=
 ⟨(Below.refl _ w).alloc (Nat.le_refl _) _,v,_,n+1,upd β n (some w.heap.size),I,hK,hv,hvb,Nat.le_succ _,z54,hH.ext ((Below.refl _ w).alloc (Nat.le_refl _) _),hH.push hc hb hl⟩

theorem z5m{off:Nat}:place (upd β n (some w.heap.size)) n off=some ⟨w.heap.size,off,none⟩:=by
 simp[place,z2q]

variable {ty:Nat→Ty} {a:Act}
theorem zkr(hT:TyOK P ty)(hH:HeapOK C β n H I w){o:Oper}{t:TypeId}(ho:o.op= .alloc t){K:SV→Heap→Nat→Prop}(h:zly ty t H n K):Runs P a o w (z6h C β n I w K):=by
 unfold zly at h
 split at h
 ·rename_i z hz
  obtain⟨v,hv,hc,hf⟩:=hT.zero t z hz;refine Runs.of_value (v:=.pointer (some ⟨w.heap.size,0,none⟩)) (w':=w.alloc (.cells v.cells t)) ?_ ?_
  ·simp[execOp,ho,Instr.alloc,zd7 hv,newVar,newRow]
  ·have hs:v.cells.size=z.len:=by rw[hc];simp[Cont.vals_length]
   rw[←hs]at h;refine z52 hH h ?_ (Cont.flat_low hf) (Nat.le_of_eq hs.symm) (by simp[SV.rel,Cell.rel,Cell.rel1,z5m]) (Nat.lt_succ_self n);rw[hc,List.take_of_length_le (by simp[Cont.vals_length])];exact(Cont.rel_flat hf).2 rfl
 ·exact h.elim

def boxS(x:SV)(t:TypeId)(H:Heap)(n:Nat)(K:SV→Heap→Nat→Prop):Prop:=
 zav x∧match x.cont with
 |some c=>K (.c (.ptr n 0)) ((n,.own t c c.len)::H) (n+1)
 |none=>False

theorem run_boxS(hH:HeapOK C β n H I w){o:Oper}{t:TypeId}{x:Operand}(ho:o.op= .box t x){v:SV}(hv:v.rel β I w (a.eval x))(hvb:v.low n){K:SV→Heap→Nat→Prop}(h:boxS v t H n K):Runs P a o w (z6h C β n I w K):=by
 obtain⟨hs,h⟩:=h
 split at h
 ·rename_i c hc
  obtain⟨h1,h2⟩:=SV.cont_cells (n:=n) hc hs hv;refine Runs.of_value (v:=.pointer (some ⟨w.heap.size,0,none⟩)) (w':=w.alloc (.cells (a.eval x).cells t)) ?_ ?_
  ·simp[execOp,ho,Instr.box,newVar,newRow]
  ·have hs:(a.eval x).cells.size=c.len:=by rw[←h1.1];simp
   rw[←hs]at h;refine z52 hH h ?_ (h2 hvb) (Nat.le_of_eq hs.symm) (by simp[SV.rel,Cell.rel,Cell.rel1,z5m]) (Nat.lt_succ_self n);rw[List.take_of_length_le (by simp[hs])];exact h1
 ·exact h.elim

theorem z9r:∀ {l:List Cell},z5c l→∀ x∈l,x.solid
 |[],_,x,hx=>by cases hx
 |y::l,h,x,hx=>by
  rcases List.mem_cons.1 hx with rfl|hx
  ·exact h.1
  ·exact z9r h.2 x hx
theorem Cont.solid_get{c:Cont}(h:c.solid){j:Nat}(hj:j< c.len):(c.get j).solid:=by
 cases c with
 |cells l=>exact z9r h _ (z2g hj)
 |_=>trivial
theorem Cont.rel_oneCell{c:Cont}(hs:c.solid){vs:List Value}(h:c.rel β I w vs):∀ v∈vs,v.oneCell'=true:=by
 intro v hv;obtain⟨j,hj,rfl⟩:=List.mem_iff_getElem.1 hv;obtain⟨u,hu,hr⟩:=h.2 j (by rw[←h.1];exact hj);rw[List.getElem?_eq_getElem hj]at hu;cases hu;exact Cell.solid_one (Cont.solid_get hs (by rw[←h.1];exact hj)) hr

theorem z78{α:Type}{l:List α}{i j:Nat}{x d:α}(hi:i< l.length):(l.set i x).getD j d=if i=j then x else l.getD j d:=by
 simp only[List.getD_eq_getElem?_getD,List.getElem?_set]
 split
 ·rename_i e;subst e;simp
 ·rfl

theorem Cont.set_spec{c:Cont}{i:Nat}(hi:i< c.len){x:Cell}{K:Cont→Prop}(h:c.set i x K):
  ∃ c',K c'∧c'.len=c.len∧(∀ j,c'.get j=if i=j then x else c.get j)∧(∀ n,c.low n→x.low n→c'.low n)∧x.solid:=by
 unfold Cont.set at h
 split at h
 ·refine⟨_,h,by simp[Cont.len],fun j=>?_,fun _ _ _=>trivial,trivial⟩
  simp only[Cont.len]at hi;simp only[Cont.get,z78 hi];split<;>rfl
 ·refine⟨_,h,by simp[Cont.len],fun j=>?_,fun _ _ _=>trivial,trivial⟩
  simp only[Cont.len]at hi;simp only[Cont.get,z78 hi];split<;>rfl
 ·refine⟨_,h,by simp[Cont.len],fun j=>?_,fun _ _ _=>trivial,trivial⟩
  simp only[Cont.len]at hi;simp only[Cont.get,z78 hi];split<;>rfl
 ·obtain⟨rfl,h⟩:=h
  refine⟨_,h,by simp[Cont.len],fun j=>?_,fun _ _ _=>trivial,trivial⟩
  simp only[Cont.len]at hi;simp only[Cont.get,z78 hi];split<;>rfl
 ·refine⟨_,h,by simp[Cont.len],fun j=>?_,fun _ _ _=>trivial,trivial⟩
  simp only[Cont.len]at hi;simp only[Cont.get,z78 hi];split<;>rfl
 ·obtain⟨hs,h⟩:=h
  refine⟨_,h,by simp[Cont.len],fun j=>?_,fun n hc hx y hy=>?_,hs⟩
  ·simp only[Cont.len]at hi;simp only[Cont.get,z78 hi]
  ·rcases List.mem_or_eq_of_mem_set hy with h|rfl
   ·exact hc y h
   ·exact hx
 ·exact h.elim

def Cont.splice(c:Cont)(off:Nat)(d:Cont)(K:Cont→Prop):Prop:=
 if off=0∧c.len=d.len then K d else
 match c,d with
 | .u8s l,.u8s m=>K (.u8s (l.take off++m++l.drop (off+m.length)))
 | .u32s l,.u32s m=>K (.u32s (l.take off++m++l.drop (off+m.length)))
 | .u64s l,.u64s m=>K (.u64s (l.take off++m++l.drop (off+m.length)))
 | .ints k l,.ints k' m=>k=k'∧K (.ints k (l.take off++m++l.drop (off+m.length)))
 | .bools l,.bools m=>K (.bools (l.take off++m++l.drop (off+m.length)))
 | .cells l,d=>K (.cells (l.take off++d.list++l.drop (off+d.len)))
 |_,_=>False

theorem z53{α:Type}{l m:List α}{off j:Nat}{d:α}(h:off+m.length≤l.length):(l.take off++m++l.drop (off+m.length)).getD j d=if j< off then l.getD j d else if j< off+m.length then m.getD (j - off) d else l.getD j d:=by
 have h1:(l.take off).length=off:=by simp;omega
 simp only[List.getD_eq_getElem?_getD,List.append_assoc]
 split
 ·rw[List.getElem?_append_left (by omega),List.getElem?_take_of_lt (by omega)]
 ·rw[List.getElem?_append_right (by omega),h1]
  split
  ·rw[List.getElem?_append_left (by omega)]
  ·rw[List.getElem?_append_right (by omega),List.getElem?_drop]
   congr 2;omega

theorem Cont.list_getD(c:Cont){j:Nat}(h:j< c.len)(d:Cell):c.list.getD j d=c.get j:=by
 rw[List.getD_eq_getElem?_getD,Cont.list_get h];rfl
theorem Cont.list_low{c:Cont}(h:c.low n):∀ x∈c.list,Cell.low n x:=by
 cases c with
 |cells l=>exact h
 |_=>intro x hx;simp only[Cont.list]at hx;obtain⟨y,_,rfl⟩:=List.mem_map.1 hx;trivial

theorem Cont.splice_spec{c d:Cont}{off:Nat}(ho:off+d.len≤c.len){K:Cont→Prop}(h:c.splice off d K):
  ∃ c',K c'∧c'.len=c.len∧(∀ j,j< c.len→c'.get j=if j< off then c.get j else if j< off+d.len then d.get (j - off)else c.get j)∧(∀ n,c.low n→d.low n→c'.low n):=by
 have hl:d.list.length=d.len:=Cont.list_length d
 have hg:∀ j,j< d.len→d.list.getD j .nils=d.get j:=fun j hj=>Cont.list_getD d hj _
 have hlow:∀ n,d.low n→∀ x∈d.list,Cell.low n x:=fun n h=>Cont.list_low h
 unfold Cont.splice at h
 split at h
 ·rename_i hz
  refine⟨d,h,hz.2.symm,fun j hj=>?_,fun _ _ hd=>hd⟩;rw[hz.1,if_neg (by omega),if_pos (by omega)];rfl
 ·split at h
  ·refine⟨_,h,by simp only[Cont.len]at ho ⊢;simp;omega,fun j _=>?_,fun _ _ _=>trivial⟩
   simp only[Cont.len]at ho;simp only[Cont.get,z53 ho,Cont.len];split;rfl;split<;>(rename_i e;first|exact(if_pos e).symm|exact(if_neg e).symm)
  ·refine⟨_,h,by simp only[Cont.len]at ho ⊢;simp;omega,fun j _=>?_,fun _ _ _=>trivial⟩
   simp only[Cont.len]at ho;simp only[Cont.get,z53 ho,Cont.len];split;rfl;split<;>(rename_i e;first|exact(if_pos e).symm|exact(if_neg e).symm)
  ·refine⟨_,h,by simp only[Cont.len]at ho ⊢;simp;omega,fun j _=>?_,fun _ _ _=>trivial⟩
   simp only[Cont.len]at ho;simp only[Cont.get,z53 ho,Cont.len];split;rfl;split<;>(rename_i e;first|exact(if_pos e).symm|exact(if_neg e).symm)
  ·obtain⟨rfl,h⟩:=h
   refine⟨_,h,by simp only[Cont.len]at ho ⊢;simp;omega,fun j _=>?_,fun _ _ _=>trivial⟩
   simp only[Cont.len]at ho;simp only[Cont.get,z53 ho,Cont.len];split;rfl;split<;>(rename_i e;first|exact(if_pos e).symm|exact(if_neg e).symm)
  ·refine⟨_,h,by simp only[Cont.len]at ho ⊢;simp;omega,fun j _=>?_,fun _ _ _=>trivial⟩
   simp only[Cont.len]at ho;simp only[Cont.get,z53 ho,Cont.len];split;rfl;split<;>(rename_i e;first|exact(if_pos e).symm|exact(if_neg e).symm)
  ·rename_i l _
   have ho0:=ho
   rw[←hl]at ho0
   have ho':=show _≤l.length from ho0
   rw[←hl]at h;refine⟨_,h,by simp only[Cont.len];simp;omega,fun j _=>?_,fun n hc hd x hx=>?_⟩
   ·simp only[Cont.get,z53 ho']
    rw[hl]
    split
    ·rfl
    ·split
     ·exact hg _ (by omega)
     ·rfl
   ·simp only[List.mem_append]at hx
    rcases hx with(hx|hx)|hx
    ·exact hc x (List.mem_of_mem_take hx)
    ·exact hlow n hd x hx
    ·exact hc x (List.mem_of_mem_drop hx)
  ·exact h.elim

def zlz(ty:Nat→Ty)(t:TypeId)(id off:Nat)(x:SV)(H:Heap)(n:Nat)(K:SV→Heap→Nat→Prop):Prop:=
 match H.get id with
 |some (.own te c cap)=>match x with
  | .c x=>(ty t).one=true∧off< c.len∧c.set off x fun c'=>K (.c (.raw undef)) ((id,.own te c' cap)::H) n
  | .agg d=>(match ty t with| .arr _ _ _ _=>True| .struct _ _ _=>True|_=>False)∧(ty t).size=d.len∧0< d.len∧off+d.len≤c.len∧d.solid∧c.splice off d fun c'=>K (.c (.raw undef)) ((id,.own te c' cap)::H) n
  | .tup _=>False
 |_=>False

theorem zgj{α:Type}(A vs:List α)(off L:Nat)(h1:off+vs.length≤L)(h2:L≤A.length):
  (A.take off++vs++A.drop (off+vs.length)).take L=(A.take L).take off++vs++(A.take L).drop (off+vs.length):=by
 rw[List.take_take,Nat.min_eq_left (by omega),List.take_append,List.take_of_length_le (by simp;omega),List.drop_take]
 congr 1
 simp
 congr 1
 omega

theorem zgk(hH:HeapOK C β n H I w){id off:Nat}{te:TypeId}{c c':Cont}{cap:Nat}(hid:H.get id=some (.own te c cap)){vs:List Value}(hoff:off+vs.length≤c.len)(hone:∀ v∈vs,v.oneCell'=true)
  (hlen:c'.len=c.len) (hget:∀ j,j< c.len→(off≤j∧j< off+vs.length→∃ u,vs[j - off]? =some u∧(c'.get j).rel β I w u)∧(¬ (off≤j∧j< off+vs.length)→c'.get j=c.get j)) (hb:c'.low n) (hpos:0< c.len):
  ∃ b,place β id off=some ⟨b,off,none⟩∧∃ w',(storeCells ⟨b,off,none⟩ vs).run P w= .ok () w'∧Ext I w I w'∧HeapOK C β n ((id,.own te c' cap)::H) I w':=by
 rcases hH.holds id _ hid with⟨b,arr,hb0,hw,hs,hc,hr⟩|⟨_,h0,_⟩
 ·refine⟨b,by simp[place,hb0],_,run_storeCells_at (P:=P) b off te vs 0 arr w hw (by omega) hone,?_⟩
  refine hH.write hid hb0 rfl rfl rfl (by simp[World.setRow]) (fun k _ hk=>setRow_other w b k _ hk) (fun hE=>.inl ⟨b,_,rfl,setRow_heap w b arr _ te (0,0) hw,?_,by omega,?_⟩) hb
  ·simp;omega
  ·refine Cont.rel_mono (n:=n) (fun _ _=>rfl) hE hb ?_
   simp only[Nat.add_zero]
   rw[hlen];rw[zgj arr.toList vs off c.len hoff (by simp;omega)]
   have hAl:(arr.toList.take c.len).length=c.len:=by simp;omega
   have hA:((arr.toList.take c.len).take off).length=off:=by rw[List.length_take,hAl];omega
   refine⟨?_,fun j hj=>?_⟩
   ·simp only[List.length_append,hA,List.length_drop,hAl,hlen];omega
   ·obtain⟨g1,g2⟩:=hget j (by omega)
    rw[hlen]at hj
    by_cases hin:off≤j∧j< off+vs.length
    ·obtain⟨u,hu,hru⟩:=g1 hin
     exact⟨u,by rw[List.append_assoc,List.getElem?_append_right (by omega),hA,List.getElem?_append_left (by omega)];exact hu,hru⟩
    ·obtain⟨u,hu,hru⟩:=hr.2 j hj
     refine⟨u,?_,by rw[g2 hin];exact hru⟩
     by_cases hlt:j< off
     ·rw[List.append_assoc,List.getElem?_append_left (by omega),List.getElem?_take_of_lt hlt];exact hu
     ·rw[List.append_assoc,List.getElem?_append_right (by omega),hA,List.getElem?_append_right (by omega),List.getElem?_drop]
      rw[show off+vs.length+(j - off - vs.length)=j by omega];exact hu
 ·omega

theorem zks(hT:TyOK P ty)(hH:HeapOK C β n H I w){o:Oper}{t:TypeId}{x y:Operand}(ho:o.op= .store t x y){id off:Nat}(hx:a.eval x= .pointer (place β id off)){v:SV}(hv:v.rel β I w (a.eval y))(hvb:v.low n)
  {K:SV→Heap→Nat→Prop} (h:zlz ty t id off v H n K):Runs P a o w (After C β n I w K):=by
 have key:∀ {te:TypeId} {c c':Cont} {cap:Nat} {vs:List Value},H.get id=some (.own te c cap)→(a.eval y).cells.toList=vs→(P.info? t).map (·.size)=some vs.length→off+vs.length≤c.len→(∀ v∈vs,v.oneCell'=true)→
   c'.len=c.len→(∀ j,j< c.len→(off≤j∧j< off+vs.length→∃ u,vs[j - off]? =some u∧(c'.get j).rel β I w u)∧(¬ (off≤j∧j< off+vs.length)→c'.get j=c.get j))→c'.low n→0< c.len→K (.c (.raw undef)) ((id,.own te c' cap)::H) n→Runs P a o w (After C β n I w K):=by
  intro te c c' cap vs hid hcells hsize hoff hone hlen hget hb hpos hK;obtain⟨b,hp,w',hrun,hE,hH'⟩:=zgk (P:=P) hH hid hoff hone hlen hget hb hpos;refine Runs.of_skip (w':=w') ?_ ⟨.c (.raw undef),_,n,β,I,hK,Cell.rel_val (β:=β) (x:=.raw undef) rfl,trivial,Nat.le_refl _,fun _ _=>rfl,hE,hH'⟩
  have hsz:(a.eval y).cells.size=vs.length:=by rw[←hcells];simp
  simp[execOp,ho,Instr.storeAt,hx,hp,Instr.sureAddr,storeVar,run_sizeOf' hsize,hsz,hcells,hrun]
 unfold zlz at h
 split at h
 ·rename_i te c cap hid
  split at h
  ·rename_i x
   obtain⟨hf,hoff,h⟩:=h;obtain⟨c',hK,hl,hget,hb,hsol⟩:=Cont.set_spec hoff h
   have h1:=z66 (Cell.solid_one hsol hv)
   refine key hid (vs:=[a.eval y]) (by rw[h1]) (by simpa using hT.size_one hf) (by simp;omega) (by simpa using Cell.solid_one hsol hv) hl (fun j hj=>⟨fun hin=>?_,fun hin=>?_⟩) (hb n (hH.low id _ hid).2 hvb) (by omega) hK
   ·simp only[List.length_cons,List.length_nil]at hin
    obtain rfl:j=off:=by omega
    exact⟨a.eval y,by simp,by rw[hget,if_pos rfl];exact hv⟩
   ·simp only[List.length_cons,List.length_nil]at hin
    rw[hget,if_neg (by omega)]
  ·rename_i d
   obtain⟨hag,hsz,hd0,hoff,hsol,h⟩:=h;obtain⟨vs,he,hr⟩:=hv;obtain⟨c',hK,hl,hget,hb⟩:=Cont.splice_spec hoff h
   have hts:(P.info? t).map (·.size)=some vs.length:=by
    rw[hr.1, ←hsz];refine hT.size t (fun e=>?_);rw[e]at hag;exact hag
   refine key hid (vs:=vs) (by rw[he];rfl) hts (by rw[hr.1];exact hoff) (Cont.rel_oneCell hsol hr) hl (fun j hj=>⟨fun hin=>?_,fun hin=>?_⟩) (hb n (hH.low id _ hid).2 hvb) (by omega) hK
   ·rw[hr.1]at hin
    obtain⟨u,hu,hru⟩:=hr.2 (j - off) (by omega);exact⟨u,hu,by rw[hget j hj,if_neg (by omega),if_pos hin.2];exact hru⟩
   ·rw[hr.1]at hin
    rw[hget j hj]
    split
    ·rfl
    ·rw[if_neg (by omega)]
  ·exact h.elim
 ·exact h.elim
end
end Go.Ab

namespace Go.Ab
set_option linter.all false
open Go.RowKit
section
variable {P:Program} {C:CC} {β:Val} {n:Nat} {H:Heap} {I:Nat→Prop} {w:World} {ty:Nat→Ty}

theorem Cont.empty_spec(c:Cont):c.empty.len=0∧c.empty.rel β I w []∧∀ n,c.empty.low n:=by
 cases c<;>exact⟨rfl,⟨rfl,fun j hj=>absurd hj (Nat.not_lt_zero j)⟩,fun _=>by first|trivial|(intro x hx;cases hx)⟩

theorem z2u{α:Type}{l m:List α}{j:Nat}{d:α}:(l++m).getD j d=if j< l.length then l.getD j d else m.getD (j - l.length) d:=by
 simp only[List.getD_eq_getElem?_getD]
 split
 ·rw[List.getElem?_append_left ‹_›]
 ·rw[List.getElem?_append_right (by omega)]

theorem Cont.app_spec{c d:Cont}{K:Cont→Prop}(hd:d≠ .cells [])(h:c.app d K):∃ e,K e∧e.len=c.len+d.len∧(∀ j,e.get j=if j< c.len then c.get j else d.get (j - c.len))∧∀ n,c.low n→d.low n→e.low n:=by
 unfold Cont.app at h
 split at h
 ·exact⟨_,h,by simp[Cont.len],fun j=>by simp only[Cont.get,z2u,Cont.len];split<;>(rename_i e;first|exact(if_pos e).symm|exact(if_neg e).symm),fun _ _ _=>trivial⟩
 ·exact⟨_,h,by simp[Cont.len],fun j=>by simp only[Cont.get,z2u,Cont.len];split<;>(rename_i e;first|exact(if_pos e).symm|exact(if_neg e).symm),fun _ _ _=>trivial⟩
 ·exact⟨_,h,by simp[Cont.len],fun j=>by simp only[Cont.get,z2u,Cont.len];split<;>(rename_i e;first|exact(if_pos e).symm|exact(if_neg e).symm),fun _ _ _=>trivial⟩
 ·obtain⟨rfl,h⟩:=h
  exact⟨_,h,by simp[Cont.len],fun j=>by simp only[Cont.get,z2u,Cont.len];split<;>(rename_i e;first|exact(if_pos e).symm|exact(if_neg e).symm),fun _ _ _=>trivial⟩
 ·exact⟨_,h,by simp[Cont.len],fun j=>by simp only[Cont.get,z2u,Cont.len];split<;>(rename_i e;first|exact(if_pos e).symm|exact(if_neg e).symm),fun _ _ _=>trivial⟩
 ·refine⟨_,h,by simp[Cont.len],fun j=>by simp only[Cont.get,z2u,Cont.len];split<;>(rename_i e;first|exact(if_pos e).symm|exact(if_neg e).symm),fun n hc hd' x hx=>?_⟩
  rcases List.mem_append.1 hx with hx|hx
  ·exact hc x hx
  ·exact hd' x hx
 ·exact absurd rfl hd
 ·exact h.elim

theorem Cont.rel_app{c d e:Cont}{xs ys:List Value}(hl:e.len=c.len+d.len)(hg:∀ j,j< e.len→e.get j=if j< c.len then c.get j else d.get (j - c.len))(hc:c.rel β I w xs)(hd:d.rel β I w ys):e.rel β I w (xs++ys):=by
 refine⟨by rw[List.length_append,hc.1,hd.1,hl],fun j hj=>?_⟩;rw[hg j hj]
 split
 ·rename_i h
  obtain⟨v,hv,hr⟩:=hc.2 j h;exact⟨v,by rw[List.getElem?_append_left (by rw[hc.1];exact h)];exact hv,hr⟩
 ·rename_i h
  obtain⟨v,hv,hr⟩:=hd.2 (j - c.len) (by omega);exact⟨v,by rw[List.getElem?_append_right (by rw[hc.1];omega),hc.1];exact hv,hr⟩

theorem Cont.app_rel{c d:Cont}{K:Cont→Prop}(h:c.app d K):∃ e,K e∧e.len=c.len+d.len∧(∀ (β:Val) (I:Nat→Prop) (w:World) xs ys,c.rel β I w xs→d.rel β I w ys→e.rel β I w (xs++ys))∧∀ n,c.low n→d.low n→e.low n:=by
 by_cases hd:d= .cells []
 ·subst hd
  have:K c∨∃ l,c= .cells l∧K (.cells (l++[])):=by
   unfold Cont.app at h
   cases c with
   |cells l=>exact .inr ⟨l,rfl,h⟩
   |_=>exact .inl h
  rcases this with hK|⟨l,rfl,hK⟩
  ·exact⟨c,hK,rfl,fun β I w xs ys hc hd=>by
    have:ys=[]:=List.eq_nil_of_length_eq_zero (by rw[hd.1];rfl)
    subst this;simpa using hc,fun _ hc _=>hc⟩
  ·rw[List.append_nil]at hK
   exact⟨_,hK,rfl,fun β I w xs ys hc hd=>by
    have:ys=[]:=List.eq_nil_of_length_eq_zero (by rw[hd.1];rfl)
    subst this;simpa using hc,fun _ hc _=>hc⟩
 ·obtain⟨e,h1,h2,h3,h4⟩:=Cont.app_spec hd h
  exact⟨e,h1,h2,fun β I w xs ys hc hd'=>Cont.rel_app h2 (fun j _=>h3 j) hc hd',h4⟩

def zie(s:Nat):Cont→List SV→(Cont→Prop)→Prop
 |acc,[],K=>K acc
 |acc,v::vs,K=>zav v∧match v.cont with
  |some c=>c.len=s∧acc.app c fun acc'=>zie s acc' vs K
  |none=>False

theorem z7p{s:Nat}:∀ {vs:List SV} {acc:Cont} {K:Cont→Prop},zie s acc vs K→
  ∃ e,K e∧e.len=acc.len+vs.length*s∧(∀ n,acc.low n→(∀ v∈vs,SV.low n v)→e.low n)∧
   ∀ (β:Val) (I:Nat→Prop) (w:World) (as xs:List Value),acc.rel β I w as→xs.length=vs.length→(∀ (j:Nat) v x,vs[j]? =some v→xs[j]? =some x→v.rel β I w x)→e.rel β I w (as++xs.flatMap fun x=>x.cells.toList)∧∀ x∈xs,x.cells.size=s
 | [],acc,K,h=>⟨acc,h,by simp,fun _ hb _=>hb,fun β I w as xs ha hl _=>by
   have:xs=[]:=List.eq_nil_of_length_eq_zero hl
   subst this;exact⟨by simpa using ha,fun x hx=>by cases hx⟩⟩
 | v ::vs,acc,K,h=>by
  obtain⟨hs,h⟩:=h
  split at h
  ·rename_i c hc
   obtain⟨hcs,h⟩:=h;obtain⟨e,h,hl,hr,hb⟩:=Cont.app_rel h;obtain⟨e',hK,hl',hb',hr'⟩:=z7p h;refine⟨e',hK,by simp only[List.length_cons,Nat.add_mul];omega,fun n ha hvs=>?_,fun β I w as xs ha hlx hvx=>?_⟩
   ·refine hb' n (hb n ha ?_) fun u hu=>hvs u (List.mem_cons_of_mem _ hu)
    have hv:=hvs v (List.mem_cons_self ..)
    unfold SV.cont at hc
    split at hc<;>cases hc<;>first|trivial|(intro y hy;obtain rfl:=List.mem_singleton.1 hy;exact hv)|exact hv
   ·cases xs with
    |nil=>simp at hlx
    |cons x xs=>
     have h0:=hvx 0 v x rfl rfl
     obtain⟨h1,_⟩:=SV.cont_cells (n:=0) hc hs h0;obtain⟨h2,h3⟩:=hr' β I w _ xs (hr β I w as _ ha h1) (by simpa using hlx) fun j v' x' hv' hx'=>hvx (j+1) v' x' (by simpa using hv') (by simpa using hx');refine⟨by rw[List.flatMap_cons, ←List.append_assoc];exact h2,fun y hy=>?_⟩
     rcases List.mem_cons.1 hy with rfl|hy
     ·rw[←Array.length_toList,h1.1,hcs]
     ·exact h3 y hy
  ·exact h.elim

theorem zd8:∀ (vs:List Value) (off j:Nat) (cells:Array Value),off+j+vs.length≤cells.size→
  ((vs.zipIdx j).foldl (fun cs (x:Value×Nat)=>cs.setIfInBounds (off+x.2) x.1) cells).toList=cells.toList.take (off+j)++vs++cells.toList.drop (off+j+vs.length)
 |[],off,j,cells,_=>by simp
 |v::vs,off,j,cells,h=>by
  simp only[List.length_cons]at h
  simp only[List.zipIdx_cons,List.foldl_cons]
  rw[zd8 vs off (j+1) _ (by simp;omega)]
  simp only[Array.toList_setIfInBounds,List.length_cons]
  rw[List.take_set,List.drop_set_of_lt (by omega),List.set_eq_take_append_cons_drop,if_pos (by simp;omega)];rw[List.take_take,Nat.min_eq_left (by omega),List.drop_of_length_le (by simp;omega)]
  simp[Nat.add_assoc,Nat.add_comm 1]

def fillG(pl:Nat→Option (Nat×Nat)):(Nat→Cell)→List (Nat×Cont)→Nat→Cell
 |g,[],j=>g j
 |g,(i,d)::ps,j=>fillG pl (fun j=>match pl i with|some (off,sz)=>if off≤j∧j< off+sz then d.get (j - off)else g j|none=>g j) ps j

theorem zer{pl:Nat→Option (Nat×Nat)}:∀ (ps:List (Nat×Cont)) (xs:List Value) (cells:Array Value) (g:Nat→Cell),xs.length=ps.length→(∀ (j:Nat) i d x,ps[j]? =some (i,d)→xs[j]? =some x→d.rel β I w x.cells.toList∧∃ off sz,pl i=some (off,sz)∧d.len=sz∧off+sz≤cells.size)→
  (∀ j,j< cells.size→∃ u,cells[j]? =some u∧(g j).rel β I w u)→
  ∃ r:Array Value,Instr.fill pl cells ((ps.map (·.1)).zip xs)=some r∧r.size=cells.size∧∀ j,j< r.size→∃ u,r[j]? =some u∧(fillG pl g ps j).rel β I w u
 |[],xs,cells,g,hl,_,hg=>⟨cells,by simp[Instr.fill],rfl,hg⟩
 |(i,d)::ps,[],cells,g,hl,_,_=>by simp at hl
 | (i,d)::ps,x::xs,cells,g,hl,hp,hg=>by
  obtain⟨hr,off,sz,hpl,hd,hsz⟩:=hp 0 i d x rfl rfl
  have hxs:x.cells.size=sz:=by rw[←Array.length_toList,hr.1,hd]
  have hf:=zd8 x.cells.toList off 0 cells (by simp[hxs];exact hsz)
  have e0:x.cells.zipIdx.foldl (fun cs (x:Value×Nat)=>cs.setIfInBounds (off+x.2) x.1) cells=(x.cells.toList.zipIdx 0).foldl (fun cs (x:Value×Nat)=>cs.setIfInBounds (off+x.2) x.1) cells:=by
   rw[←Array.foldl_toList,Array.toList_zipIdx]
  rw[←e0]at hf
  generalize hgc:x.cells.zipIdx.foldl (fun cs (x:Value×Nat)=>cs.setIfInBounds (off+x.2) x.1) cells=cells' at hf
  have hxl:x.cells.toList.length=sz:=by simpa using hxs
  have hsz':cells'.size=cells.size:=by
   have:=congrArg List.length hf
   simp[hxs]at this
   omega
  obtain⟨r,h1,h2,h3⟩:=zer ps xs cells' (fun j=>match pl i with|some (off,sz)=>if off≤j∧j< off+sz then d.get (j - off)else g j|none=>g j) (by simpa using hl)
   (fun j i' d' x' h1 h2=>by rw[hsz'];exact hp (j+1) i' d' x' (by simpa using h1) (by simpa using h2)) (fun j hj=>by
    rw[hsz']at hj
    have hA:(cells.toList.take (off+0)).length=off:=by simp;omega
    have hget:cells'[j]? =cells'.toList[j]? :=by simp
    rw[hget,hf,hpl]
    simp only[Nat.add_zero]at hA ⊢
    split
    ·rename_i hin
     obtain⟨u,hu,hru⟩:=hr.2 (j - off) (by omega);refine⟨u,?_,hru⟩;rw[List.append_assoc,List.getElem?_append_right (by omega),hA,List.getElem?_append_left (by omega)];exact hu
    ·rename_i hin
     obtain⟨u,hu,hru⟩:=hg j hj;refine⟨u,?_,hru⟩
     have hu':cells.toList[j]? =some u:=by simpa using hu
     by_cases hlt:j< off
     ·rw[List.append_assoc,List.getElem?_append_left (by omega),List.getElem?_take_of_lt hlt];exact hu'
     ·rw[List.append_assoc,List.getElem?_append_right (by omega),hA,List.getElem?_append_right (by omega),List.getElem?_drop,hxl]
      rw[show off+sz+(j - off - sz)=j by omega];exact hu')
  refine⟨r,?_,by omega,h3⟩
  have h4:¬ (off+x.cells.size> cells.size):=by omega
  simp only[List.map_cons,List.zip_cons_cons,Instr.fill,hpl,hxs,ne_eq,not_true_eq_false,decide_false,Bool.false_or,show ¬ (off+sz> cells.size) by omega,Bool.false_eq_true,if_false]
  rw[hgc];exact h1

def lookP:List (Nat×Cont)→Nat→Option Cont
 |[],_=>none
 |(i,d)::ps,k=>if i=k then some d else lookP ps k

theorem zif{pl:Nat→Option (Nat×Nat)}{k off sz:Nat}(hk:pl k=some (off,sz))(hdis:∀ i,i≠k→∀ o s,pl i=some (o,s)→∀ j,off≤j→j< off+sz→¬ (o≤j∧j< o+s)):
  ∀ (ps:List (Nat×Cont)) (g:Nat→Cell),(ps.map (·.1)).Nodup→∀ j,off≤j→j< off+sz→fillG pl g ps j=match lookP ps k with|some d=>d.get (j - off)|none=>g j
 |[],g,_,j,_,_=>rfl
 | (i,d)::ps,g,hn,j,h1,h2=>by
  simp only[List.map_cons,List.nodup_cons]at hn
  rw[fillG,zif hk hdis ps _ hn.2 j h1 h2]
  by_cases hik:i=k
  ·subst hik
   have hnone:lookP ps i=none:=by
    have:∀ ps:List (Nat×Cont),i∉ps.map (·.1)→lookP ps i=none:=by
     intro ps
     induction ps with
     |nil=>intro _;rfl
     |cons p ps ih=>
      intro h;obtain⟨i',d'⟩:=p
      simp only[List.map_cons,List.mem_cons,not_or]at h
      simp only[lookP]
      rw[if_neg (Ne.symm h.1)];exact ih h.2
    exact this ps hn.1
   rw[hnone]
   simp only[hk,lookP,if_true]
   rw[if_pos ⟨h1,h2⟩]
  ·simp only[lookP,if_neg hik]
   cases hl:lookP ps k with
   |some d'=>rfl
   | none=>
    simp only
    cases hp:pl i with
    |none=>rfl
    |some q=>
     obtain⟨o,s⟩:=q;exact if_neg (hdis i hik o s hp j h1 h2)

def z86:Nat→List (Nat×Nat×TypeId)→Bool
 |_,[]=>true
 |off,(o,sz,_)::fs=>o==off&&z86 (off+sz) fs

def z9s(z:Cont)(ps:List (Nat×Cont)):Nat→List (Nat×Nat×TypeId)→List Cell
 |_,[]=>[]
 |k,(off,sz,_)::fs=>(match lookP ps k with|some d=>d.list|none=>(z.sub off sz).list)++z9s z ps (k+1) fs

def z7i:List (Nat×Nat×TypeId)→Nat
 |[]=>0
 |(_,sz,_)::fs=>sz+z7i fs

theorem z79:∀ {fs:List (Nat×Nat×TypeId)} {off:Nat},z86 off fs=true→∀ {i o s:Nat} {t:TypeId},fs[i]? =some (o,s,t)→off≤o∧o+s≤off+z7i fs
 |[],_,_,i,o,s,t,h=>by simp at h
 | (o0,s0,t0)::fs,off,hc,i,o,s,t,h=>by
  simp only[z86,Bool.and_eq_true,beq_iff_eq]at hc
  obtain⟨rfl,hc⟩:=hc
  cases i with
  |zero=>simp at h;obtain⟨rfl,rfl,rfl⟩:=h;simp only[z7i];omega
  |succ i=>
   have:=z79 hc (by simpa using h)
   simp only[z7i];omega

theorem zcj:∀ {fs:List (Nat×Nat×TypeId)} {off:Nat},z86 off fs=true→∀ {i k o s:Nat} {t:TypeId} {o' s':Nat} {t':TypeId},i≠k→fs[i]? =some (o,s,t)→fs[k]? =some (o',s',t')→o+s≤o'∨o'+s'≤o
 |[],_,_,i,k,o,s,t,o',s',t',_,h,_=>by simp at h
 | (o0,s0,t0)::fs,off,hc,i,k,o,s,t,o',s',t',hne,h,h'=>by
  simp only[z86,Bool.and_eq_true,beq_iff_eq]at hc
  obtain⟨rfl,hc⟩:=hc
  cases i with
  | zero=>
   cases k with
   |zero=>exact absurd rfl hne
   |succ k=>
    simp at h;obtain⟨rfl,rfl,rfl⟩:=h
    have:=z79 hc (by simpa using h');left;omega
  | succ i=>
   cases k with
   |zero=>
    simp at h';obtain⟨rfl,rfl,rfl⟩:=h'
    have:=z79 hc (by simpa using h);right;omega
   |succ k=>exact zcj (fs:=fs) (i:=i) (k:=k) hc (by omega) (by simpa using h) (by simpa using h')

theorem zaw{z:Cont}{ps:List (Nat×Cont)}(hn:(ps.map (·.1)).Nodup){all:List (Nat×Nat×TypeId)}(hca:z86 0 all=true)(hz:z.len=z7i all)(hps:∀ i d,lookP ps i=some d→∀ o s t,all[i]? =some (o,s,t)→d.len=s):
  ∀ (fs:List (Nat×Nat×TypeId)) (k off:Nat),(∀ i,fs[i]? =all[k+i]?)→z86 off fs=true→off+z7i fs≤z.len→
   (z9s z ps k fs).length=z7i fs∧∀ j,j< z7i fs→(z9s z ps k fs).getD j .nils=fillG (fun i=>(all[i]?).map fun f=>(f.1,f.2.1)) z.get ps (off+j)
 |[],k,off,_,_,_=>⟨rfl,fun j hj=>absurd hj (Nat.not_lt_zero j)⟩
 | (o,sz,t)::fs,k,off,hfs,hc,hle=>by
  have hc':=hc
  simp only[z86,Bool.and_eq_true,beq_iff_eq]at hc
  obtain⟨rfl,hc⟩:=hc
  have hk:all[k]? =some (o,sz,t):=by have:=hfs 0;simpa using this.symm
  simp only[z7i]at hle ⊢
  obtain⟨ih1,ih2⟩:=zaw hn hca hz hps fs (k+1) (o+sz) (fun i=>by have:=hfs (i+1);rw[Nat.add_assoc,Nat.add_comm 1 i];simpa using this) hc (by omega)
  have hlen:(match lookP ps k with|some d=>d.list|none=>(z.sub o sz).list).length=sz:=by
   cases hl:lookP ps k with
   |some d=>simp only[Cont.list_length];exact hps k d hl _ _ _ hk
   |none=>simp only[Cont.list_length,Cont.sub_len];omega
  refine⟨by simp only[z9s,List.length_append,hlen,ih1],fun j hj=>?_⟩
  simp only[z9s]
  rw[z2u,hlen]
  split
  ·rename_i hj'
   rw[zif (k:=k) (off:=o) (sz:=sz) (by simp[hk]) ?_ ps z.get hn (o+j) (by omega) (by omega)]
   ·cases hl:lookP ps k with
    |some d=>
     have hd:=hps k d hl _ _ _ hk
     simp only[Nat.add_sub_cancel_left]
     exact Cont.list_getD d (by omega) _
    |none=>
     simp only
     rw[Cont.list_getD _ (by rw[Cont.sub_len];omega),Cont.sub_get _ hj']
   ·intro i hi o' s' hpl j' h1 h2 h3
    obtain⟨f,hf,he⟩:=Option.map_eq_some_iff.1 hpl;obtain⟨fo,fsz,ft⟩:=f
    simp only[Prod.mk.injEq]at he
    obtain⟨rfl,rfl⟩:=he
    rcases zcj hca hi hf hk with h|h<;>omega
  ·rename_i hj'
   rw[ih2 (j - sz) (by omega)]
   congr 1;omega

def zes:List (Nat×SV)→Option (List (Nat×Cont))
 |[]=>some []
 |(i,v)::ps=>match v.cont,zes ps with
  |some c,some l=>some ((i,c)::l)
  |_,_=>none
def zd9:List SV→Prop
 |[]=>True
 |v::vs=>zav v∧zd9 vs
def zgl(fs:List (Nat×Nat×TypeId)):List (Nat×Cont)→Prop
 |[]=>True
 |(i,d)::ps=>(match fs[i]? with|some (_,sz,_)=>d.len=sz|none=>False)∧zgl fs ps
def setsP:List (Nat×SV)→Cont→Nat→(Cont→Prop)→Prop
 |[],c,_,K=>K c
 |(i,.c x)::ps,c,n,K=>i< n∧x.solid∧c.set i x fun c'=>setsP ps c' n K
 |_,_,_,_=>False

def zet(ty:Nat→Ty)(t:TypeId)(ps:List (Nat×SV))(K:SV→Prop):Prop:=
 match ty t with
 | .arr n e s z=>match ps with
  |[]=>K (.agg z)
  |ps=>if(ps.map (·.1))=List.range n then zie s z.empty (ps.map (·.2)) fun c=>K (.agg c)else s=1∧(ty e).one=true∧setsP ps z n fun c=>K (.agg c)
 | .struct fs m z=>zd9 (ps.map (·.2))∧z86 0 fs=true∧z7i fs=m∧(ps.map (·.1)).Nodup∧match zes ps with
  |some l=>zgl fs l∧K (.agg (.cells (z9s z l 0 fs)))
  |none=>False
 |_=>False

theorem zax:∀ {ps:List (Nat×SV)} {l:List (Nat×Cont)},zes ps=some l→l.map (·.1)=ps.map (·.1)∧l.length=ps.length∧∀ (j i:Nat) d,l[j]? =some (i,d)→∃ v,ps[j]? =some (i,v)∧v.cont=some d
 |[],l,h=>by simp only[zes,Option.some.injEq]at h;subst h;exact⟨rfl,rfl,fun j i d hj=>by simp at hj⟩
 | (i,v)::ps,l,h=>by
  unfold zes at h
  split at h
  ·rename_i c l' hc hl'
   cases h;obtain⟨h1,h2,h3⟩:=zax hl';refine⟨by simp[h1],by simp[h2],fun j i' d hj=>?_⟩
   cases j with
   |zero=>simp at hj;obtain⟨rfl,rfl⟩:=hj;exact⟨v,rfl,hc⟩
   |succ j=>exact h3 j i' d (by simpa using hj)
  ·cases h

theorem z9t:∀ {l:List SV},zd9 l→∀ v∈l,zav v
 |[],_,v,hv=>by cases hv
 |u::l,h,v,hv=>by
  rcases List.mem_cons.1 hv with rfl|hv
  ·exact h.1
  ·exact z9t h.2 v hv

theorem zay{fs:List (Nat×Nat×TypeId)}:∀ {l:List (Nat×Cont)},zgl fs l→∀ (j i:Nat) d,l[j]? =some (i,d)→∃ o s t,fs[i]? =some (o,s,t)∧d.len=s
 |[],_,j,i,d,hj=>by simp at hj
 | (i0,d0)::l,h,j,i,d,hj=>by
  obtain⟨h1,h2⟩:=h
  cases j with
  |zero=>
   simp at hj;obtain⟨rfl,rfl⟩:=hj
   split at h1
   ·rename_i o s t hf;exact⟨o,s,t,hf,h1⟩
   ·exact h1.elim
  |succ j=>exact zay h2 j i d (by simpa using hj)

theorem zaz:∀ {l:List (Nat×Cont)} {i:Nat} {d:Cont},lookP l i=some d→∃ j:Nat,l[j]? =some (i,d)
 |[],i,d,h=>by simp[lookP]at h
 |(i0,d0)::l,i,d,h=>by
  simp only[lookP]at h
  split at h
  ·rename_i e;cases h;subst e;exact⟨0,rfl⟩
  ·obtain⟨j,hj⟩:=zaz h;exact⟨j+1,by simpa using hj⟩

def za8(β:Val)(I:Nat→Prop)(w:World)(ps:List (Nat×SV))(xs:List (Nat×Value)):Prop:=
 xs.length=ps.length∧∀ (j i:Nat) v,ps[j]? =some (i,v)→∃ x,xs[j]? =some (i,x)∧v.rel β I w x

theorem zda{s:Nat}:∀ (vs:List Value) (k:Nat) (cells:Array Value),(∀ v∈vs,v.cells.size=s)→(k+vs.length)*s≤cells.size→
  ∃ r:Array Value,Instr.fill (fun i=>some (i*s,s)) cells ((List.range' k vs.length).zip vs)=some r∧r.toList=cells.toList.take (k*s)++vs.flatMap (fun v=>v.cells.toList)++cells.toList.drop ((k+vs.length)*s)
 |[],k,cells,_,_=>⟨cells,by simp[Instr.fill],by simp⟩
 | v::vs,k,cells,hs,h=>by
  have hv:=hs v (List.mem_cons_self ..)
  simp only[List.length_cons]at h
  have hks:k*s+s≤cells.size:=by
   have:(k+1)*s≤(k+(vs.length+1))*s:=Nat.mul_le_mul_right _ (by omega)
   rw[Nat.add_mul,Nat.one_mul]at this;omega
  have hf:=zd8 v.cells.toList (k*s) 0 cells (by simp[hv];omega)
  have e0:v.cells.zipIdx.foldl (fun cs (x:Value×Nat)=>cs.setIfInBounds (k*s+x.2) x.1) cells=(v.cells.toList.zipIdx 0).foldl (fun cs (x:Value×Nat)=>cs.setIfInBounds (k*s+x.2) x.1) cells:=by
   rw[←Array.foldl_toList,Array.toList_zipIdx]
  rw[←e0]at hf
  generalize hg:v.cells.zipIdx.foldl (fun cs (x:Value×Nat)=>cs.setIfInBounds (k*s+x.2) x.1) cells=cells' at hf
  have hsz:cells'.size=cells.size:=by
   have:=congrArg List.length hf
   simp[hv]at this
   omega
  obtain⟨r,hr,hrl⟩:=zda vs (k+1) cells' (fun u hu=>hs u (List.mem_cons_of_mem _ hu)) (by rw[hsz];rw[show k+1+vs.length=k+(vs.length+1) by omega];exact h);refine⟨r,?_,?_⟩
  ·simp only[List.length_cons,List.range'_succ,List.zip_cons_cons,Instr.fill,hv,ne_eq,not_true_eq_false,decide_false,Bool.false_or,show ¬ (k*s+s> cells.size) by omega,Bool.false_eq_true,if_false]
   rw[hg];exact hr
  ·rw[hrl,hf]
   simp only[Nat.add_zero,Array.length_toList,hv,List.flatMap_cons,List.length_cons]
   have h1:(k+1)*s=k*s+s:=by rw[Nat.add_mul,Nat.one_mul]
   rw[h1]
   have hA:(cells.toList.take (k*s)).length=k*s:=by simp;omega
   have hB:(cells.toList.take (k*s)++v.cells.toList).length=k*s+s:=by simp[hv];omega
   rw[List.take_append_of_le_length (by rw[hB];exact Nat.le_refl _),List.take_of_length_le (by rw[hB];exact Nat.le_refl _),List.append_assoc (cells.toList.take (k*s))]
   congr 1
   have h2:(k+1+vs.length)*s=(k*s+s)+vs.length*s:=by rw[Nat.add_mul,h1]
   have h3:(k+(vs.length+1))*s=(k*s+s)+vs.length*s:=by rw[←h2];congr 1;omega
   rw[List.drop_append,List.drop_of_length_le (by rw[hB];omega),List.nil_append,hB,List.drop_drop,h2,h3]
   congr 1
   omega

theorem zm0{ps:List (Nat×SV)}{xs:List (Nat×Value)}(h:za8 β I w ps xs):xs=(ps.map (·.1)).zip (xs.map (·.2)):=by
 apply List.ext_getElem?;intro j
 by_cases hj:j< ps.length
 ·obtain⟨x,hx,_⟩:=h.2 j (ps[j].1) (ps[j].2) (by simp[hj])
  rw[hx,List.getElem?_zip_eq_some.2];exact⟨by simp[hj],by simp[hx]⟩
 ·rw[List.getElem?_eq_none (by rw[h.1];omega),List.getElem?_eq_none (by simp[h.1];omega)]

theorem zck{g0:Cont}:∀ {ps:List (Nat×SV)} {c:Cont} {m:Nat} {K:Cont→Prop} {xs:List (Nat×Value)} {cells:Array Value},setsP ps c m K→za8 β I w ps xs→(∀ v∈ps.map (·.2),SV.low n v)→c.len=m→c.low n→c.rel β I w cells.toList→
  ∃ c' r,K c'∧c'.low n∧Instr.fill (fun i=>some (i*1,1)) cells xs=some r∧c'.rel β I w r.toList
 |[],c,m,K,xs,cells,h,hp,_,hm,hcl,hr=>by
  have:xs=[]:=List.eq_nil_of_length_eq_zero hp.1
  subst this;exact⟨c,cells,h,hcl,by simp[Instr.fill],hr⟩
 | (i,.c x)::ps,c,m,K,xs,cells,h,hp,hlow,hm,hcl,hr=>by
  obtain⟨hi,hs,h⟩:=h;obtain⟨c',h,hl,hg,hlow',_⟩:=Cont.set_spec (by omega) h
  cases xs with
  |nil=>exact absurd hp.1 (by simp)
  | cons q xs=>
   obtain⟨y,hy,hry⟩:=hp.2 0 i _ rfl
   simp only[List.getElem?_cons_zero,Option.some.injEq]at hy
   subst hy
   have h1:=z66 (Cell.solid_one hs hry)
   have hsz:cells.size=m:=by rw[←hm, ←Array.length_toList,hr.1]
   have hx:x.low n:=hlow (.c x) (by simp)
   obtain⟨c2,r,hK,hl2,hf,hrr⟩:=zck (g0:=g0) (cells:=cells.setIfInBounds i y) h ⟨by have:=hp.1;simpa using this,fun j i' v hj=>by have:=hp.2 (j+1) i' v (by simpa using hj);simpa using this⟩ (fun v hv=>hlow v (by simp only[List.map_cons,List.mem_cons];exact .inr hv)) (by omega) (hlow' n hcl hx) ⟨by simp[hr.1,hl],fun j hj=>by
    rw[hl]at hj;rw[hg]
    simp only[Array.toList_setIfInBounds,List.getElem?_set]
    split
    ·rename_i e;subst e
     rw[if_pos (by rw[hr.1];exact hj)];exact⟨y,rfl,hry⟩
    ·exact hr.2 j hj⟩
   refine⟨c2,r,hK,hl2,?_,hrr⟩
   simp only[Instr.fill,h1]
   have:¬ (i*1+1> cells.size):=by omega
   simp only[List.size_toArray,List.length_cons,List.length_nil,Nat.zero_add,ne_eq,not_true_eq_false,decide_false,Bool.false_or,this,Bool.false_eq_true,if_false]
   have e:(#[y].zipIdx.foldl (fun cs (x:Value×Nat)=>cs.setIfInBounds (i*1+x.2) x.1) cells)=cells.setIfInBounds i y:=by simp
   rw[e];exact hf
 |(_,.agg _)::_,_,_,_,_,_,h,_,_,_,_,_=>h.elim
 |(_,.tup _)::_,_,_,_,_,_,h,_,_,_,_,_=>h.elim

theorem z8z(hT:TyOK P ty){t:TypeId}{ps:List (Nat×SV)}{xs:List (Nat×Value)}{K:SV→Prop}(hp:za8 β I w ps xs)(hlow:∀ v∈ps.map (·.2),SV.low n v)(h:zet ty t ps K):
  ∃ v x,K v∧v.low n∧v.rel β I w x∧∀ w',(Instr.build t xs.toArray).run P w'= .ok x w':=by
 have hzip:=zm0 hp
 unfold zet at h
 split at h
 ·rename_i m e s z ht
  obtain⟨hu,hes,hzl⟩:=hT.arr t m e s z ht;obtain⟨zv,hz1,hz2,hz3⟩:=hT.zero t z (by rw[ht];rfl)
  have hzsz:zv.cells.size=m*s:=by rw[hz2];simp[Cont.vals_length,hzl]
  have hzrel:z.rel β I w zv.cells.toList:=by rw[hz2];exact(Cont.rel_flat hz3).2 rfl
  have fin:∀ c r,K (.agg c)→c.low n→Instr.fill (fun i=>some (i*s,s)) zv.cells xs=some r→c.rel β I w r.toList→∃ v x,K v∧v.low n∧v.rel β I w x∧∀ w',(Instr.build t xs.toArray).run P w'= .ok x w':=by
   intro c r hK hl hf hr;refine⟨_,.agg r,hK,hl,⟨r.toList,by simp,hr⟩,fun w'=>?_⟩
   simp only[Instr.build,Sem.run_bind,zd7 hz1,Result.andThen_ok,run_underlying hu,run_sizeOf' hes,hf,Sem.run_pure]
  split at h
  ·have:xs=[]:=List.eq_nil_of_length_eq_zero (by rw[hp.1];rfl)
   exact fin z zv.cells h (Cont.flat_low hz3) (by rw[this];simp[Instr.fill]) hzrel
  ·rename_i hne
   split at h
   ·rename_i hran
    obtain⟨c,hK,hcl,hcb,hcr⟩:=z7p h;obtain⟨e0,e1,e2⟩:=Cont.empty_spec (β:=β) (I:=I) (w:=w) z
    have hpl:ps.length=m:=by have:=congrArg List.length hran;simpa using this
    obtain⟨hcv,hcs⟩:=hcr β I w [] (xs.map (·.2)) e1 (by simp[hp.1]) (fun j v x hv hx=>by
     simp only[List.getElem?_map]at hv hx
     obtain⟨q,hq,rfl⟩:=Option.map_eq_some_iff.1 hv;obtain⟨y,hy,hr⟩:=hp.2 j q.1 q.2 (by rw[hq]);rw[hy]at hx
     simp only[Option.map_some,Option.some.injEq]at hx
     subst hx;exact hr)
    obtain⟨r,hr,hrl⟩:=zda (s:=s) (xs.map (·.2)) 0 zv.cells hcs (by rw[hzsz];simp[hp.1,hpl]);refine fin c r hK (hcb n (e2 n) hlow) ?_ ?_
    ·rw[hzip,hran,List.range_eq_range',show m=(xs.map (·.2)).length by simp[hp.1,hpl]];exact hr
    ·rw[hrl]
     simp only[Nat.zero_mul,List.take_zero,List.nil_append,Nat.zero_add]
     rw[List.drop_of_length_le (by rw[Array.length_toList,hzsz];simp[hp.1,hpl]),List.append_nil]
     simpa using hcv
   ·obtain⟨rfl,hone,h⟩:=h
    obtain⟨c',r,hK,hl,hf,hr⟩:=zck (g0:=z) h hp hlow (by omega) (Cont.flat_low hz3) hzrel;exact fin c' r hK hl hf hr
 ·rename_i fs m z ht
  obtain⟨hsnd,hcon,htot,hnd,h⟩:=h;obtain⟨⟨fields,hu,hm,hs⟩,hzl⟩:=hT.struct t fs m z ht;obtain⟨zv,hz1,hz2,hz3⟩:=hT.zero t z (by rw[ht];rfl)
  have hzsz:zv.cells.size=m:=by rw[hz2];simp[Cont.vals_length,hzl]
  have hzrel:z.rel β I w zv.cells.toList:=by rw[hz2];exact(Cont.rel_flat hz3).2 rfl
  split at h
  ·rename_i l hl
   obtain⟨hsz,hK⟩:=h;obtain⟨hl1,hl2,hl3⟩:=zax hl
   have hsm:=zay hsz
   have hfit:∀ {i o s:Nat} {te:TypeId},fs[i]? =some (o,s,te)→o+s≤zv.cells.size:=fun hf=>by
    have:=z79 hcon hf;omega
   obtain⟨r,hr1,hr2,hr3⟩:=zer (pl:=fun i=>(fs[i]?).map fun f=>(f.1,f.2.1)) (β:=β) (I:=I) (w:=w) l (xs.map (·.2)) zv.cells z.get (by simp[hp.1,hl2]) (fun j i d x hj hx=>by
    obtain⟨v,hv,hc⟩:=hl3 j i d hj;obtain⟨y,hy,hry⟩:=hp.2 j i v hv
    simp only[List.getElem?_map,hy,Option.map_some,Option.some.injEq]at hx
    subst hx;obtain⟨o,s,te,hf,hd⟩:=hsm j i d hj
    exact⟨(SV.cont_cells (n:=0) hc (z9t hsnd v (List.mem_map_of_mem (f:=(·.2)) (List.mem_of_getElem? hv))) hry).1,o,s,by simp[hf],hd,hfit hf⟩)
    (fun j hj=>by
     obtain⟨u,hu,hru⟩:=hzrel.2 j (by omega)
     exact⟨u,by simpa using hu,hru⟩)
   have hnd':(l.map (·.1)).Nodup:=by rw[hl1];exact hnd
   obtain⟨p1,p2⟩:=zaw (z:=z) hnd' hcon (by omega) (fun i d hi o s te hf=>by
    obtain⟨j,hj⟩:=zaz hi;obtain⟨o',s',t',hf',hd⟩:=hsm j i d hj
    rw[hf]at hf';cases hf';exact hd) fs 0 0 (fun i=>by simp) hcon (by omega)
   refine⟨_,.agg r,hK,?_,⟨r.toList,by simp,?_,?_⟩,fun w'=>?_⟩
   ·have hlp:∀ i d,lookP l i=some d→d.low n:=fun i d hi=>by
     obtain⟨j,hj⟩:=zaz hi;obtain⟨v,hv,hc⟩:=hl3 j i d hj
     have hv':=hlow v (List.mem_map_of_mem (f:=(·.2)) (List.mem_of_getElem? hv))
     unfold SV.cont at hc
     split at hc<;>cases hc<;>first|trivial|(intro y hy;obtain rfl:=List.mem_singleton.1 hy;exact hv')|exact hv'
    have:∀ (fs:List (Nat×Nat×TypeId)) k,∀ x∈z9s z l k fs,Cell.low n x:=by
     intro fs
     induction fs with
     |nil=>intro k x hx;cases hx
     | cons f fs ih=>
      obtain⟨o,s,te⟩:=f;intro k x hx
      simp only[z9s,List.mem_append]at hx
      rcases hx with hx|hx
      ·cases hlk:lookP l k with
       |some d=>rw[hlk]at hx;exact Cont.list_low (hlp k d hlk) x hx
       |none=>rw[hlk]at hx;exact Cont.list_low (Cont.sub_low (Cont.flat_low hz3) _ _) x hx
      ·exact ih (k+1) x hx
    exact this fs 0
   ·simp only[Array.length_toList,Cont.len,p1,hr2,hzsz,htot]
   ·intro j hj
    simp only[Cont.len,p1]at hj
    obtain⟨u,hu,hru⟩:=hr3 j (by omega);refine⟨u,by simpa using hu,?_⟩
    have e:=p2 j hj
    simp only[Cont.get]
    rw[e,Nat.zero_add];exact hru
   ·have hpl:∀ (fl:List Field) (w':World),(∀ f∈fl,∃ s,(P.info? f.type).map (·.size)=some s)→∃ places:List (Nat×Nat),(fl.mapM fun f=>(do pure (f.offset, ←sizeOf f.type):Sem (Nat×Nat))).run P w'= .ok places w'∧∀ j:Nat,places[j]? =(fl[j]?).bind fun f=>((P.info? f.type).map (·.size)).map fun s=>(f.offset,s):=by
     intro fl w'
     induction fl with
     |nil=>intro _;exact⟨[],rfl,fun j=>by simp⟩
     | cons f fl ih=>
      intro hall;obtain⟨s,hs⟩:=hall f (List.mem_cons_self ..);obtain⟨pl,h1,h2⟩:=ih fun g hg=>hall g (List.mem_cons_of_mem _ hg);refine⟨(f.offset,s)::pl,?_,fun j=>?_⟩
      ·rw[List.mapM_cons]
       simp only[Sem.run_bind,run_sizeOf' hs,Result.andThen_ok,Sem.run_pure,h1]
      ·cases j with
       |zero=>simp only[List.getElem?_cons_zero,Option.bind_some];rw[hs];rfl
       |succ j=>simpa using h2 j
    have hfsz:∀ (j:Nat) f,fields.toList[j]? =some f→∃ q,fs[j]? =some q∧f.offset=q.1∧(P.info? f.type).map (·.size)=some q.2.1:=fun j f hf=>by
     have h1:(fields.toList.map fun f=>(f.offset,f.type))[j]? =some (f.offset,f.type):=by rw[List.getElem?_map,hf];rfl
     rw[hm,List.getElem?_map]at h1;obtain⟨q,hq,he⟩:=Option.map_eq_some_iff.1 h1
     simp only[Prod.mk.injEq]at he
     exact⟨q,hq,he.1.symm,by rw[←he.2];exact hs q (List.mem_of_getElem? hq)⟩
    obtain⟨places,h1,h2⟩:=hpl fields.toList w' (fun f hf=>by
     obtain⟨j,hj,rfl⟩:=List.mem_iff_getElem.1 hf;obtain⟨q,_,_,h⟩:=hfsz j _ (by rw[List.getElem?_eq_getElem hj])
     exact⟨_,h⟩)
    have hlen:fields.toList.length=fs.length:=by have:=congrArg List.length hm;simpa using this
    have hpls:(fun(i:Nat)=>places.toArray[i]?)=fun(i:Nat)=>(fs[i]?).map fun f=>(f.1,f.2.1):=by
     funext j
     rw[List.getElem?_toArray,h2 j]
     by_cases hj:j< fs.length
     ·have hj':j< fields.toList.length:=by omega
      rw[List.getElem?_eq_getElem hj'];obtain⟨q,hq,e1,e2⟩:=hfsz j _ (List.getElem?_eq_getElem hj');rw[hq]
      simp only[Option.bind_some,Option.map_some]
      rw[e2,e1];rfl
     ·rw[List.getElem?_eq_none (by omega),List.getElem?_eq_none (by omega)];rfl
    have hfm:(fields.mapM fun f=>(do pure (f.offset, ←sizeOf f.type):Sem (Nat×Nat))).run P w'= .ok places.toArray w':=by
     rw[Array.mapM_eq_mapM_toList]
     simp only[Sem.run_map,h1]
     rfl
    have hfill:Instr.fill (fun(i:Nat)=>places.toArray[i]?) zv.cells xs=some r:=by
     rw[hpls,hzip, ←hl1];exact hr1
    simp only[Instr.build,Sem.run_bind,zd7 hz1,Result.andThen_ok,run_underlying hu,hfm,hfill,Sem.run_pure]
  ·exact h.elim
 ·exact h.elim
end
end Go.Ab

namespace Go.Ab
set_option linter.all false
open Go.RowKit
section
variable {P:Program} {C:CC} {β:Val} {n:Nat} {H:Heap} {I:Nat→Prop} {w:World} {ty:Nat→Ty} {a:Act}

def zig(t:Ty):Option Cont:=(zeroC t).map Cont.empty

def z7q(ty:Nat→Ty)(t:TypeId)(len:Nat)(vs:List SV)(H:Heap)(n:Nat)(K:SV→Heap→Nat→Prop):Prop:=
 match ty t with
 | .slice e s _=>match zig (ty e) with
  |some c=>len=vs.length∧len*s≤16777216∧zie s c vs fun c'=>K (.c (.slice n 0 len len)) ((n,.own e c' (len*s))::H) (n+1)
  |none=>False
 |_=>False

theorem zb0(hT:TyOK P ty)(hH:HeapOK C β n H I w){o:Oper}{t:TypeId}{len:Nat}{parts:Array (Nat×Operand)}(ho:o.op= .buildSlice t len parts)(hp:parts.toList.map (·.1)=List.range len)
  {vs:List SV} (hv:vs.length=parts.toList.length∧∀ (j:Nat) x v,(parts.toList.map (·.2))[j]? =some x→vs[j]? =some v→v.rel β I w (a.eval x)) (hvb:∀ v∈vs,SV.low n v) {K:SV→Heap→Nat→Prop} (h:z7q ty t len vs H n K):Runs P a o w (z6h C β n I w K):=by
 unfold z7q at h
 split at h
 ·rename_i e s by_ ht
  obtain⟨hu,hes,z,hz,hzs,hs0⟩:=hT.slice t e s by_ ht;obtain⟨i,hi,hz0,hz1,hz2⟩:=info_parts hz
  split at h
  ·rename_i c hc
   obtain⟨hl,h24,h⟩:=h;obtain⟨c',hK,hcl,hcb,hcr⟩:=z7p h;obtain⟨zc,_,rfl⟩:=Option.map_eq_some_iff.1 hc;obtain⟨e0,e1,e2⟩:=Cont.empty_spec (β:=β) (I:=I) (w:=w) zc;rw[e0,Nat.zero_add]at hcl
   obtain⟨hcv,hcs⟩:=hcr β I w [] ((parts.toList.map (·.2)).map a.eval) e1 (by simp[hv.1]) (fun j v x hv' hx=>by
    rw[List.getElem?_map]at hx;obtain⟨y,hy,rfl⟩:=Option.map_eq_some_iff.1 hx
    exact hv.2 j y v hy hv')
   rw[List.nil_append]at hcv
   have hpl:parts.toList.length=len:=by have:=congrArg List.length hp;simpa using this
   obtain⟨r,hr,hrl⟩:=zda (s:=s) ((parts.toList.map (·.2)).map a.eval) 0 ((Array.range (len*s)).map (z.cells[· %z.cells.size]!)) hcs (by simp;rw[←Array.length_toList,hpl];exact Nat.le_refl _)
   have hrl':r.toList=((parts.toList.map (·.2)).map a.eval).flatMap fun v=>v.cells.toList:=by
    rw[hrl]
    simp only[Nat.zero_mul,List.take_zero,List.nil_append,List.length_map,Nat.zero_add]
    rw[List.drop_of_length_le (by simp;rw[←Array.length_toList,hpl];exact Nat.le_refl _),List.append_nil]
   have hrs:r.size=c'.len:=by rw[←Array.length_toList,hrl',hcv.1]
   have hparts:(parts.map fun(x:Nat×Operand)=>(x.1,a.eval x.2)).toList=(List.range' 0 ((parts.toList.map (·.2)).map a.eval).length).zip ((parts.toList.map (·.2)).map a.eval):=by
    rw[List.length_map,List.length_map, ←List.range_eq_range',hpl, ←hp,Array.toList_map,List.map_map, ←List.zip_map']
    rfl
   refine Runs.of_value (v:=.slice (some ⟨w.heap.size,0,none⟩) len len) (w':=w.alloc (.cells r e)) ?_ ?_
   ·have h24':¬ (len*s> 2 ^ 24):=by simpa using h24
    have hfill:Instr.fill (fun i=>some (i*s,s)) ((Array.range (len*s)).map (z.cells[· %z.cells.size]!)) (parts.map fun(x:Nat×Operand)=>(x.1,a.eval x.2)).toList=some r:=by
     rw[hparts];exact hr
    simp only[execOp,ho,Instr.buildSlice,Sem.run_bind,run_underlying hu,Result.andThen_ok,run_sizeOf' hes,if_neg h24']
    by_cases h0:len*s=0
    ·have hc0:(Array.range (len*s)).map (fun x=>(#[]:Array Value)[x%(#[]:Array Value).size]!)=(Array.range (len*s)).map (z.cells[· %z.cells.size]!):=by rw[h0];simp
     simp only[if_pos h0,Sem.run_bind,Sem.run_pure,Result.andThen_ok,hc0,hfill]
     rfl
    ·simp only[if_neg h0,Sem.run_bind,zeroValue,typeInfo,run_program,hi,hz0,Sem.run_pure,Result.andThen_ok,hfill]
     rfl
   ·have hcl':c'.len=len*s:=by rw[hcl,hl]
    rw[←hcl', ←hrs]at hK;refine z52 hH hK (by rw[List.take_of_length_le (by simp;omega),hrl'];exact hcv) (hcb n (e2 n) hvb) (Nat.le_of_eq hrs.symm) ⟨Nat.le_refl _,0,by simp[z5m],.inl rfl⟩ (Nat.lt_succ_self n)
  ·exact h.elim
 ·exact h.elim

def makeS(ty:Nat→Ty)(t:TypeId)(l c:Int)(H:Heap)(n:Nat)(K:SV→Heap→Nat→Prop):Prop:=
 match ty t with
 | .slice e s by_=>match zeroC (ty e) with
  |some z=>0≤l∧l≤c∧(by_:Int)*c≤281474976710656∧c≤9223372036854775807∧K (.c (.slice n 0 l.toNat c.toNat)) ((n,.own e (z.times l.toNat) (c.toNat*s))::H) (n+1)
  |none=>False
 |_=>False

theorem z9u{α:Type}{x:List α}{d:α}(hx:0< x.length):∀ (m j:Nat),j< m*x.length→((List.replicate m x).flatten).getD j d=x.getD (j%x.length) d
 |0,j,h=>by simp at h
 | m+1,j,h=>by
  rw[List.replicate_succ,List.flatten_cons,z2u]
  split
  ·rename_i hj;rw[Nat.mod_eq_of_lt hj]
  ·rename_i hj
   rw[Nat.add_mul,Nat.one_mul]at h;rw[z9u hx m _ (by omega)];rw[Nat.mod_eq_sub_mod (a:=j) (b:=x.length) (by omega)]
theorem zgm{α:Type}(x:List α)(m:Nat):((List.replicate m x).flatten).length=m*x.length:=by simp[List.length_flatten,List.map_replicate,List.sum_replicate_nat]
theorem zdb{α:Type}(l:List α)(m:Nat):z9p l m=(List.replicate m l).flatten:=by
 unfold z9p
 split
 ·rename_i x
  induction m with
  |zero=>rfl
  |succ m ih=>rw[List.replicate_succ,List.replicate_succ,List.flatten_cons, ←ih];rfl
 ·rfl
theorem Cont.times_spec(z:Cont)(m:Nat):(z.times m).len=m*z.len∧∀ j,j< m*z.len→(z.times m).get j=z.get (j%z.len):=by
 have h0:∀ {j:Nat},j< m*z.len→0< z.len:=fun h=>Nat.pos_of_ne_zero fun e=>by simp[e]at h
 cases z<;>refine⟨by simp only[Cont.times,zdb,Cont.len,zgm],fun j hj=>?_⟩<;>
  simp only[Cont.times,zdb,Cont.get,Cont.len]at hj ⊢ <;>rw[z9u (h0 hj) m j hj]
theorem Cont.times_low{z:Cont}(h:z.low n)(m:Nat):(z.times m).low n:=by
 cases z with
 |cells l=>
  intro x hx
  simp only[zdb]at hx
  obtain⟨y,hy,hx⟩:=List.mem_flatten.1 hx;rw[List.eq_of_mem_replicate hy]at hx;exact h x hx
 |_=>trivial

theorem zm1(hT:TyOK P ty)(hH:HeapOK C β n H I w){t:TypeId}{kl kc:IntKind}{l c:Int}{K:SV→Heap→Nat→Prop}(h:makeS ty t l c H n K):
  ∃ v w',(Instr.makeSlice t (.int kl l) (.int kc c)).run P w= .ok v w'∧z6h C β n I w K v w':=by
 unfold makeS at h
 split at h
 ·rename_i e s by_ ht
  obtain⟨hu,hes,z0,hz,hzs,hs0⟩:=hT.slice t e s by_ ht;obtain⟨i,hi,hz0,hz1,hz2⟩:=info_parts hz
  split at h
  ·rename_i z hzc
   obtain⟨h0,h1,h2,h3,hK⟩:=h;obtain⟨v,hv,hcv,hf⟩:=hT.zero e z hzc
   have hvz:v=z0:=by
    rw[hi]at hv;simp only[Option.bind_some]at hv;rw[hz0]at hv;exact(Option.some.inj hv).symm
   subst hvz
   have hzl:z.len=s:=by rw[←hzs,hcv];simp[Cont.vals_length]
   have hr:=run_make (P:=P) w t e i v hu hi hz0 kl kc l c h0 h1 (by rw[hz2];exact h2) h3
   refine⟨_,_,hr,?_⟩
   have hsize:(madeCells v.cells (c.toNat*i.size)).size=c.toNat*s:=by rw[size_madeCells,hz1]
   rw[←hsize]at hK;obtain⟨t1,t2⟩:=Cont.times_spec z l.toNat
   have hle:l.toNat*s≤c.toNat*s:=Nat.mul_le_mul_right _ (by omega)
   refine z52 hH hK ⟨?_,fun j hj=>?_⟩ (Cont.times_low (Cont.flat_low hf) _) (by rw[hsize,t1,hzl];exact hle) ⟨by omega,0,by simp[z5m],.inl rfl⟩ (Nat.lt_succ_self n)
   ·rw[List.length_take,Array.length_toList,hsize,t1,hzl];omega
   ·have hj':=hj
    rw[t1]at hj';rw[t2 j hj',hzl];rw[hzl]at hj'
    have hlt:j%s< z.len:=by rw[hzl];exact Nat.mod_lt _ hs0
    refine⟨(z.get (j%s)).val,?_,Cell.rel_val (Cont.get_flat hf hlt)⟩;rw[List.getElem?_take_of_lt hj]
    simp only[madeCells,Array.toList_map,List.getElem?_map]
    rw[List.getElem?_eq_getElem (by simp[hz1];omega)]
    simp only[Array.getElem_toList,Array.getElem_range,Option.map_some,hcv,List.size_toArray,Cont.vals_length,hzl]
    congr 1
    have:=Cont.vals_get hlt
    simp[this]
  ·exact h.elim
 ·exact h.elim

theorem run_append_room'{t u e ty':TypeId}{i:TypeInfo}{d:TypeDesc}(ht:P.underlying t=some (.slice e))(hu:P.underlying u=some d)(hd:∀ k,d≠ .int k)(hi:P.info? e=some i){g sLen sCap:Nat}{cur:Array Value}(hg:w.heap[g]? =some (.cells cur e (0,0)))
  {m:Nat} {news:List Value} {x:Value} (hx:Src P i.size m news x w) (h1:∀ v∈news,v.oneCell'=true) (hroom:sLen+m≤sCap) (hfit:sLen*i.size+news.length≤cur.size):
  (Builtin.append_ #[t,u] ty' #[.slice (some ⟨g,0,none⟩) sLen sCap,x]).run P w=
   .ok (.slice (some ⟨g,0,none⟩) (sLen+m) sCap) (w.setRow g (cur.toList.take (sLen*i.size)++news++cur.toList.drop (sLen*i.size+news.length)).toArray):=by
 have hst:=run_storeCells_at P g (sLen*i.size) e news 0 cur w hg (by simpa using hfit) h1
 simp only[Nat.add_zero]at hst
 have ha:(⟨g,0,none⟩:Addr).add (sLen*i.size)=⟨g,sLen*i.size,none⟩:=by rw[z3m,Nat.zero_add]
 simp[Builtin.append_,run_underlying ht,run_underlying hu,sizeOf,typeInfo,hi,hx.len,hroom,hx.first,ha,hst]

theorem run_append_none'{t u e ty':TypeId}{i:TypeInfo}{d:TypeDesc}{ad:Option Addr}(ht:P.underlying t=some (.slice e))(hu:P.underlying u=some d)(hd:∀ k,d≠ .int k)(hi:P.info? e=some i)
  {news:List Value} {x:Value} (hx:Src P i.size 0 news x w):
  (Builtin.append_ #[t,u] ty' #[.slice ad 0 0,x]).run P w= .ok (.slice ad 0 0) w:=by
 have hn:news=[]:=List.eq_nil_of_length_eq_zero (by rw[hx.size];simp)
 subst hn
 cases ad<;>simp[Builtin.append_,run_underlying ht,run_underlying hu,sizeOf,typeInfo,hi,hx.len,hx.first,storeCells]

theorem run_append_grow'{t u e ty':TypeId}{i:TypeInfo}{d:TypeDesc}{z:Value}(ht:P.underlying t=some (.slice e))(hu:P.underlying u=some d)(hd:∀ k,d≠ .int k)(hi:P.info? e=some i)(hz:i.zero=some z)
  {base:Option Addr} {sLen sCap:Nat} {olds:List Value} (ho:(Builtin.firstCells i.size sLen (.slice base sLen sCap)).run P w.drew= .ok olds.toArray w.drew)
  {m:Nat} {news:List Value} {x:Value} (hx:Src P i.size m news x w) (hx1:Src P i.size m news x w.drew) (hg:sCap< sLen+m) (h63:sLen+m≤9223372036854775807) (hb:(sLen+m)*i.bytes≤140737488355328):
  (Builtin.append_ #[t,u] ty' #[.slice base sLen sCap,x]).run P w=
   .ok (.slice (some ⟨w.heap.size,0,none⟩) (sLen+m) (grownCap w (sLen+m) sCap e))
    (w.drew.alloc (.cells (olds.toArray++news.toArray++Builtin.zeroCells z.cells (grownCap w (sLen+m) sCap e - (sLen+m))) e)):=by
 have hn:¬ (sLen+m≤sCap):=by omega
 have h63':¬ (9223372036854775807< ((sLen:Int)+(m:Int))):=by omega
 have hfit:=growslice_fits hg hb
 have h48':¬ (281474976710656< Builtin.nextslicecap (sLen+m) sCap*i.bytes):=by omega
 simp[Builtin.append_,run_underlying ht,run_underlying hu,sizeOf,typeInfo,zeroValue,hi,hz,hx.len,hn,h63',h48',Question.forced,ho,hx1.first,newRow,grownCap]
 congr 2
 apply Array.ext'
 simp[List.append_assoc]

def zgn (ty:Nat→Ty) (t u:TypeId) (sv xv:SV) (H:Heap) (n:Nat) (K:SV→Heap→Nat→Prop):Prop:=
 match ty t with
 | .slice e s by_=>(match ty u with| .slice _ _ _=>True| .str=>True|_=>False)∧
  match sv with
  | .c .nils=>match zig (ty e) with
   |some c0=>srcS H s xv fun m d=>(m*by_≤140737488355328∧m≤9223372036854775807∧d.solid)∧c0.app d fun c'=>∀ cap',m≤cap'→K (.c (.slice n 0 m cap')) ((n,.own e c' (cap'*s))::H) (n+1)
   |none=>False
  | .c (.raw (.slice ad 0 0))=>match zig (ty e) with
   |some c0=>srcS H s xv fun m d=>(m*by_≤140737488355328∧m≤9223372036854775807∧d.solid)∧c0.app d fun c'=>(m=0→K (.c (.raw (.slice ad 0 0))) H n)∧(0< m→∀ cap',m≤cap'→K (.c (.slice n 0 m cap')) ((n,.own e c' (cap'*s))::H) (n+1))
   |none=>False
  | .c (.slice id off len cap)=>match H.get id with
   |some (.own e' c capc)=>e'=e∧off=0∧c.len=len*s∧capc=cap*s∧
    srcS H s xv fun m d=>((len+m)*by_≤140737488355328∧len+m≤9223372036854775807∧d.solid)∧c.app d fun c'=>∀ cap',len+m≤cap'→K (.c (.slice n 0 (len+m) cap')) ((n,.own e c' (cap'*s))::H.del id) (n+1)
   |_=>False
  |_=>False
 |_=>False

theorem z5e(hH:HeapOK C β n H I w){H':Heap}(hs:∀ id o,H'.get id=some o→H.get id=some o){t u e ty':TypeId}{i:TypeInfo}{d:TypeDesc}{z:Value}(ht:P.underlying t=some (.slice e))(hu:P.underlying u=some d)(hd:∀ k,d≠ .int k)(hi:P.info? e=some i)(hz:i.zero=some z)(hzs:z.cells.size=i.size)
  {base:Option Addr} {len cap m:Nat} {olds news:List Value} {x:Value} {c':Cont} (ho:(Builtin.firstCells i.size len (.slice base len cap)).run P w.drew= .ok olds.toArray w.drew) (hol:olds.length=len*i.size) (hx:Src P i.size m news x w) (hx1:Src P i.size m news x w.drew)
  (hc':c'.len=(len+m)*i.size) (hr:c'.rel β I w (olds++news)) (hb:c'.low n) (hg:cap< len+m) (h63:len+m≤9223372036854775807) (hbytes:(len+m)*i.bytes≤140737488355328) {K:SV→Heap→Nat→Prop}
  (hK:∀ cap',len+m≤cap'→K (.c (.slice n 0 (len+m) cap')) ((n,.own e c' (cap'*i.size))::H') (n+1)):
  ∃ v w',(Builtin.append_ #[t,u] ty' #[.slice base len cap,x]).run P w= .ok v w'∧After C β n I w K v w':=by
 refine⟨_,_,run_append_grow' (P:=P) (w:=w) (ty':=ty') ht hu hd hi hz ho hx hx1 hg h63 hbytes,?_⟩
 have hge:=grownCap_ge w (len+m) cap e
 have hsize:(olds.toArray++news.toArray++Builtin.zeroCells z.cells (grownCap w (len+m) cap e - (len+m))).size=grownCap w (len+m) cap e*i.size:=by
  simp only[Array.size_append,List.size_toArray,size_zeroCells,hzs,hol,hx.size]
  rw[←Nat.add_mul, ←Nat.add_mul];congr 1;omega
 have hk:=hK (grownCap w (len+m) cap e) hge
 rw[←hsize]at hk
 have hsame:Same w w.drew:=(Below.refl _ w).drew
 have hH':HeapOK C β n H' I w.drew:=(hH.later hsame).sub hs
 have hA:=z52 (K:=K) (x:=.slice (some ⟨w.drew.heap.size,0,none⟩) (len+m) (grownCap w (len+m) cap e)) hH' hk ?_ hb ?_ ⟨hge,0,by simp[z5m],.inl rfl⟩ (Nat.lt_succ_self n)
 ·obtain⟨_,sv,H2,n2,β2,I2,a1,a2,a3,a4,a5,a6,a7⟩:=hA
  exact⟨sv,H2,n2,β2,I2,a1,a2,a3,a4,a5,(hH.ext hsame).trans a6,a7⟩
 ·refine Cont.rel_mono (n:=n) (fun _ _=>rfl) (hH.ext hsame) hb ?_
  simp only[Array.toList_append]
  rw[←hr.1];rw[List.take_append_of_le_length (by simp),List.take_of_length_le (by simp)];exact hr
 ·rw[hsize,hc'];exact Nat.mul_le_mul_right _ hge

theorem TyOK.arg_desc(hT:TyOK P ty){u:TypeId}(h:(match ty u with| .slice _ _ _=>True| .str=>True|_=>False)):∃ d,P.underlying u=some d∧∀ k,d≠ .int k:=by
 split at h
 ·rename_i hu;exact⟨_,(hT.slice _ _ _ _ hu).1,by simp⟩
 ·rename_i hu;exact⟨_,hT.str _ hu,by simp⟩
 ·exact h.elim

theorem zgo (hT:TyOK P ty) (hH:HeapOK C β n H I w) {t u ty':TypeId} {sv xv:SV} {s x:Value} (hs:sv.rel β I w s) (hx:xv.rel β I w x) {K:SV→Heap→Nat→Prop} (h:zgn ty t u sv xv H n K):
  ∃ v w',(Builtin.append_ #[t,u] ty' #[s,x]).run P w= .ok v w'∧After C β n I w K v w':=by
 have hdrew:Same w w.drew:=(Below.refl _ w).drew
 unfold zgn at h
 split at h
 ·rename_i e s by_ ht
  obtain⟨hu,h⟩:=h;obtain⟨d,hd,hdi⟩:=hT.arg_desc hu;obtain⟨hut,hes,z,hz,hzs,hs0⟩:=hT.slice t e s by_ ht;obtain⟨i,hi,hz0,rfl,rfl⟩:=info_parts hz
  split at h
  ·have hs':=(SV.rel_flat (x:=.c .nils) rfl).1 hs
   subst hs'
   split at h
   ·rename_i c0 hc0
    obtain⟨zc,_,rfl⟩:=Option.map_eq_some_iff.1 hc0;obtain⟨e0,e1,e2⟩:=Cont.empty_spec (β:=β) (I:=I) (w:=w) zc;obtain⟨m,dc,h,hl,hb,news,hnr,hsrc⟩:=zau (P:=P) hH hx h;obtain⟨⟨h1,h2,h3⟩,h⟩:=h;obtain⟨c',hK,hcl,hcr,hcb⟩:=Cont.app_rel h
    have hr:=hcr β I w [] news e1 hnr
    rw[e0,Nat.zero_add]at hcl
    have hsw:=hsrc w (Below.refl _ _)
    by_cases hm:m=0
    ·subst hm
     refine⟨_,_,run_append_none' hut hd hdi hi hsw,.c (.slice n 0 0 0),_,n+1,upd β n none,I,hK 0 (Nat.le_refl _),⟨Nat.le_refl _,0,by simp[place,z2q],.inl rfl⟩,Nat.lt_succ_self n,Nat.le_succ _,z54,Ext.refl _ _,?_⟩;rw[Nat.zero_mul];exact hH.pushNil (by omega) (hcb n (e2 n) hb)
    ·have:=z5e (P:=P) (ty':=ty') hH (H':=H) (fun _ _ h=>h) hut hd hdi hi hz0 hzs (base:=none) (len:=0) (cap:=0) (olds:=[]) rfl (by simp) hsw (hsrc _ hdrew) (by simpa using hcl.trans hl) hr (hcb n (e2 n) hb) (by omega) (by omega) (by simpa using h1) (K:=K) (by simpa using hK)
     exact this
   ·exact h.elim
  ·rename_i ad
   have hs':=(SV.rel_flat (x:=.c (.raw (.slice ad 0 0))) rfl).1 hs
   subst hs'
   split at h
   ·rename_i c0 hc0
    obtain⟨zc,_,rfl⟩:=Option.map_eq_some_iff.1 hc0;obtain⟨e0,e1,e2⟩:=Cont.empty_spec (β:=β) (I:=I) (w:=w) zc;obtain⟨m,dc,h,hl,hb,news,hnr,hsrc⟩:=zau (P:=P) hH hx h;obtain⟨⟨h1,h2,h3⟩,h⟩:=h;obtain⟨c',⟨K0,hK⟩,hcl,hcr,hcb⟩:=Cont.app_rel h
    have hr:=hcr β I w [] news e1 hnr
    rw[e0,Nat.zero_add]at hcl
    have hsw:=hsrc w (Below.refl _ _)
    by_cases hm:m=0
    ·subst hm
     exact⟨_,_,run_append_none' hut hd hdi hi hsw,.c (.raw (.slice ad 0 0)),H,n,β,I,K0 rfl,CellD.flat (.raw (.slice ad 0 0)) rfl,trivial,Nat.le_refl _,fun _ _=>rfl,Ext.refl _ _,hH⟩
    ·have:=z5e (P:=P) (ty':=ty') hH (H':=H) (fun _ _ h=>h) hut hd hdi hi hz0 hzs (base:=ad) (len:=0) (cap:=0) (olds:=[]) (by cases ad<;>simp[Builtin.firstCells]<;>rfl) (by simp) hsw (hsrc _ hdrew) (by simpa using hcl.trans hl) hr (hcb n (e2 n) hb) (by omega) (by omega) (by simpa using h1) (K:=K) (by simpa using hK (by omega))
     exact this
   ·exact h.elim
  ·rename_i id off len cap
   split at h
   ·rename_i e' c capc hid
    obtain⟨rfl,rfl,hcl,rfl,h⟩:=h;obtain⟨m,dc,h,hl,hb,news,hnr,hsrc⟩:=zau (P:=P) hH hx h;obtain⟨⟨h1,h2,h3⟩,h⟩:=h;obtain⟨c',hK,hcl',hcr,hcb⟩:=Cont.app_rel h
    have hbc:=hcb n (hH.low id _ hid).2 hb
    have hsw:=hsrc w (Below.refl _ _)
    obtain⟨hlc,off',rfl,hoff⟩:=hs
    have hdel:∀ i o,(H.del id).get i=some o→H.get i=some o:=fun i o ho=>by
     rw[Heap.get_del]at ho
     split at ho
     ·cases ho
     ·exact ho
    have hc'l:c'.len=(len+m)*i.size:=by rw[hcl',hcl,hl,Nat.add_mul]
    by_cases hcap:cap=0
    ·subst hcap
     have hlen:len=0:=by omega
     subst hlen;rw[Nat.zero_mul]at hcl
     have hce:c.rel β I w []:=⟨by simp[hcl],fun j hj=>by omega⟩
     have hr:=hcr β I w [] news hce hnr
     by_cases hm:m=0
     ·subst hm
      refine⟨_,_,run_append_none' hut hd hdi hi hsw,.c (.slice n 0 0 0),_,n+1,upd β n (β id),I,hK 0 (Nat.le_refl _),⟨Nat.le_refl _,off',by simp[place,z2q],.inr rfl⟩,Nat.lt_succ_self n,Nat.le_succ _,z54,Ext.refl _ _,?_⟩;rw[Nat.zero_mul]
      have hH2:HeapOK C β n ((id,.own e' c' 0)::H) I w:=by
       rcases hH.holds id _ hid with⟨b,arr,hb0,hw,hs,hle,hrr⟩|⟨hnone,_,_⟩
       ·refine(hH.write (w':=w) (o':=.own e' c' 0) hid hb0 rfl rfl rfl (Nat.le_refl _) (fun _ _ _=>rfl) (fun _=>.inl ⟨b,arr,rfl,hw,by omega,by omega,⟨by rw[List.length_take];omega,fun j hj=>by omega⟩⟩) hbc).2
       ·refine⟨hH.os,hH.tape,hH.output,hH.size,hH.frame,fun i' o' ho'=>?_,fun i' o' ho'=>?_,fun i' o' ho'=>?_,fun i' j' oi oj hij hi' hj' b hu hv=>?_,fun i' o' ho'=>?_,hH.ilt,hH.i0,hH.base⟩
        ·rw[Heap.get_cons]at ho'
         split at ho'
         ·rename_i e;cases ho';subst e;exact .inr ⟨hnone,by omega,rfl⟩
         ·exact hH.holds i' o' ho'
        ·rw[Heap.get_cons]at ho'
         split at ho'
         ·rename_i e;cases ho';subst e;exact⟨(hH.low _ _ hid).1,hbc⟩
         ·exact hH.low i' o' ho'
        ·rw[Heap.get_cons]at ho'
         split at ho'
         ·rename_i e;subst e;intro b hb;rw[hnone]at hb;cases hb
         ·exact hH.fresh i' o' ho'
        ·rw[Heap.get_cons]at hi' hj'
         split at hi'
         ·rename_i e;subst e;rw[hnone]at hu;cases hu
         ·split at hj'
          ·rename_i e;subst e;rw[hnone]at hv;cases hv
          ·exact hH.sep i' j' oi oj hij hi' hj' b hu hv
        ·rw[Heap.get_cons]at ho'
         split at ho'
         ·rename_i e;subst e;intro b hb;rw[hnone]at hb;cases hb
         ·exact hH.off i' o' ho'
      have hH3:=hH2.alias (id:=id) (o:=.own e' c' 0) (by simp[Heap.get_cons])
      simpa [Heap.del]using hH3
     ·refine z5e (P:=P) (ty':=ty') hH (H':=H.del id) hdel hut hd hdi hi hz0 hzs (olds:=[]) ?_ (by simp) hsw (hsrc _ hdrew) hc'l hr hbc (by omega) h2 h1 hK
      cases place β id off'<;>simp[Builtin.firstCells]<;>rfl
    ·have h0:off'=0:=by rcases hoff with h|h<;>omega
     subst h0
     rcases hH.holds id _ hid with⟨b,arr,hb0,hw,hs,hle,hrr⟩|⟨hnone,h0,hc0⟩
     ·have hpl:place β id 0=some ⟨b,0,none⟩:=by simp[place,hb0]
      rw[hpl]
      have hr:=hcr β I w _ news hrr hnr
      by_cases hroom:len+m≤cap
      ·have hmul:(len+m)*i.size≤cap*i.size:=Nat.mul_le_mul_right _ hroom
       rw[Nat.add_mul]at hmul
       have hr':=run_append_room' (P:=P) (ty':=ty') hut hd hdi hi hw hsw (Cont.rel_oneCell h3 hnr) hroom (by rw[hsw.size,hs];exact hmul)
       refine⟨_,_,hr',?_⟩
       have hA:(arr.toList.take (len*i.size)).length=len*i.size:=by simp;omega
       obtain⟨hE,hH2⟩:=hH.write hid hb0 (w':=w.setRow b (arr.toList.take (len*i.size)++news++arr.toList.drop (len*i.size+news.length)).toArray) (o':=.own e' c' (cap*i.size)) rfl rfl rfl (by simp[World.setRow]) (fun k _ hk=>setRow_other w b k _ hk)
        (fun hE=>.inl ⟨b,_,rfl,setRow_heap w b arr _ _ (0,0) hw,by simp[hsw.size];omega,by rw[hc'l,Nat.add_mul];exact hmul,by
         refine Cont.rel_mono (n:=n) (fun _ _=>rfl) hE hbc ?_;rw[List.take_append_of_le_length (by simp only[List.length_append,hA,hsw.size,hc'l,Nat.add_mul];exact Nat.le_refl _),List.take_of_length_le (by simp only[List.length_append,hA,hsw.size,hc'l,Nat.add_mul];exact Nat.le_refl _), ←hcl]
         exact hr⟩) hbc
       have hH3:=hH2.alias (id:=id) (o:=.own e' c' (cap*i.size)) (by simp[Heap.get_cons])
       refine⟨.c (.slice n 0 (len+m) cap),_,n+1,upd β n (β id),I,hK cap hroom,⟨hroom,0,?_,.inl rfl⟩,Nat.lt_succ_self n,Nat.le_succ _,z54,hE,?_⟩
       ·simp[place,z2q,hb0]
       ·simpa [Heap.del]using hH3
      ·refine z5e (P:=P) (ty':=ty') hH (H':=H.del id) hdel hut hd hdi hi hz0 hzs (olds:=arr.toList.take c.len) ?_ (by simp;omega) hsw (hsrc _ hdrew) hc'l hr hbc (by omega) h2 h1 hK
       have hcells:z37 β I w c b 0:=by
        by_cases hc0:0< c.len
        ·obtain⟨b',hb',h⟩:=hH.cellsAt hid hc0
         rw[hb0]at hb';cases hb';exact h
        ·intro j hj;omega
       have:=run_loadCells_list (P:=P) w.drew ⟨b,0,none⟩ (arr.toList.take c.len) fun j v hj=>by
        rw[z3m,Nat.zero_add]
        have hjc:j< c.len:=by
         rcases Nat.lt_or_ge j c.len with h|h
         ·exact h
         ·rw[List.getElem?_eq_none (by simp;omega)]at hj;cases hj
        rw[List.getElem?_take_of_lt hjc]at hj
        have hd:w.drew.heap[b]? =w.heap[b]? :=rfl
        rw[cell_of_row w.drew b j arr e' (0,0) (by rw[hd];exact hw)]
        simpa using hj
       have hlen:(arr.toList.take c.len).length=len*i.size:=by simp;omega
       rw[hlen]at this
       simpa [Builtin.firstCells]using this
     ·exfalso
      rcases Nat.mul_eq_zero.1 hc0 with h|h<;>omega
   ·exact h.elim
  ·exact h.elim
 ·exact h.elim

def zgp(ty:Nat→Ty)(t:TypeId)(sv xv:SV)(H:Heap)(n:Nat)(K:SV→Heap→Nat→Prop):Prop:=
 match ty t,sv,xv with
 | .slice e s by_,.c .nils,.c (.int _ m)=>match zig (ty e) with
  |some c0=>(0< m∧m*by_≤140737488355328∧m≤9223372036854775807)∧∀ cap',m.toNat≤cap'→K (.c (.slice n 0 m.toNat cap')) ((n,.own e c0 (cap'*s))::H) (n+1)
  |none=>False
 |_,_,_=>False
theorem zgq(hT:TyOK P ty)(hH:HeapOK C β n H I w){t u ty':TypeId}{k:IntKind}(hu:ty u= .int k){sv xv:SV}{s x:Value}(hs:sv.rel β I w s)(hx:xv.rel β I w x){K:SV→Heap→Nat→Prop}(h:zgp ty t sv xv H n K):
  ∃ v w',(Builtin.append_ #[t,u] ty' #[s,x]).run P w= .ok v w'∧After C β n I w K v w':=by
 have hsame:Same w w.drew:=(Below.refl _ w).drew
 unfold zgp at h
 split at h
 ·rename_i e sz by_ kk m ht
  obtain⟨hut,hes,z,hz,hzs,hs0⟩:=hT.slice t e sz by_ ht;obtain⟨i,hi,hz0,rfl,rfl⟩:=info_parts hz
  have hs':=(SV.rel_flat (x:=.c .nils) rfl).1 hs
  have hx':=(SV.rel_flat (x:=.c (.int kk m)) rfl).1 hx
  subst hs' hx'
  split at h
  ·rename_i c0 hc0
   obtain⟨zc,_,rfl⟩:=Option.map_eq_some_iff.1 hc0;obtain⟨e0,e1,e2⟩:=Cont.empty_spec (β:=β) (I:=I) (w:=w.drew) zc;obtain⟨⟨h1,h2,h3⟩,hK⟩:=h;obtain⟨l,rfl⟩:=Int.eq_ofNat_of_zero_le (Int.le_of_lt h1);rw[Int.toNat_natCast]at hK
   have hr:=Lib.run_append_nil_zeros (P:=P) w t u ty' e i z kk k hut (hT.int _ _ hu) hi hz0 l (by omega) hs0 (by omega) (by omega)
   refine⟨_,_,hr,?_⟩
   have hge:=grownCap_ge w l 0 e
   have hsize:(Builtin.zeroCells z.cells l++Builtin.zeroCells z.cells (grownCap w l 0 e - l)).size=grownCap w l 0 e*i.size:=by
    rw[Array.size_append,size_zeroCells,size_zeroCells,hzs, ←Nat.add_mul];congr 1;omega
   have hk:=hK (grownCap w l 0 e) hge
   rw[←hsize]at hk
   have hH':HeapOK C β n H I w.drew:=hH.later hsame
   have hA:=z52 (K:=K) (x:=.slice (some ⟨w.drew.heap.size,0,none⟩) l (grownCap w l 0 e)) hH' hk ⟨by rw[e0,List.take_zero];rfl,fun j hj=>absurd hj (by rw[e0];exact Nat.not_lt_zero j)⟩ (e2 n) (by rw[e0];exact Nat.zero_le _) ⟨hge,0,by simp[z5m],.inl rfl⟩ (Nat.lt_succ_self n)
   obtain⟨_,sv,H2,n2,β2,I2,a1,a2,a3,a4,a5,a6,a7⟩:=hA;exact⟨sv,H2,n2,β2,I2,a1,a2,a3,a4,a5,(hH.ext hsame).trans a6,a7⟩
  ·exact h.elim
 ·exact h.elim

def zb1(ty:Nat→Ty)(src dst:TypeId)(x:SV)(K:SV→Prop):Prop:=
 match ty src,ty dst,x with
 | .str,.slice e _ _,.c (.str s)=>ty e= .int .u8∧K (.c (.ds s.length (.u8s s)))
 |_,_,_=>False

theorem zdc(hT:TyOK P ty)(hH:HeapOK C β n H I w){src dst:TypeId}{xv:SV}{x:Value}(hx:xv.rel β I w x){K:SV→Heap→Nat→Prop}(h:zb1 ty src dst xv fun v=>K v H n):
  ∃ v w',(convert src dst x).run P w= .ok v w'∧z6h C β n I w K v w':=by
 unfold zb1 at h
 split at h
 ·rename_i e s' b s hs hd
  obtain⟨he,hK⟩:=h
  have hx':=(SV.rel_flat (x:=.c (.str s)) rfl).1 hx
  subst hx'
  have hr:=Lib.run_convert_string_bytes (P:=P) w src dst e ⟨s.toArray⟩ (hT.str _ hs) (hT.slice _ _ _ _ hd).1 (hT.int _ _ he)
  refine⟨_,_,hr,?_⟩
  have hsz:(⟨s.toArray⟩:ByteArray).size=s.length:=by simp[ByteArray.size]
  have hsame:Same w (Lib.bytesWorld w e ⟨s.toArray⟩):=⟨rfl,rfl,rfl,by rw[Lib.bytesWorld_size];omega,fun k hk=>Lib.bytesWorld_at_old w e _ k hk⟩
  have hH1:=hH.later hsame
  have hI:∀ b,I b∨b=w.heap.size→b< (Lib.bytesWorld w e ⟨s.toArray⟩).heap.size:=fun b h=>by
   rw[Lib.bytesWorld_size]
   rcases h with h|h
   ·have:=hH.ilt b h;omega
   ·omega
  have hE:Ext I w (fun b=>I b∨b=w.heap.size) (Lib.bytesWorld w e ⟨s.toArray⟩):=fun b hb=>⟨.inl hb,hsame.block b (hH.ilt b hb)⟩
  refine⟨hsame,_,H,n,β,fun b=>I b∨b=w.heap.size,hK,?_,trivial,Nat.le_refl _,fun _ _=>rfl,hE,hH1.widen (fun b h=>.inl h) hI (fun id o ho b hb h=>?_) (fun b h=>?_)⟩
  ·rw[hsz]
   refine DatAt.ds (c:=.u8s s) ⟨.inr rfl,fun j hj=>?_⟩ ?_ (fun h=>h)
   ·simp only[Cont.len]at hj
    refine⟨_,by rw[Nat.zero_add];exact Lib.bytesWorld_cell w e _ j (by omega),?_⟩;exact CellD.flat (.u8 _) rfl
   ·have:=grownCap_ge w s.length 0 e;exact this
  ·rcases h with h|h
   ·exact hH1.off id o ho b hb h
   ·have:=(hH.holds id o ho).lt hb;omega
  ·rcases h with h|h
   ·exact hH.i0 b h
   ·rw[h];exact .inr (.inl hH.size)
 ·exact h.elim
theorem HeapOK.pushMap(h:HeapOK C β n H I w){t:TypeId}:HeapOK C (upd β n (some w.heap.size)) (n+1) ((n,.mp t [])::H) I (w.alloc (.map #[] 0)):=by
 have hsame:Same w (w.alloc (.map #[] 0)):=(Below.refl _ w).alloc (Nat.le_refl _) (.map #[] 0)
 have h1:=h.later hsame
 refine h1.name ⟨_, #[],0,rfl,heap_alloc_new w _,rfl,fun j x hx=>by simp at hx⟩ (fun x hx=>by cases hx) (fun b e=>?_) (fun id o ho b hb e=>?_) (fun b e hI=>?_)
 ·cases e;exact .inl h.size
 ·cases e
  have:=(h.holds id o ho).lt hb
  omega
 ·cases e
  exact absurd (h.ilt _ hI) (Nat.lt_irrefl _)
def zih(ty:Nat→Ty)(t:TypeId)(H:Heap)(n:Nat)(K:SV→Heap→Nat→Prop):Prop:=K (.c (.map n)) ((n,.mp t [])::H) (n+1)
theorem zeu(hH:HeapOK C β n H I w){o:Oper}{t:TypeId}(ho:o.op= .makeMap t none){K:SV→Heap→Nat→Prop}(h:zih ty t H n K):Runs P a o w (z6h C β n I w K):=by
 refine Runs.of_value (v:=.map (some w.heap.size)) (w':=w.alloc (.map #[] 0)) ?_ ?_
 ·simp[execOp,ho,Instr.makeMap]
 ·have hsame:Same w (w.alloc (.map #[] 0)):=(Below.refl _ w).alloc (Nat.le_refl _) (.map #[] 0)
  exact⟨hsame,.c (.map n),_,n+1,upd β n (some w.heap.size),I,h,by simp[SV.rel,Cell.rel,Cell.rel1,z2q],Nat.lt_succ_self n,Nat.le_succ _,z54,hH.ext hsame,hH.pushMap⟩
def z4k(ty:Nat→Ty)(t:TypeId)(x k v:SV)(H:Heap)(n:Nat)(K:SV→Heap→Nat→Prop):Prop:=
 match ty t,x with
 | .map kt et,.c (.map id)=>match H.get id with
  |some (.mp mt l)=>keyS ty kt k∧(∀ p∈l,keyS ty kt p.1)∧(∀ (j:Nat) (u:SV),l[j]? =some (k,u)→K (.c (.raw undef)) ((id,.mp mt (l.set j (k,v)))::H) n)∧((∀ p∈l,p.1≠k)→K (.c (.raw undef)) ((id,.mp mt (l++[(k,v)]))::H) n)
  |_=>False
 |_,_=>False
theorem zb2 (hT:TyOK P ty) (hH:HeapOK C β n H I w) {t:TypeId} {x k v:SV} {xv kv vv:Value} (hx:x.rel β I w xv) (hk:k.rel β I w kv) (hv:v.rel β I w vv) (hkl:k.low n) (hvl:v.low n) {K:SV→Heap→Nat→Prop} (h:z4k ty t x k v H n K):
  ∃ w',(Instr.mapUpdate t xv kv vv).run P w= .ok () w'∧After C β n I w K undef w':=by
 unfold z4k at h
 split at h
 ·rename_i kt et id hty
  split at h
  ·rename_i mt l hid
   obtain⟨hks,hls,hyes,hno⟩:=h
   have hkf:=z83 hT hks
   obtain rfl:=(SV.rel_flat hkf).1 hk;obtain⟨b,es,ck,hb,hw,hs,he⟩:=hH.holds id _ hid
   have hxv:xv= .map (some b):=by have:xv= .map (β id):=hx;rw[this,hb]
   subst hxv
   have hm:=hT.map t kt et hty
   have hlow:=(hH.low id _ hid).2
   rcases zeo (P:=P) hT hks hls hs he with⟨j,u,e,h1,h2,h3,h5,h4⟩|⟨h1,h2⟩
   ·have hrun:(Instr.mapUpdate t (.map (some b)) k.val vv).run P w= .ok () { w with heap:=w.heap.setIfInBounds b (.map (es.modify j fun e=>{ e with key:=k.val,val:=vv }) ck) }:=by
     simp[Instr.mapUpdate,run_underlying hm,MapKept.run_getObj_map hw,z4z hT hks,h4,h2,h5,zko hT hks,MapKept.run_setObj_map _ hw,Result.andThen]
    obtain⟨hE,hH'⟩:=hH.write hid hb (w':={ w with heap:=w.heap.setIfInBounds b (.map (es.modify j fun e=>{ e with key:=k.val,val:=vv }) ck) }) (o':=.mp mt (l.set j (k,v))) rfl rfl rfl (by simp) (fun k' _ hne=>(MapKept.heap_set hw).2 k' hne)
     (fun hE=>⟨b,_,ck,rfl,(MapKept.heap_set hw).1,by simp[hs],fun i y hy=>by
      rw[List.getElem?_set]at hy
      by_cases hij:j=i
      ·subst hij
       rw[if_pos rfl]at hy
       split at hy
       ·cases hy
        exact⟨{ e with key:=k.val,val:=vv },by simp[Array.getElem?_modify,h2],(SV.rel_flat hkf).2 rfl,SV.rel_mono (n:=n) (fun _ _=>rfl) hE hvl hv⟩
       ·cases hy
      ·rw[if_neg hij]at hy
       obtain⟨e',he',h6,h7⟩:=he i y hy
       have hyl:=hlow y (List.mem_of_getElem? hy)
       exact⟨e',by simp[Array.getElem?_modify,hij,he'],SV.rel_mono (n:=n) (fun _ _=>rfl) hE hyl.1 h6,SV.rel_mono (n:=n) (fun _ _=>rfl) hE hyl.2 h7⟩⟩)
     (fun y hy=>by
      rcases List.mem_or_eq_of_mem_set hy with hy|rfl
      ·exact hlow y hy
      ·exact⟨hkl,hvl⟩)
    exact⟨_,hrun,.c (.raw undef),_,n,β,I,hyes j u h1,Cell.rel_val (β:=β) (x:=.raw undef) rfl,trivial,Nat.le_refl _,fun _ _=>rfl,hE,hH'⟩
   ·have hrun:(Instr.mapUpdate t (.map (some b)) k.val vv).run P w= .ok () { w with heap:=w.heap.setIfInBounds b (.map (es.push { key:=k.val,val:=vv,born:=ck }) (ck+1)) }:=by
     simp[Instr.mapUpdate,run_underlying hm,MapKept.run_getObj_map hw,z4z hT hks,h2,MapKept.run_setObj_map _ hw,Result.andThen]
    obtain⟨hE,hH'⟩:=hH.write hid hb (w':={ w with heap:=w.heap.setIfInBounds b (.map (es.push { key:=k.val,val:=vv,born:=ck }) (ck+1)) }) (o':=.mp mt (l++[(k,v)])) rfl rfl rfl (by simp) (fun k' _ hne=>(MapKept.heap_set hw).2 k' hne)
     (fun hE=>⟨b,_,ck+1,rfl,(MapKept.heap_set hw).1,by simp[hs],fun i y hy=>by
      by_cases hil:i< l.length
      ·rw[List.getElem?_append_left hil]at hy
       obtain⟨e',he',h6,h7⟩:=he i y hy
       have hyl:=hlow y (List.mem_of_getElem? hy)
       exact⟨e',by rw[Array.getElem?_push,if_neg (by omega)];exact he',SV.rel_mono (n:=n) (fun _ _=>rfl) hE hyl.1 h6,SV.rel_mono (n:=n) (fun _ _=>rfl) hE hyl.2 h7⟩
      ·rw[List.getElem?_append_right (by omega)]at hy
       have h0:i - l.length=0:=by
        rcases Nat.eq_zero_or_pos (i - l.length)with h|h
        ·exact h
        ·rw[List.getElem?_eq_none (by simp;omega)]at hy;cases hy
       rw[h0]at hy
       simp only[List.getElem?_cons_zero,Option.some.injEq]at hy
       subst hy
       exact⟨_,by rw[Array.getElem?_push,if_pos (by omega)],(SV.rel_flat hkf).2 rfl,SV.rel_mono (n:=n) (fun _ _=>rfl) hE hvl hv⟩⟩)
     (fun y hy=>by
      rcases List.mem_append.1 hy with hy|hy
      ·exact hlow y hy
      ·obtain rfl:=List.mem_singleton.1 hy
       exact⟨hkl,hvl⟩)
    exact⟨_,hrun,.c (.raw undef),_,n,β,I,hno h1,Cell.rel_val (β:=β) (x:=.raw undef) rfl,trivial,Nat.le_refl _,fun _ _=>rfl,hE,hH'⟩
  ·exact h.elim
 ·exact h.elim
end
end Go.Ab
