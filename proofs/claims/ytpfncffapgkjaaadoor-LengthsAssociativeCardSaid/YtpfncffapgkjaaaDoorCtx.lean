/- The types of this program, and what is known of them. -/
import Derived.Test.YtpfncffapgkjaaaDoorProg
import Derived.Test.YtpfncffapgkjaaaDoorAb13
namespace Go.Proofs.YtpfncffapgkjaaaDoor
open Go.Ab

def ty : Nat → Ty
  | 1 => .func
  | 2 => .int .i64
  | 3 => .int .i64
  | 4 => .bool
  | 5 => .int .u8
  | 9 => .str
  | 12 => .int .u64
  | 13 => .struct [(0, 1, 9), (1, 1, 12)] 2 (.cells ([.str []] ++ [.u64 0]))
  | 21 => .int .i32
  | 22 => .slice 4 1 1
  | 23 => .struct [(0, 1, 22), (1, 1, 22)] 2 (.cells (List.replicate 2 (.nils)))
  | 24 => .struct [(0, 1, 22), (1, 1, 22)] 2 (.cells (List.replicate 2 (.nils)))
  | 25 => .func
  | 26 => .func
  | 27 => .int .i64
  | 29 => .func
  | 30 => .func
  | 31 => .func
  | 32 => .func
  | 33 => .func
  | 34 => .func
  | 35 => .func
  | 36 => .slice 5 1 1
  | 37 => .slice 52 4 32
  | 38 => .slice 47 1 24
  | 39 => .struct [(0, 1, 37), (1, 1, 38), (2, 1, 22)] 3 (.cells (List.replicate 3 (.nils)))
  | 40 => .struct [(0, 1, 37), (1, 1, 38), (2, 1, 22)] 3 (.cells (List.replicate 3 (.nils)))
  | 41 => .func
  | 42 => .func
  | 43 => .func
  | 44 => .int .u16
  | 45 => .func
  | 46 => .func
  | 47 => .slice 3 1 8
  | 48 => .func
  | 49 => .func
  | 50 => .int .u64
  | 51 => .arr 4 50 1 (.u64s (List.replicate 4 0))
  | 52 => .arr 4 50 1 (.u64s (List.replicate 4 0))
  | 53 => .func
  | 54 => .func
  | 55 => .func
  | 56 => .func
  | 57 => .func
  | 58 => .func
  | 59 => .func
  | 60 => .func
  | 61 => .func
  | 62 => .slice 50 1 8
  | 63 => .map 50 3
  | 65 => .func
  | 66 => .slice 22 1 24
  | 67 => .func
  | 68 => .func
  | 69 => .func
  | 70 => .func
  | 71 => .func
  | 72 => .func
  | 73 => .arr 64 5 1 (.u8s (List.replicate 64 0))
  | 74 => .int .u64
  | 75 => .func
  | 76 => .func
  | 77 => .func
  | 78 => .func
  | 79 => .func
  | 80 => .func
  | 86 => .func
  | 87 => .int .u32
  | 90 => .func
  | 91 => .ptr
  | _ => .other

theorem tyOK : TyOK Tryd.prog ty where
  int := by
    intro t k h; unfold ty at h; split at h <;> cases h
    · kernel_rfl
    · kernel_rfl
    · kernel_rfl
    · kernel_rfl
    · kernel_rfl
    · kernel_rfl
    · kernel_rfl
    · kernel_rfl
    · kernel_rfl
    · kernel_rfl
  bool := by
    intro t h; unfold ty at h; split at h <;> cases h
    · kernel_rfl
  str := by
    intro t h; unfold ty at h; split at h <;> cases h
    · kernel_rfl
  slice := by
    intro t e s b h; unfold ty at h; split at h <;> cases h
    · exact ⟨by kernel_rfl, by kernel_rfl, .bool false, by kernel_rfl, by kernel_rfl, by decide⟩
    · exact ⟨by kernel_rfl, by kernel_rfl, .int .u8 0, by kernel_rfl, by kernel_rfl, by decide⟩
    · exact ⟨by kernel_rfl, by kernel_rfl, .agg ((.u64s (List.replicate 4 0) : Cont).vals : List Value).toArray, by kernel_rfl, by kernel_rfl, by decide⟩
    · exact ⟨by kernel_rfl, by kernel_rfl, .slice none 0 0, by kernel_rfl, by kernel_rfl, by decide⟩
    · exact ⟨by kernel_rfl, by kernel_rfl, .int .i64 0, by kernel_rfl, by kernel_rfl, by decide⟩
    · exact ⟨by kernel_rfl, by kernel_rfl, .int .u64 0, by kernel_rfl, by kernel_rfl, by decide⟩
    · exact ⟨by kernel_rfl, by kernel_rfl, .slice none 0 0, by kernel_rfl, by kernel_rfl, by decide⟩
  arr := by
    intro t n e s z h; unfold ty at h; split at h <;> cases h
    · exact ⟨by kernel_rfl, by kernel_rfl, by kernel_rfl⟩
    · exact ⟨by kernel_rfl, by kernel_rfl, by kernel_rfl⟩
    · exact ⟨by kernel_rfl, by kernel_rfl, by kernel_rfl⟩
  struct := by
    intro t fs n z h; unfold ty at h; split at h <;> cases h
    · exact ⟨⟨_, Tryd.underlying13, rfl, by simp only [List.mem_cons, List.not_mem_nil, or_false]; rintro f (rfl | rfl) <;> kernel_rfl⟩, by kernel_rfl⟩
    · exact ⟨⟨_, Tryd.underlying23, rfl, by simp only [List.mem_cons, List.not_mem_nil, or_false]; rintro f (rfl | rfl) <;> kernel_rfl⟩, by kernel_rfl⟩
    · exact ⟨⟨_, Tryd.underlying24, rfl, by simp only [List.mem_cons, List.not_mem_nil, or_false]; rintro f (rfl | rfl) <;> kernel_rfl⟩, by kernel_rfl⟩
    · exact ⟨⟨_, Tryd.underlying39, rfl, by simp only [List.mem_cons, List.not_mem_nil, or_false]; rintro f (rfl | rfl | rfl) <;> kernel_rfl⟩, by kernel_rfl⟩
    · exact ⟨⟨_, Tryd.underlying40, rfl, by simp only [List.mem_cons, List.not_mem_nil, or_false]; rintro f (rfl | rfl | rfl) <;> kernel_rfl⟩, by kernel_rfl⟩
  ptr := by
    intro t h; unfold ty at h; split at h <;> cases h
    · exact ⟨_, Tryd.underlying91⟩
  func := by
    intro t h; unfold ty at h; split at h <;> cases h
    · exact ⟨_, _, _, Tryd.underlying1⟩
    · exact ⟨_, _, _, Tryd.underlying25⟩
    · exact ⟨_, _, _, Tryd.underlying26⟩
    · exact ⟨_, _, _, Tryd.underlying29⟩
    · exact ⟨_, _, _, Tryd.underlying30⟩
    · exact ⟨_, _, _, Tryd.underlying31⟩
    · exact ⟨_, _, _, Tryd.underlying32⟩
    · exact ⟨_, _, _, Tryd.underlying33⟩
    · exact ⟨_, _, _, Tryd.underlying34⟩
    · exact ⟨_, _, _, Tryd.underlying35⟩
    · exact ⟨_, _, _, Tryd.underlying41⟩
    · exact ⟨_, _, _, Tryd.underlying42⟩
    · exact ⟨_, _, _, Tryd.underlying43⟩
    · exact ⟨_, _, _, Tryd.underlying45⟩
    · exact ⟨_, _, _, Tryd.underlying46⟩
    · exact ⟨_, _, _, Tryd.underlying48⟩
    · exact ⟨_, _, _, Tryd.underlying49⟩
    · exact ⟨_, _, _, Tryd.underlying53⟩
    · exact ⟨_, _, _, Tryd.underlying54⟩
    · exact ⟨_, _, _, Tryd.underlying55⟩
    · exact ⟨_, _, _, Tryd.underlying56⟩
    · exact ⟨_, _, _, Tryd.underlying57⟩
    · exact ⟨_, _, _, Tryd.underlying58⟩
    · exact ⟨_, _, _, Tryd.underlying59⟩
    · exact ⟨_, _, _, Tryd.underlying60⟩
    · exact ⟨_, _, _, Tryd.underlying61⟩
    · exact ⟨_, _, _, Tryd.underlying65⟩
    · exact ⟨_, _, _, Tryd.underlying67⟩
    · exact ⟨_, _, _, Tryd.underlying68⟩
    · exact ⟨_, _, _, Tryd.underlying69⟩
    · exact ⟨_, _, _, Tryd.underlying70⟩
    · exact ⟨_, _, _, Tryd.underlying71⟩
    · exact ⟨_, _, _, Tryd.underlying72⟩
    · exact ⟨_, _, _, Tryd.underlying75⟩
    · exact ⟨_, _, _, Tryd.underlying76⟩
    · exact ⟨_, _, _, Tryd.underlying77⟩
    · exact ⟨_, _, _, Tryd.underlying78⟩
    · exact ⟨_, _, _, Tryd.underlying79⟩
    · exact ⟨_, _, _, Tryd.underlying80⟩
    · exact ⟨_, _, _, Tryd.underlying86⟩
    · exact ⟨_, _, _, Tryd.underlying90⟩
  map := by
    intro t k e h; unfold ty at h; split at h <;> cases h
    · kernel_rfl
  size := by
    intro t; unfold ty; split <;> intro h <;> first | exact absurd rfl h | kernel_rfl
  zero := by
    intro t z h; unfold ty at h; split at h <;> simp only [zeroC, Option.some.injEq, reduceCtorEq] at h <;> subst h
    · exact ⟨.nilFunc, by kernel_rfl, by kernel_rfl, by kernel_rfl⟩
    · exact ⟨.int .i64 0, by kernel_rfl, by kernel_rfl, by kernel_rfl⟩
    · exact ⟨.int .i64 0, by kernel_rfl, by kernel_rfl, by kernel_rfl⟩
    · exact ⟨.bool false, by kernel_rfl, by kernel_rfl, by kernel_rfl⟩
    · exact ⟨.int .u8 0, by kernel_rfl, by kernel_rfl, by kernel_rfl⟩
    · exact ⟨.string ⟨#[]⟩, by kernel_rfl, by kernel_rfl, by kernel_rfl⟩
    · exact ⟨.int .u64 0, by kernel_rfl, by kernel_rfl, by kernel_rfl⟩
    · exact ⟨.agg ((.cells ([.str []] ++ [.u64 0]) : Cont).vals : List Value).toArray, by kernel_rfl, by rfl, by kernel_rfl⟩
    · exact ⟨.int .i32 0, by kernel_rfl, by kernel_rfl, by kernel_rfl⟩
    · exact ⟨.slice none 0 0, by kernel_rfl, by kernel_rfl, by kernel_rfl⟩
    · exact ⟨.agg ((.cells (List.replicate 2 (.nils)) : Cont).vals : List Value).toArray, by kernel_rfl, by rfl, by kernel_rfl⟩
    · exact ⟨.agg ((.cells (List.replicate 2 (.nils)) : Cont).vals : List Value).toArray, by kernel_rfl, by rfl, by kernel_rfl⟩
    · exact ⟨.nilFunc, by kernel_rfl, by kernel_rfl, by kernel_rfl⟩
    · exact ⟨.nilFunc, by kernel_rfl, by kernel_rfl, by kernel_rfl⟩
    · exact ⟨.int .i64 0, by kernel_rfl, by kernel_rfl, by kernel_rfl⟩
    · exact ⟨.nilFunc, by kernel_rfl, by kernel_rfl, by kernel_rfl⟩
    · exact ⟨.nilFunc, by kernel_rfl, by kernel_rfl, by kernel_rfl⟩
    · exact ⟨.nilFunc, by kernel_rfl, by kernel_rfl, by kernel_rfl⟩
    · exact ⟨.nilFunc, by kernel_rfl, by kernel_rfl, by kernel_rfl⟩
    · exact ⟨.nilFunc, by kernel_rfl, by kernel_rfl, by kernel_rfl⟩
    · exact ⟨.nilFunc, by kernel_rfl, by kernel_rfl, by kernel_rfl⟩
    · exact ⟨.nilFunc, by kernel_rfl, by kernel_rfl, by kernel_rfl⟩
    · exact ⟨.slice none 0 0, by kernel_rfl, by kernel_rfl, by kernel_rfl⟩
    · exact ⟨.slice none 0 0, by kernel_rfl, by kernel_rfl, by kernel_rfl⟩
    · exact ⟨.slice none 0 0, by kernel_rfl, by kernel_rfl, by kernel_rfl⟩
    · exact ⟨.agg ((.cells (List.replicate 3 (.nils)) : Cont).vals : List Value).toArray, by kernel_rfl, by rfl, by kernel_rfl⟩
    · exact ⟨.agg ((.cells (List.replicate 3 (.nils)) : Cont).vals : List Value).toArray, by kernel_rfl, by rfl, by kernel_rfl⟩
    · exact ⟨.nilFunc, by kernel_rfl, by kernel_rfl, by kernel_rfl⟩
    · exact ⟨.nilFunc, by kernel_rfl, by kernel_rfl, by kernel_rfl⟩
    · exact ⟨.nilFunc, by kernel_rfl, by kernel_rfl, by kernel_rfl⟩
    · exact ⟨.int .u16 0, by kernel_rfl, by kernel_rfl, by kernel_rfl⟩
    · exact ⟨.nilFunc, by kernel_rfl, by kernel_rfl, by kernel_rfl⟩
    · exact ⟨.nilFunc, by kernel_rfl, by kernel_rfl, by kernel_rfl⟩
    · exact ⟨.slice none 0 0, by kernel_rfl, by kernel_rfl, by kernel_rfl⟩
    · exact ⟨.nilFunc, by kernel_rfl, by kernel_rfl, by kernel_rfl⟩
    · exact ⟨.nilFunc, by kernel_rfl, by kernel_rfl, by kernel_rfl⟩
    · exact ⟨.int .u64 0, by kernel_rfl, by kernel_rfl, by kernel_rfl⟩
    · exact ⟨.agg ((.u64s (List.replicate 4 0) : Cont).vals : List Value).toArray, by kernel_rfl, by rfl, by kernel_rfl⟩
    · exact ⟨.agg ((.u64s (List.replicate 4 0) : Cont).vals : List Value).toArray, by kernel_rfl, by rfl, by kernel_rfl⟩
    · exact ⟨.nilFunc, by kernel_rfl, by kernel_rfl, by kernel_rfl⟩
    · exact ⟨.nilFunc, by kernel_rfl, by kernel_rfl, by kernel_rfl⟩
    · exact ⟨.nilFunc, by kernel_rfl, by kernel_rfl, by kernel_rfl⟩
    · exact ⟨.nilFunc, by kernel_rfl, by kernel_rfl, by kernel_rfl⟩
    · exact ⟨.nilFunc, by kernel_rfl, by kernel_rfl, by kernel_rfl⟩
    · exact ⟨.nilFunc, by kernel_rfl, by kernel_rfl, by kernel_rfl⟩
    · exact ⟨.nilFunc, by kernel_rfl, by kernel_rfl, by kernel_rfl⟩
    · exact ⟨.nilFunc, by kernel_rfl, by kernel_rfl, by kernel_rfl⟩
    · exact ⟨.nilFunc, by kernel_rfl, by kernel_rfl, by kernel_rfl⟩
    · exact ⟨.slice none 0 0, by kernel_rfl, by kernel_rfl, by kernel_rfl⟩
    · exact ⟨.map none, by kernel_rfl, by kernel_rfl, by kernel_rfl⟩
    · exact ⟨.nilFunc, by kernel_rfl, by kernel_rfl, by kernel_rfl⟩
    · exact ⟨.slice none 0 0, by kernel_rfl, by kernel_rfl, by kernel_rfl⟩
    · exact ⟨.nilFunc, by kernel_rfl, by kernel_rfl, by kernel_rfl⟩
    · exact ⟨.nilFunc, by kernel_rfl, by kernel_rfl, by kernel_rfl⟩
    · exact ⟨.nilFunc, by kernel_rfl, by kernel_rfl, by kernel_rfl⟩
    · exact ⟨.nilFunc, by kernel_rfl, by kernel_rfl, by kernel_rfl⟩
    · exact ⟨.nilFunc, by kernel_rfl, by kernel_rfl, by kernel_rfl⟩
    · exact ⟨.nilFunc, by kernel_rfl, by kernel_rfl, by kernel_rfl⟩
    · exact ⟨.agg ((.u8s (List.replicate 64 0) : Cont).vals : List Value).toArray, by kernel_rfl, by rfl, by kernel_rfl⟩
    · exact ⟨.int .u64 0, by kernel_rfl, by kernel_rfl, by kernel_rfl⟩
    · exact ⟨.nilFunc, by kernel_rfl, by kernel_rfl, by kernel_rfl⟩
    · exact ⟨.nilFunc, by kernel_rfl, by kernel_rfl, by kernel_rfl⟩
    · exact ⟨.nilFunc, by kernel_rfl, by kernel_rfl, by kernel_rfl⟩
    · exact ⟨.nilFunc, by kernel_rfl, by kernel_rfl, by kernel_rfl⟩
    · exact ⟨.nilFunc, by kernel_rfl, by kernel_rfl, by kernel_rfl⟩
    · exact ⟨.nilFunc, by kernel_rfl, by kernel_rfl, by kernel_rfl⟩
    · exact ⟨.nilFunc, by kernel_rfl, by kernel_rfl, by kernel_rfl⟩
    · exact ⟨.int .u32 0, by kernel_rfl, by kernel_rfl, by kernel_rfl⟩
    · exact ⟨.nilFunc, by kernel_rfl, by kernel_rfl, by kernel_rfl⟩
  zeroV := by
    intro t z h; unfold ty at h; split at h <;> simp only [zeroC, Option.some.injEq, reduceCtorEq] at h <;> subst h
    · kernel_rfl
    · kernel_rfl
    · kernel_rfl
    · kernel_rfl
    · kernel_rfl
    · kernel_rfl
    · kernel_rfl
    · kernel_rfl
    · kernel_rfl
    · kernel_rfl
    · kernel_rfl
    · kernel_rfl
    · kernel_rfl
    · kernel_rfl
    · kernel_rfl
    · kernel_rfl
    · kernel_rfl
    · kernel_rfl
    · kernel_rfl
    · kernel_rfl
    · kernel_rfl
    · kernel_rfl
    · kernel_rfl
    · kernel_rfl
    · kernel_rfl
    · kernel_rfl
    · kernel_rfl
    · kernel_rfl
    · kernel_rfl
    · kernel_rfl
    · kernel_rfl
    · kernel_rfl
    · kernel_rfl
    · kernel_rfl
    · kernel_rfl
    · kernel_rfl
    · kernel_rfl
    · kernel_rfl
    · kernel_rfl
    · kernel_rfl
    · kernel_rfl
    · kernel_rfl
    · kernel_rfl
    · kernel_rfl
    · kernel_rfl
    · kernel_rfl
    · kernel_rfl
    · kernel_rfl
    · kernel_rfl
    · kernel_rfl
    · kernel_rfl
    · kernel_rfl
    · kernel_rfl
    · kernel_rfl
    · kernel_rfl
    · kernel_rfl
    · kernel_rfl
    · kernel_rfl
    · kernel_rfl
    · kernel_rfl
    · kernel_rfl
    · kernel_rfl
    · kernel_rfl
    · kernel_rfl
    · kernel_rfl
    · kernel_rfl
    · kernel_rfl
    · kernel_rfl
    · kernel_rfl
@[simp] theorem size_1 : (ty 1).size = 1 := rfl
@[simp] theorem size_2 : (ty 2).size = 1 := rfl
@[simp] theorem size_3 : (ty 3).size = 1 := rfl
@[simp] theorem size_4 : (ty 4).size = 1 := rfl
@[simp] theorem size_5 : (ty 5).size = 1 := rfl
@[simp] theorem size_9 : (ty 9).size = 1 := rfl
@[simp] theorem size_12 : (ty 12).size = 1 := rfl
@[simp] theorem size_13 : (ty 13).size = 2 := rfl
@[simp] theorem size_21 : (ty 21).size = 1 := rfl
@[simp] theorem size_22 : (ty 22).size = 1 := rfl
@[simp] theorem size_23 : (ty 23).size = 2 := rfl
@[simp] theorem size_24 : (ty 24).size = 2 := rfl
@[simp] theorem size_25 : (ty 25).size = 1 := rfl
@[simp] theorem size_26 : (ty 26).size = 1 := rfl
@[simp] theorem size_27 : (ty 27).size = 1 := rfl
@[simp] theorem size_29 : (ty 29).size = 1 := rfl
@[simp] theorem size_30 : (ty 30).size = 1 := rfl
@[simp] theorem size_31 : (ty 31).size = 1 := rfl
@[simp] theorem size_32 : (ty 32).size = 1 := rfl
@[simp] theorem size_33 : (ty 33).size = 1 := rfl
@[simp] theorem size_34 : (ty 34).size = 1 := rfl
@[simp] theorem size_35 : (ty 35).size = 1 := rfl
@[simp] theorem size_36 : (ty 36).size = 1 := rfl
@[simp] theorem size_37 : (ty 37).size = 1 := rfl
@[simp] theorem size_38 : (ty 38).size = 1 := rfl
@[simp] theorem size_39 : (ty 39).size = 3 := rfl
@[simp] theorem size_40 : (ty 40).size = 3 := rfl
@[simp] theorem size_41 : (ty 41).size = 1 := rfl
@[simp] theorem size_42 : (ty 42).size = 1 := rfl
@[simp] theorem size_43 : (ty 43).size = 1 := rfl
@[simp] theorem size_44 : (ty 44).size = 1 := rfl
@[simp] theorem size_45 : (ty 45).size = 1 := rfl
@[simp] theorem size_46 : (ty 46).size = 1 := rfl
@[simp] theorem size_47 : (ty 47).size = 1 := rfl
@[simp] theorem size_48 : (ty 48).size = 1 := rfl
@[simp] theorem size_49 : (ty 49).size = 1 := rfl
@[simp] theorem size_50 : (ty 50).size = 1 := rfl
@[simp] theorem size_51 : (ty 51).size = 4 := rfl
@[simp] theorem size_52 : (ty 52).size = 4 := rfl
@[simp] theorem size_53 : (ty 53).size = 1 := rfl
@[simp] theorem size_54 : (ty 54).size = 1 := rfl
@[simp] theorem size_55 : (ty 55).size = 1 := rfl
@[simp] theorem size_56 : (ty 56).size = 1 := rfl
@[simp] theorem size_57 : (ty 57).size = 1 := rfl
@[simp] theorem size_58 : (ty 58).size = 1 := rfl
@[simp] theorem size_59 : (ty 59).size = 1 := rfl
@[simp] theorem size_60 : (ty 60).size = 1 := rfl
@[simp] theorem size_61 : (ty 61).size = 1 := rfl
@[simp] theorem size_62 : (ty 62).size = 1 := rfl
@[simp] theorem size_63 : (ty 63).size = 1 := rfl
@[simp] theorem size_65 : (ty 65).size = 1 := rfl
@[simp] theorem size_66 : (ty 66).size = 1 := rfl
@[simp] theorem size_67 : (ty 67).size = 1 := rfl
@[simp] theorem size_68 : (ty 68).size = 1 := rfl
@[simp] theorem size_69 : (ty 69).size = 1 := rfl
@[simp] theorem size_70 : (ty 70).size = 1 := rfl
@[simp] theorem size_71 : (ty 71).size = 1 := rfl
@[simp] theorem size_72 : (ty 72).size = 1 := rfl
@[simp] theorem size_73 : (ty 73).size = 64 := rfl
@[simp] theorem size_74 : (ty 74).size = 1 := rfl
@[simp] theorem size_75 : (ty 75).size = 1 := rfl
@[simp] theorem size_76 : (ty 76).size = 1 := rfl
@[simp] theorem size_77 : (ty 77).size = 1 := rfl
@[simp] theorem size_78 : (ty 78).size = 1 := rfl
@[simp] theorem size_79 : (ty 79).size = 1 := rfl
@[simp] theorem size_80 : (ty 80).size = 1 := rfl
@[simp] theorem size_86 : (ty 86).size = 1 := rfl
@[simp] theorem size_87 : (ty 87).size = 1 := rfl
@[simp] theorem size_90 : (ty 90).size = 1 := rfl
@[simp] theorem size_91 : (ty 91).size = 1 := rfl

theorem mixed : Tryd.prog.follows .mixedOrders = true := by kernel_rfl
end Go.Proofs.YtpfncffapgkjaaaDoor
