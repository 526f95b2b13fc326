/- The types of this program, and what is known of them. -/
import Derived.Test.YtdanaehfdbdhdaaDoorProg
import Derived.Test.YtdanaehfdbdhdaaDoorAb13
namespace Go.Proofs.YtdanaehfdbdhdaaDoor
set_option linter.unusedVariables false
open Go.Ab

def ty : Nat → Ty
  | 1 => .func
  | 2 => .int .i64
  | 3 => .int .i64
  | 4 => .bool
  | 5 => .int .u8
  | 9 => .str
  | 12 => .int .u64
  | 13 => .struct [(0, 1, 9), (1, 1, 12)] 2 (.cells ([.str []] ++ [.u64 0]))
  | 21 => .int .i32
  | 22 => .slice 5 1 1
  | 23 => .arr 32 5 1 (.u8s (List.replicate 32 0))
  | 24 => .arr 32 5 1 (.u8s (List.replicate 32 0))
  | 25 => .slice 22 1 24
  | 26 => .func
  | 27 => .func
  | 28 => .func
  | 29 => .func
  | 30 => .func
  | 31 => .func
  | 32 => .func
  | 33 => .func
  | 34 => .func
  | 35 => .func
  | 36 => .func
  | 37 => .func
  | 38 => .func
  | 39 => .func
  | 40 => .func
  | 41 => .func
  | 42 => .int .u16
  | 43 => .int .u64
  | 44 => .func
  | 45 => .func
  | 46 => .func
  | 47 => .func
  | 48 => .int .u32
  | 49 => .arr 8 48 1 (.u32s (List.replicate 8 0))
  | 50 => .func
  | 51 => .func
  | 52 => .func
  | 53 => .arr 64 5 1 (.u8s (List.replicate 64 0))
  | 54 => .int .u64
  | 55 => .func
  | 56 => .func
  | 57 => .func
  | 58 => .func
  | 59 => .ptr
  | 60 => .arr 64 48 1 (.u32s (List.replicate 64 0))
  | 61 => .func
  | 62 => .func
  | 63 => .func
  | 64 => .func
  | 65 => .func
  | 71 => .func
  | 74 => .func
  | 75 => .ptr
  | _ => .other

theorem tyOK : TyOK Tryd.prog ty where
  int := by
    intro t k h; unfold ty at h; split at h <;> cases h
    · kernel_rfl
    · kernel_rfl
    · kernel_rfl
    · kernel_rfl
    · kernel_rfl
    · kernel_rfl
    · kernel_rfl
    · kernel_rfl
    · kernel_rfl
  bool := by
    intro t h; unfold ty at h; split at h <;> cases h
    · kernel_rfl
  str := by
    intro t h; unfold ty at h; split at h <;> cases h
    · kernel_rfl
  slice := by
    intro t e s b h; unfold ty at h; split at h <;> cases h
    · exact ⟨by kernel_rfl, by kernel_rfl, .int .u8 0, by kernel_rfl, by kernel_rfl, by decide⟩
    · exact ⟨by kernel_rfl, by kernel_rfl, .slice none 0 0, by kernel_rfl, by kernel_rfl, by decide⟩
  arr := by
    intro t n e s z h; unfold ty at h; split at h <;> cases h
    · exact ⟨by kernel_rfl, by kernel_rfl, by kernel_rfl⟩
    · exact ⟨by kernel_rfl, by kernel_rfl, by kernel_rfl⟩
    · exact ⟨by kernel_rfl, by kernel_rfl, by kernel_rfl⟩
    · exact ⟨by kernel_rfl, by kernel_rfl, by kernel_rfl⟩
    · exact ⟨by kernel_rfl, by kernel_rfl, by kernel_rfl⟩
  struct := by
    intro t fs n z h; unfold ty at h; split at h <;> cases h
    · exact ⟨⟨_, Tryd.underlying13, rfl, by simp only [List.mem_cons, List.not_mem_nil, or_false]; rintro f (rfl | rfl) <;> kernel_rfl⟩, by kernel_rfl⟩
  ptr := by
    intro t h; unfold ty at h; split at h <;> cases h
    · exact ⟨_, Tryd.underlying59⟩
    · exact ⟨_, Tryd.underlying75⟩
  func := by
    intro t h; unfold ty at h; split at h <;> cases h
    · exact ⟨_, _, _, Tryd.underlying1⟩
    · exact ⟨_, _, _, Tryd.underlying26⟩
    · exact ⟨_, _, _, Tryd.underlying27⟩
    · exact ⟨_, _, _, Tryd.underlying28⟩
    · exact ⟨_, _, _, Tryd.underlying29⟩
    · exact ⟨_, _, _, Tryd.underlying30⟩
    · exact ⟨_, _, _, Tryd.underlying31⟩
    · exact ⟨_, _, _, Tryd.underlying32⟩
    · exact ⟨_, _, _, Tryd.underlying33⟩
    · exact ⟨_, _, _, Tryd.underlying34⟩
    · exact ⟨_, _, _, Tryd.underlying35⟩
    · exact ⟨_, _, _, Tryd.underlying36⟩
    · exact ⟨_, _, _, Tryd.underlying37⟩
    · exact ⟨_, _, _, Tryd.underlying38⟩
    · exact ⟨_, _, _, Tryd.underlying39⟩
    · exact ⟨_, _, _, Tryd.underlying40⟩
    · exact ⟨_, _, _, Tryd.underlying41⟩
    · exact ⟨_, _, _, Tryd.underlying44⟩
    · exact ⟨_, _, _, Tryd.underlying45⟩
    · exact ⟨_, _, _, Tryd.underlying46⟩
    · exact ⟨_, _, _, Tryd.underlying47⟩
    · exact ⟨_, _, _, Tryd.underlying50⟩
    · exact ⟨_, _, _, Tryd.underlying51⟩
    · exact ⟨_, _, _, Tryd.underlying52⟩
    · exact ⟨_, _, _, Tryd.underlying55⟩
    · exact ⟨_, _, _, Tryd.underlying56⟩
    · exact ⟨_, _, _, Tryd.underlying57⟩
    · exact ⟨_, _, _, Tryd.underlying58⟩
    · exact ⟨_, _, _, Tryd.underlying61⟩
    · exact ⟨_, _, _, Tryd.underlying62⟩
    · exact ⟨_, _, _, Tryd.underlying63⟩
    · exact ⟨_, _, _, Tryd.underlying64⟩
    · exact ⟨_, _, _, Tryd.underlying65⟩
    · exact ⟨_, _, _, Tryd.underlying71⟩
    · exact ⟨_, _, _, Tryd.underlying74⟩
  map := by
    intro t k e h; unfold ty at h; split at h <;> cases h
  size := by
    intro t; unfold ty; split <;> intro h <;> first | exact absurd rfl h | kernel_rfl
  zero := by
    intro t z h; unfold ty at h; split at h <;> simp only [zeroC, Option.some.injEq, reduceCtorEq] at h <;> subst h
    · exact ⟨.nilFunc, by kernel_rfl, by kernel_rfl, by kernel_rfl⟩
    · exact ⟨.int .i64 0, by kernel_rfl, by kernel_rfl, by kernel_rfl⟩
    · exact ⟨.int .i64 0, by kernel_rfl, by kernel_rfl, by kernel_rfl⟩
    · exact ⟨.bool false, by kernel_rfl, by kernel_rfl, by kernel_rfl⟩
    · exact ⟨.int .u8 0, by kernel_rfl, by kernel_rfl, by kernel_rfl⟩
    · exact ⟨.string ⟨#[]⟩, by kernel_rfl, by kernel_rfl, by kernel_rfl⟩
    · exact ⟨.int .u64 0, by kernel_rfl, by kernel_rfl, by kernel_rfl⟩
    · exact ⟨.agg ((.cells ([.str []] ++ [.u64 0]) : Cont).vals : List Value).toArray, by kernel_rfl, by rfl, by kernel_rfl⟩
    · exact ⟨.int .i32 0, by kernel_rfl, by kernel_rfl, by kernel_rfl⟩
    · exact ⟨.slice none 0 0, by kernel_rfl, by kernel_rfl, by kernel_rfl⟩
    · exact ⟨.agg ((.u8s (List.replicate 32 0) : Cont).vals : List Value).toArray, by kernel_rfl, by rfl, by kernel_rfl⟩
    · exact ⟨.agg ((.u8s (List.replicate 32 0) : Cont).vals : List Value).toArray, by kernel_rfl, by rfl, by kernel_rfl⟩
    · exact ⟨.slice none 0 0, by kernel_rfl, by kernel_rfl, by kernel_rfl⟩
    · exact ⟨.nilFunc, by kernel_rfl, by kernel_rfl, by kernel_rfl⟩
    · exact ⟨.nilFunc, by kernel_rfl, by kernel_rfl, by kernel_rfl⟩
    · exact ⟨.nilFunc, by kernel_rfl, by kernel_rfl, by kernel_rfl⟩
    · exact ⟨.nilFunc, by kernel_rfl, by kernel_rfl, by kernel_rfl⟩
    · exact ⟨.nilFunc, by kernel_rfl, by kernel_rfl, by kernel_rfl⟩
    · exact ⟨.nilFunc, by kernel_rfl, by kernel_rfl, by kernel_rfl⟩
    · exact ⟨.nilFunc, by kernel_rfl, by kernel_rfl, by kernel_rfl⟩
    · exact ⟨.nilFunc, by kernel_rfl, by kernel_rfl, by kernel_rfl⟩
    · exact ⟨.nilFunc, by kernel_rfl, by kernel_rfl, by kernel_rfl⟩
    · exact ⟨.nilFunc, by kernel_rfl, by kernel_rfl, by kernel_rfl⟩
    · exact ⟨.nilFunc, by kernel_rfl, by kernel_rfl, by kernel_rfl⟩
    · exact ⟨.nilFunc, by kernel_rfl, by kernel_rfl, by kernel_rfl⟩
    · exact ⟨.nilFunc, by kernel_rfl, by kernel_rfl, by kernel_rfl⟩
    · exact ⟨.nilFunc, by kernel_rfl, by kernel_rfl, by kernel_rfl⟩
    · exact ⟨.nilFunc, by kernel_rfl, by kernel_rfl, by kernel_rfl⟩
    · exact ⟨.nilFunc, by kernel_rfl, by kernel_rfl, by kernel_rfl⟩
    · exact ⟨.int .u16 0, by kernel_rfl, by kernel_rfl, by kernel_rfl⟩
    · exact ⟨.int .u64 0, by kernel_rfl, by kernel_rfl, by kernel_rfl⟩
    · exact ⟨.nilFunc, by kernel_rfl, by kernel_rfl, by kernel_rfl⟩
    · exact ⟨.nilFunc, by kernel_rfl, by kernel_rfl, by kernel_rfl⟩
    · exact ⟨.nilFunc, by kernel_rfl, by kernel_rfl, by kernel_rfl⟩
    · exact ⟨.nilFunc, by kernel_rfl, by kernel_rfl, by kernel_rfl⟩
    · exact ⟨.int .u32 0, by kernel_rfl, by kernel_rfl, by kernel_rfl⟩
    · exact ⟨.agg ((.u32s (List.replicate 8 0) : Cont).vals : List Value).toArray, by kernel_rfl, by rfl, by kernel_rfl⟩
    · exact ⟨.nilFunc, by kernel_rfl, by kernel_rfl, by kernel_rfl⟩
    · exact ⟨.nilFunc, by kernel_rfl, by kernel_rfl, by kernel_rfl⟩
    · exact ⟨.nilFunc, by kernel_rfl, by kernel_rfl, by kernel_rfl⟩
    · exact ⟨.agg ((.u8s (List.replicate 64 0) : Cont).vals : List Value).toArray, by kernel_rfl, by rfl, by kernel_rfl⟩
    · exact ⟨.int .u64 0, by kernel_rfl, by kernel_rfl, by kernel_rfl⟩
    · exact ⟨.nilFunc, by kernel_rfl, by kernel_rfl, by kernel_rfl⟩
    · exact ⟨.nilFunc, by kernel_rfl, by kernel_rfl, by kernel_rfl⟩
    · exact ⟨.nilFunc, by kernel_rfl, by kernel_rfl, by kernel_rfl⟩
    · exact ⟨.nilFunc, by kernel_rfl, by kernel_rfl, by kernel_rfl⟩
    · exact ⟨.agg ((.u32s (List.replicate 64 0) : Cont).vals : List Value).toArray, by kernel_rfl, by rfl, by kernel_rfl⟩
    · exact ⟨.nilFunc, by kernel_rfl, by kernel_rfl, by kernel_rfl⟩
    · exact ⟨.nilFunc, by kernel_rfl, by kernel_rfl, by kernel_rfl⟩
    · exact ⟨.nilFunc, by kernel_rfl, by kernel_rfl, by kernel_rfl⟩
    · exact ⟨.nilFunc, by kernel_rfl, by kernel_rfl, by kernel_rfl⟩
    · exact ⟨.nilFunc, by kernel_rfl, by kernel_rfl, by kernel_rfl⟩
    · exact ⟨.nilFunc, by kernel_rfl, by kernel_rfl, by kernel_rfl⟩
    · exact ⟨.nilFunc, by kernel_rfl, by kernel_rfl, by kernel_rfl⟩
@[simp] theorem size_1 : (ty 1).size = 1 := rfl
@[simp] theorem size_2 : (ty 2).size = 1 := rfl
@[simp] theorem size_3 : (ty 3).size = 1 := rfl
@[simp] theorem size_4 : (ty 4).size = 1 := rfl
@[simp] theorem size_5 : (ty 5).size = 1 := rfl
@[simp] theorem size_9 : (ty 9).size = 1 := rfl
@[simp] theorem size_12 : (ty 12).size = 1 := rfl
@[simp] theorem size_13 : (ty 13).size = 2 := rfl
@[simp] theorem size_21 : (ty 21).size = 1 := rfl
@[simp] theorem size_22 : (ty 22).size = 1 := rfl
@[simp] theorem size_23 : (ty 23).size = 32 := rfl
@[simp] theorem size_24 : (ty 24).size = 32 := rfl
@[simp] theorem size_25 : (ty 25).size = 1 := rfl
@[simp] theorem size_26 : (ty 26).size = 1 := rfl
@[simp] theorem size_27 : (ty 27).size = 1 := rfl
@[simp] theorem size_28 : (ty 28).size = 1 := rfl
@[simp] theorem size_29 : (ty 29).size = 1 := rfl
@[simp] theorem size_30 : (ty 30).size = 1 := rfl
@[simp] theorem size_31 : (ty 31).size = 1 := rfl
@[simp] theorem size_32 : (ty 32).size = 1 := rfl
@[simp] theorem size_33 : (ty 33).size = 1 := rfl
@[simp] theorem size_34 : (ty 34).size = 1 := rfl
@[simp] theorem size_35 : (ty 35).size = 1 := rfl
@[simp] theorem size_36 : (ty 36).size = 1 := rfl
@[simp] theorem size_37 : (ty 37).size = 1 := rfl
@[simp] theorem size_38 : (ty 38).size = 1 := rfl
@[simp] theorem size_39 : (ty 39).size = 1 := rfl
@[simp] theorem size_40 : (ty 40).size = 1 := rfl
@[simp] theorem size_41 : (ty 41).size = 1 := rfl
@[simp] theorem size_42 : (ty 42).size = 1 := rfl
@[simp] theorem size_43 : (ty 43).size = 1 := rfl
@[simp] theorem size_44 : (ty 44).size = 1 := rfl
@[simp] theorem size_45 : (ty 45).size = 1 := rfl
@[simp] theorem size_46 : (ty 46).size = 1 := rfl
@[simp] theorem size_47 : (ty 47).size = 1 := rfl
@[simp] theorem size_48 : (ty 48).size = 1 := rfl
@[simp] theorem size_49 : (ty 49).size = 8 := rfl
@[simp] theorem size_50 : (ty 50).size = 1 := rfl
@[simp] theorem size_51 : (ty 51).size = 1 := rfl
@[simp] theorem size_52 : (ty 52).size = 1 := rfl
@[simp] theorem size_53 : (ty 53).size = 64 := rfl
@[simp] theorem size_54 : (ty 54).size = 1 := rfl
@[simp] theorem size_55 : (ty 55).size = 1 := rfl
@[simp] theorem size_56 : (ty 56).size = 1 := rfl
@[simp] theorem size_57 : (ty 57).size = 1 := rfl
@[simp] theorem size_58 : (ty 58).size = 1 := rfl
@[simp] theorem size_59 : (ty 59).size = 1 := rfl
@[simp] theorem size_60 : (ty 60).size = 64 := rfl
@[simp] theorem size_61 : (ty 61).size = 1 := rfl
@[simp] theorem size_62 : (ty 62).size = 1 := rfl
@[simp] theorem size_63 : (ty 63).size = 1 := rfl
@[simp] theorem size_64 : (ty 64).size = 1 := rfl
@[simp] theorem size_65 : (ty 65).size = 1 := rfl
@[simp] theorem size_71 : (ty 71).size = 1 := rfl
@[simp] theorem size_74 : (ty 74).size = 1 := rfl
@[simp] theorem size_75 : (ty 75).size = 1 := rfl

theorem mixed : Tryd.prog.follows .mixedOrders = true := by kernel_rfl
end Go.Proofs.YtdanaehfdbdhdaaDoor
