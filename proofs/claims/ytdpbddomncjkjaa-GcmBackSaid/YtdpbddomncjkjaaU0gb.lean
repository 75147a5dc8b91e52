/- Contracts of the program's functions, and laws over them. There is no further condition. -/
import Derived.Test.YtdpbddomncjkjaaEC
import Derived.Test.YtdpbddomncjkjaaChecked
import Derived.KernelRfl
import Derived.Test.YtdpbddomncjkjaaED
import Derived.Test.YtdpbddomncjkjaaRows
set_option linter.unusedVariables false
set_option linter.unusedSimpArgs false
set_option linter.unusedSectionVars false
set_option exponentiation.threshold 2000
namespace Eng
open Go Go.Proofs
theorem ty3 : tyOf Try.prog 3 = some ⟨.int .i64, 1, 8, [.int .i64 0], false, true, true⟩ := by kernel_rfl
theorem ty5 : tyOf Try.prog 5 = some ⟨.int .u8, 1, 1, [.int .u8 0], false, true, true⟩ := by kernel_rfl
theorem ty9 : tyOf Try.prog 9 = some ⟨.string, 1, 16, [.str ⟨#[]⟩], false, true, true⟩ := by kernel_rfl
theorem ty22 : tyOf Try.prog 22 = some ⟨.array 16 5, 16, 16, ints .u8 (List.replicate 16 0), true, true, true⟩ := by kernel_rfl
theorem ty27 : tyOf Try.prog 27 = some ⟨.slice 5, 1, 24, [.nils], false, true, false⟩ := by kernel_rfl
theorem ty29 : tyOf Try.prog 29 = some ⟨.int .u64, 1, 8, [.int .u64 0], false, true, true⟩ := by kernel_rfl
theorem ty38 : tyOf Try.prog 38 = some ⟨.interface #[("Error", 100)], 1, 16, [.nili], false, true, true⟩ := by kernel_rfl
theorem ty41 : tyOf Try.prog 41 = some ⟨.int .i64, 1, 8, [.int .i64 0], false, true, true⟩ := by kernel_rfl
theorem ty56 : tyOf Try.prog 56 = some ⟨.slice 22, 1, 24, [.nils], false, true, false⟩ := by kernel_rfl
theorem ty65 : tyOf Try.prog 65 = some ⟨.array 32 5, 32, 32, ints .u8 (List.replicate 32 0), true, true, true⟩ := by kernel_rfl
theorem ty74 : tyOf Try.prog 74 = some ⟨.array 12 5, 12, 12, ints .u8 (List.replicate 12 0), true, true, true⟩ := by kernel_rfl
theorem ty76 : tyOf Try.prog 76 = some ⟨.int .u64, 1, 8, [.int .u64 0], false, true, true⟩ := by kernel_rfl
theorem ty88 : tyOf Try.prog 88 = some ⟨.array 4 5, 4, 4, ints .u8 (List.replicate 4 0), true, true, true⟩ := by kernel_rfl
theorem ty89 : tyOf Try.prog 89 = some ⟨.array 60 88, 240, 240, ints .u8 (List.replicate 240 0), true, true, true⟩ := by kernel_rfl
theorem ty91 : tyOf Try.prog 91 = some ⟨.struct #[⟨ "key", 27, 0, false, "", "escutcheon/gcm", 0⟩, ⟨ "nonce", 27, 1, false, "", "escutcheon/gcm", 24⟩], 2, 48, [.nils, .nils], true, true, false⟩ := by kernel_rfl
theorem ty99 : tyOf Try.prog 99 = some ⟨.int .u32, 1, 4, [.int .u32 0], false, true, true⟩ := by kernel_rfl
end Eng


namespace Eng
open Go Go.Proofs
theorem hM0 : Try.prog.follows .mixedOrders = true := by kernel_rfl
def L22r0 : List AOp := [
  ⟨(some 6), .box 65 (.tmp 0), none, 0⟩,
  ⟨(some 7), .box 74 (.tmp 1), none, 0⟩,
  ⟨(some 12), .assign (.const (.bool false)), none, 0⟩]
def L22r1 : List AOp := [
  ⟨(some 26), .call { callee := .value (.func 52), args := #[], argTypes := #[] }, none, 0⟩,
  ⟨(some 13), .assign (.tmp 26), none, 0⟩]
def L22r2 : List AOp := [
  ⟨(some 27), .move (.tmp 2), none, 0⟩,
  ⟨(some 28), .call { callee := .value (.func 53), args := #[.tmp 27, .const (.int .i64 500)], argTypes := #[27, 3] }, none, 0⟩,
  ⟨(some 2), .assign (.tmp 28), none, 0⟩]
def L22r3 : List AOp := [
  ⟨(some 29), .move (.tmp 3), none, 0⟩,
  ⟨(some 30), .call { callee := .value (.func 53), args := #[.tmp 29, .const (.int .i64 500)], argTypes := #[27, 3] }, none, 0⟩,
  ⟨(some 3), .assign (.tmp 30), none, 0⟩]
def L22r4 : List AOp := [
  ⟨(some 14), .assign (.const (.slice none 0 0)), none, 0⟩]
def L22r5 : List AOp := [
  ⟨(some 15), .assign (.const (.int .i64 0)), none, 0⟩]
def L22r6 : List AOp := [
  ⟨(some 31), .move (.tmp 15), none, 0⟩,
  ⟨(some 32), .binOp .lss 3 (.tmp 31) (.const (.int .i64 32)) 3, none, 0⟩]
def L22r8 : List AOp := [
  ⟨(some 35), .move (.tmp 14), none, 0⟩,
  ⟨(some 36), .move (.tmp 15), none, 0⟩,
  ⟨(some 37), .indexAddr 65 (.tmp 6) (.tmp 36), none, 0⟩,
  ⟨(some 38), .load 5 (.tmp 37), none, 0⟩,
  ⟨(some 39), .buildSlice 27 1 #[(0, .tmp 38)], none, 0⟩,
  ⟨(some 40), .call { callee := .builtin .append, args := #[.tmp 35, .tmp 39], argTypes := #[27, 27] }, none, 0⟩,
  ⟨(some 14), .assign (.tmp 40), none, 0⟩]
def L22r7 : List AOp := [
  ⟨(some 33), .move (.tmp 15), none, 0⟩,
  ⟨(some 34), .binOp .add 3 (.tmp 33) (.const (.int .i64 1)) 3, none, 0⟩,
  ⟨(some 15), .assign (.tmp 34), none, 0⟩]
def L22r9 : List AOp := [
  ⟨(some 16), .assign (.const (.slice none 0 0)), none, 0⟩]
def L22r10 : List AOp := [
  ⟨(some 17), .assign (.const (.int .i64 0)), none, 0⟩]
def L22r11 : List AOp := [
  ⟨(some 41), .move (.tmp 17), none, 0⟩,
  ⟨(some 42), .binOp .lss 3 (.tmp 41) (.const (.int .i64 12)) 3, none, 0⟩]
def L22r13 : List AOp := [
  ⟨(some 45), .move (.tmp 16), none, 0⟩,
  ⟨(some 46), .move (.tmp 17), none, 0⟩,
  ⟨(some 47), .indexAddr 74 (.tmp 7) (.tmp 46), none, 0⟩,
  ⟨(some 48), .load 5 (.tmp 47), none, 0⟩,
  ⟨(some 49), .buildSlice 27 1 #[(0, .tmp 48)], none, 0⟩,
  ⟨(some 50), .call { callee := .builtin .append, args := #[.tmp 45, .tmp 49], argTypes := #[27, 27] }, none, 0⟩,
  ⟨(some 16), .assign (.tmp 50), none, 0⟩]
def L22r12 : List AOp := [
  ⟨(some 43), .move (.tmp 17), none, 0⟩,
  ⟨(some 44), .binOp .add 3 (.tmp 43) (.const (.int .i64 1)) 3, none, 0⟩,
  ⟨(some 17), .assign (.tmp 44), none, 0⟩]
def L22r14 : List AOp := [
  ⟨(some 51), .buildSlice 27 0 #[], none, 0⟩,
  ⟨(some 52), .move (.tmp 3), none, 0⟩,
  ⟨(some 53), .call { callee := .builtin .append, args := #[.tmp 51, .tmp 52], argTypes := #[27, 27] }, none, 0⟩,
  ⟨(some 18), .assign (.tmp 53), none, 0⟩]
def L22r15 : List AOp := [
  ⟨(some 55), .move (.tmp 14), none, 0⟩,
  ⟨(some 56), .move (.tmp 16), none, 0⟩,
  ⟨(some 57), .move (.tmp 2), none, 0⟩,
  ⟨(some 58), .move (.tmp 18), none, 0⟩,
  ⟨(some 59), .call { callee := .value (.func 54), args := #[.tmp 55, .tmp 56, .tmp 57, .tmp 58], argTypes := #[27, 27, 27, 27] }, none, 0⟩,
  ⟨(some 54), .move (.tmp 59), none, 0⟩,
  ⟨(some 60), .extract (.tmp 54) 0, none, 0⟩,
  ⟨(some 61), .extract (.tmp 54) 1, none, 0⟩,
  ⟨(some 19), .assign (.tmp 60), none, 0⟩,
  ⟨(some 20), .assign (.tmp 61), none, 0⟩]
def L22r16 : List AOp := [
  ⟨(some 63), .move (.tmp 14), none, 0⟩,
  ⟨(some 64), .move (.tmp 16), none, 0⟩,
  ⟨(some 65), .move (.tmp 2), none, 0⟩,
  ⟨(some 66), .move (.tmp 19), none, 0⟩,
  ⟨(some 67), .call { callee := .value (.func 57), args := #[.tmp 63, .tmp 64, .tmp 65, .tmp 66], argTypes := #[27, 27, 27, 27] }, none, 0⟩,
  ⟨(some 62), .move (.tmp 67), none, 0⟩,
  ⟨(some 68), .extract (.tmp 62) 0, none, 0⟩,
  ⟨(some 69), .extract (.tmp 62) 1, none, 0⟩,
  ⟨(some 21), .assign (.tmp 68), none, 0⟩,
  ⟨(some 22), .assign (.tmp 69), none, 0⟩]
def L22r17 : List AOp := [
  ⟨(some 70), .move (.tmp 20), none, 0⟩,
  ⟨(some 71), .binOp .neq 38 (.tmp 70) (.const .nilIface) 38, none, 0⟩,
  ⟨(some 72), .move (.tmp 71), none, 0⟩,
  ⟨(some 73), .move (.tmp 22), (some (72, false)), 0⟩,
  ⟨(some 74), .binOp .neq 38 (.tmp 73) (.const .nilIface) 38, (some (72, false)), 0⟩,
  ⟨(some 75), .pick (.tmp 72) (.const (.bool true)) (.tmp 74), none, 0⟩,
  ⟨(some 76), .move (.tmp 75), none, 0⟩,
  ⟨(some 77), .move (.tmp 19), (some (76, false)), 0⟩,
  ⟨(some 78), .call { callee := .builtin .len, args := #[.tmp 77], argTypes := #[27] }, (some (76, false)), 0⟩,
  ⟨(some 79), .move (.tmp 3), (some (76, false)), 0⟩,
  ⟨(some 80), .call { callee := .builtin .len, args := #[.tmp 79], argTypes := #[27] }, (some (76, false)), 0⟩,
  ⟨(some 81), .binOp .add 3 (.tmp 80) (.const (.int .i64 16)) 3, (some (76, false)), 0⟩,
  ⟨(some 82), .binOp .neq 3 (.tmp 78) (.tmp 81) 3, (some (76, false)), 0⟩,
  ⟨(some 83), .pick (.tmp 76) (.const (.bool true)) (.tmp 82), none, 0⟩,
  ⟨(some 84), .move (.tmp 83), none, 0⟩,
  ⟨(some 85), .move (.tmp 21), (some (84, false)), 0⟩,
  ⟨(some 86), .convert 27 9 (.tmp 85), (some (84, false)), 0⟩,
  ⟨(some 87), .move (.tmp 3), (some (84, false)), 0⟩,
  ⟨(some 88), .convert 27 9 (.tmp 87), (some (84, false)), 0⟩,
  ⟨(some 89), .binOp .neq 9 (.tmp 86) (.tmp 88) 9, (some (84, false)), 0⟩,
  ⟨(some 90), .pick (.tmp 84) (.const (.bool true)) (.tmp 89), none, 0⟩,
  ⟨(some 91), .move (.tmp 90), none, 0⟩,
  ⟨(some 92), .move (.tmp 18), (some (91, false)), 0⟩,
  ⟨(some 93), .convert 27 9 (.tmp 92), (some (91, false)), 0⟩,
  ⟨(some 94), .move (.tmp 3), (some (91, false)), 0⟩,
  ⟨(some 95), .convert 27 9 (.tmp 94), (some (91, false)), 0⟩,
  ⟨(some 96), .binOp .neq 9 (.tmp 93) (.tmp 95) 9, (some (91, false)), 0⟩,
  ⟨(some 97), .pick (.tmp 91) (.const (.bool true)) (.tmp 96), none, 0⟩]
def L22r18 : List AOp := [
  ⟨(some 12), .assign (.const (.bool false)), none, 0⟩]
def L22r19 : List AOp := [
  ⟨(some 98), .move (.tmp 4), none, 0⟩,
  ⟨(some 99), .binOp .lss 3 (.tmp 98) (.const (.int .i64 0)) 3, none, 0⟩]
def L22r20 : List AOp := [
  ⟨(some 100), .move (.tmp 4), none, 0⟩,
  ⟨(some 101), .binOp .add 3 (.tmp 100) (.const (.int .i64 1)) 3, none, 0⟩,
  ⟨(some 102), .unOp .neg 3 (.tmp 101), none, 0⟩,
  ⟨(some 4), .assign (.tmp 102), none, 0⟩]
def L22r21 : List AOp := [
  ⟨(some 103), .move (.tmp 3), none, 0⟩,
  ⟨(some 104), .call { callee := .builtin .len, args := #[.tmp 103], argTypes := #[27] }, none, 0⟩,
  ⟨(some 105), .move (.tmp 4), none, 0⟩,
  ⟨(some 106), .binOp .rem 3 (.tmp 105) (.const (.int .i64 16)) 3, none, 0⟩,
  ⟨(some 107), .binOp .add 3 (.tmp 104) (.tmp 106) 3, none, 0⟩,
  ⟨(some 23), .assign (.tmp 107), none, 0⟩]
def L22r22 : List AOp := [
  ⟨(some 108), .move (.tmp 19), none, 0⟩,
  ⟨(some 109), .move (.tmp 23), none, 0⟩,
  ⟨(some 110), .move (.tmp 19), none, 0⟩,
  ⟨(some 111), .move (.tmp 23), none, 0⟩,
  ⟨(some 112), .indexAddr 27 (.tmp 110) (.tmp 111), none, 0⟩,
  ⟨(some 113), .load 5 (.tmp 112), none, 0⟩,
  ⟨(some 114), .move (.tmp 5), none, 0⟩,
  ⟨(some 115), .binOp .xor 5 (.tmp 113) (.tmp 114) 5, none, 0⟩,
  ⟨(some 116), .indexAddr 27 (.tmp 108) (.tmp 109), none, 0⟩,
  ⟨none, .store 5 (.tmp 116) (.tmp 115), none, 0⟩]
def L22r23 : List AOp := [
  ⟨(some 118), .move (.tmp 14), none, 0⟩,
  ⟨(some 119), .move (.tmp 16), none, 0⟩,
  ⟨(some 120), .move (.tmp 2), none, 0⟩,
  ⟨(some 121), .move (.tmp 19), none, 0⟩,
  ⟨(some 122), .call { callee := .value (.func 57), args := #[.tmp 118, .tmp 119, .tmp 120, .tmp 121], argTypes := #[27, 27, 27, 27] }, none, 0⟩,
  ⟨(some 117), .move (.tmp 122), none, 0⟩,
  ⟨(some 123), .extract (.tmp 117) 0, none, 0⟩,
  ⟨(some 124), .extract (.tmp 117) 1, none, 0⟩,
  ⟨(some 24), .assign (.tmp 123), none, 0⟩,
  ⟨(some 25), .assign (.tmp 124), none, 0⟩]
def L22r24 : List AOp := [
  ⟨(some 125), .move (.tmp 13), none, 0⟩,
  ⟨(some 126), .move (.tmp 125), none, 0⟩,
  ⟨(some 127), .move (.tmp 5), (some (126, true)), 0⟩,
  ⟨(some 128), .binOp .eql 5 (.tmp 127) (.const (.int .u8 0)) 5, (some (126, true)), 0⟩,
  ⟨(some 129), .move (.tmp 128), (some (126, true)), 0⟩,
  ⟨(some 130), .move (.tmp 25), (some (129, true)), 0⟩,
  ⟨(some 131), .binOp .eql 38 (.tmp 130) (.const .nilIface) 38, (some (129, true)), 0⟩,
  ⟨(some 132), .pick (.tmp 129) (.tmp 131) (.const (.bool false)), (some (126, true)), 0⟩,
  ⟨(some 133), .move (.tmp 132), (some (126, true)), 0⟩,
  ⟨(some 134), .move (.tmp 5), (some (133, false)), 0⟩,
  ⟨(some 135), .binOp .neq 5 (.tmp 134) (.const (.int .u8 0)) 5, (some (133, false)), 0⟩,
  ⟨(some 136), .move (.tmp 135), (some (133, false)), 0⟩,
  ⟨(some 137), .move (.tmp 25), (some (136, true)), 0⟩,
  ⟨(some 138), .makeInterface 41 (.const (.int .i64 5)), (some (136, true)), 0⟩,
  ⟨(some 139), .binOp .eql 38 (.tmp 137) (.tmp 138) 38, (some (136, true)), 0⟩,
  ⟨(some 140), .pick (.tmp 136) (.tmp 139) (.const (.bool false)), (some (133, false)), 0⟩,
  ⟨(some 141), .pick (.tmp 133) (.const (.bool true)) (.tmp 140), (some (126, true)), 0⟩,
  ⟨(some 142), .pick (.tmp 126) (.tmp 141) (.const (.bool false)), none, 0⟩,
  ⟨(some 12), .assign (.tmp 142), none, 0⟩]
def L22 : LC := (.seq (.region L22r0) (.seq (.region L22r1) (.seq (.region L22r2) (.seq (.region L22r3) (.seq (.region L22r4) (.seq (.seq (.region L22r5) (.block 0 (.loop (.seq (.seq (.region L22r6) (.cond (.tmp 32) .skip (.exit 0))) (.seq (.block 1 (.region L22r8)) (.region L22r7)))))) (.seq (.region L22r9) (.seq (.seq (.region L22r10) (.block 2 (.loop (.seq (.seq (.region L22r11) (.cond (.tmp 42) .skip (.exit 2))) (.seq (.block 3 (.region L22r13)) (.region L22r12)))))) (.seq (.region L22r14) (.seq (.region L22r15) (.seq (.region L22r16) (.seq (.seq (.region L22r17) (.cond (.tmp 97) (.seq (.region L22r18) .ret) .skip)) (.seq (.seq (.region L22r19) (.cond (.tmp 99) (.region L22r20) .skip)) (.seq (.region L22r21) (.seq (.region L22r22) (.seq (.region L22r23) (.seq (.region L22r24) .ret)))))))))))))))))
theorem nt22 : Try.f22.ntmps = 143 := by kernel_rfl
theorem rs22 : Try.f22.results.toList = [.tmp 12] := by kernel_rfl
theorem lite22 : Try.f22.body.map (lite okDraw) = some L22 := by kernel_rfl
def L23r0 : List AOp := [
  ⟨(some 1), .box 22 (.tmp 0), none, 0⟩,
  ⟨(some 2), .alloc 22, none, 0⟩]
def L23r1 : List AOp := [
  ⟨(some 3), .alloc 22, none, 0⟩]
def L23r2 : List AOp := [
  ⟨(some 5), .move (.const (.int .i64 0)), none, 0⟩]
def L23r3 : List AOp := [
  ⟨(some 6), .binOp .lss 3 (.tmp 5) (.const (.int .i64 16)) 3, none, 0⟩]
def L23r4 : List AOp := [
  ⟨(some 7), .move (.tmp 5), none, 0⟩,
  ⟨(some 4), .assign (.tmp 7), none, 0⟩]
def L23r5 : List AOp := [
  ⟨(some 8), .move (.tmp 4), none, 0⟩,
  ⟨(some 9), .move (.tmp 4), none, 0⟩,
  ⟨(some 10), .move (.tmp 4), none, 0⟩,
  ⟨(some 11), .binOp .rem 3 (.tmp 10) (.const (.int .i64 4)) 3, none, 0⟩,
  ⟨(some 12), .binOp .mul 3 (.const (.int .i64 4)) (.tmp 11) 3, none, 0⟩,
  ⟨(some 13), .binOp .add 3 (.tmp 9) (.tmp 12) 3, none, 0⟩,
  ⟨(some 14), .binOp .rem 3 (.tmp 13) (.const (.int .i64 16)) 3, none, 0⟩,
  ⟨(some 15), .indexAddr 22 (.tmp 1) (.tmp 14), none, 0⟩,
  ⟨(some 16), .load 5 (.tmp 15), none, 0⟩,
  ⟨(some 17), .indexAddr 22 (.tmp 3) (.tmp 8), none, 0⟩,
  ⟨none, .store 5 (.tmp 17) (.tmp 16), none, 0⟩]
def L23r6 : List AOp := [
  ⟨(some 18), .binOp .add 3 (.tmp 5) (.const (.int .i64 1)) 3, none, 0⟩,
  ⟨(some 5), .move (.tmp 18), none, 0⟩]
def L23r7 : List AOp := [
  ⟨(some 19), .load 22 (.tmp 3), none, 0⟩,
  ⟨none, .store 22 (.tmp 2) (.tmp 19), none, 0⟩]
def L23 : LC := (.seq (.region L23r0) (.seq (.region L23r1) (.seq (.seq (.region L23r2) (.block 0 (.loop (.seq (.region L23r3) (.seq (.cond (.tmp 6) .skip (.exit 0)) (.seq (.block 1 (.seq (.region L23r4) (.region L23r5))) (.region L23r6))))))) (.seq (.region L23r7) .ret))))
theorem nt23 : Try.f23.ntmps = 20 := by kernel_rfl
theorem rs23 : Try.f23.results.toList = [.cell 2 22] := by kernel_rfl
theorem lite23 : Try.f23.body.map (lite okDraw) = some L23 := by kernel_rfl
def L25r0 : List AOp := [
  ⟨(some 4), .assign (.const (.int .u8 0)), none, 0⟩]
def L25r1 : List AOp := [
  ⟨(some 5), .assign (.const (.int .u8 0)), none, 0⟩]
def L25r2 : List AOp := [
  ⟨(some 7), .move (.const (.int .i64 0)), none, 0⟩]
def L25r3 : List AOp := [
  ⟨(some 8), .binOp .lss 3 (.tmp 7) (.const (.int .i64 8)) 3, none, 0⟩]
def L25r4 : List AOp := [
  ⟨(some 9), .move (.tmp 7), none, 0⟩,
  ⟨(some 6), .assign (.tmp 9), none, 0⟩]
def L25r5 : List AOp := [
  ⟨(some 10), .move (.tmp 5), none, 0⟩,
  ⟨(some 11), .move (.tmp 0), none, 0⟩,
  ⟨(some 12), .move (.tmp 1), none, 0⟩,
  ⟨(some 13), .move (.tmp 6), none, 0⟩,
  ⟨(some 14), .binOp .shr 5 (.tmp 12) (.tmp 13) 3, none, 0⟩,
  ⟨(some 15), .binOp .and 5 (.tmp 14) (.const (.int .u8 1)) 5, none, 0⟩,
  ⟨(some 16), .unOp .neg 5 (.tmp 15), none, 0⟩,
  ⟨(some 17), .binOp .and 5 (.tmp 11) (.tmp 16) 5, none, 0⟩,
  ⟨(some 18), .binOp .xor 5 (.tmp 10) (.tmp 17) 5, none, 0⟩,
  ⟨(some 5), .assign (.tmp 18), none, 0⟩]
def L25r6 : List AOp := [
  ⟨(some 19), .move (.tmp 0), none, 0⟩,
  ⟨(some 20), .binOp .shl 5 (.tmp 19) (.const (.int .u64 1)) 76, none, 0⟩,
  ⟨(some 21), .move (.tmp 0), none, 0⟩,
  ⟨(some 22), .binOp .shr 5 (.tmp 21) (.const (.int .u64 7)) 76, none, 0⟩,
  ⟨(some 23), .unOp .neg 5 (.tmp 22), none, 0⟩,
  ⟨(some 24), .binOp .and 5 (.const (.int .u8 27)) (.tmp 23) 5, none, 0⟩,
  ⟨(some 25), .binOp .xor 5 (.tmp 20) (.tmp 24) 5, none, 0⟩,
  ⟨(some 0), .assign (.tmp 25), none, 0⟩]
def L25r7 : List AOp := [
  ⟨(some 26), .binOp .add 3 (.tmp 7) (.const (.int .i64 1)) 3, none, 0⟩,
  ⟨(some 7), .move (.tmp 26), none, 0⟩]
def L25r8 : List AOp := [
  ⟨(some 27), .move (.tmp 5), none, 0⟩,
  ⟨(some 4), .assign (.tmp 27), none, 0⟩]
def L25 : LC := (.seq (.region L25r0) (.seq (.region L25r1) (.seq (.seq (.region L25r2) (.block 0 (.loop (.seq (.region L25r3) (.seq (.cond (.tmp 8) .skip (.exit 0)) (.seq (.block 1 (.seq (.region L25r4) (.seq (.region L25r5) (.region L25r6)))) (.region L25r7))))))) (.seq (.region L25r8) .ret))))
theorem nt25 : Try.f25.ntmps = 28 := by kernel_rfl
theorem rs25 : Try.f25.results.toList = [.tmp 4] := by kernel_rfl
theorem lite25 : Try.f25.body.map (lite okDraw) = some L25 := by kernel_rfl
def L27r0 : List AOp := [
  ⟨(some 4), .assign (.const (.bool false)), none, 0⟩]
def L27r1 : List AOp := [
  ⟨(some 7), .move (.tmp 0), none, 0⟩,
  ⟨(some 8), .call { callee := .builtin .len, args := #[.tmp 7], argTypes := #[27] }, none, 0⟩,
  ⟨(some 9), .move (.tmp 1), none, 0⟩,
  ⟨(some 10), .call { callee := .builtin .len, args := #[.tmp 9], argTypes := #[27] }, none, 0⟩,
  ⟨(some 11), .binOp .neq 3 (.tmp 8) (.tmp 10) 3, none, 0⟩]
def L27r2 : List AOp := [
  ⟨(some 4), .assign (.const (.bool false)), none, 0⟩]
def L27r3 : List AOp := [
  ⟨(some 5), .assign (.const (.int .u8 0)), none, 0⟩]
def L27r4 : List AOp := [
  ⟨(some 12), .move (.tmp 0), none, 0⟩,
  ⟨(some 13), .call { callee := .builtin .len, args := #[.tmp 12], argTypes := #[27] }, none, 0⟩,
  ⟨(some 14), .move (.const (.int .i64 0)), none, 0⟩]
def L27r5 : List AOp := [
  ⟨(some 15), .binOp .lss 3 (.tmp 14) (.tmp 13) 3, none, 0⟩]
def L27r6 : List AOp := [
  ⟨(some 16), .move (.tmp 14), none, 0⟩,
  ⟨(some 6), .assign (.tmp 16), none, 0⟩]
def L27r7 : List AOp := [
  ⟨(some 17), .move (.tmp 5), none, 0⟩,
  ⟨(some 18), .move (.tmp 0), none, 0⟩,
  ⟨(some 19), .move (.tmp 6), none, 0⟩,
  ⟨(some 20), .indexAddr 27 (.tmp 18) (.tmp 19), none, 6⟩,
  ⟨(some 21), .load 5 (.tmp 20), none, 14⟩,
  ⟨(some 22), .move (.tmp 1), none, 0⟩,
  ⟨(some 23), .move (.tmp 6), none, 0⟩,
  ⟨(some 24), .indexAddr 27 (.tmp 22) (.tmp 23), none, 96⟩,
  ⟨(some 25), .load 5 (.tmp 24), none, 224⟩,
  ⟨(some 26), .binOp .xor 5 (.tmp 21) (.tmp 25) 5, none, 510⟩,
  ⟨(some 27), .binOp .or 5 (.tmp 17) (.tmp 26) 5, none, 1267650600228229401496703206399⟩,
  ⟨(some 5), .assign (.tmp 27), none, 1267650600228229401496703207423⟩]
def L27r8 : List AOp := [
  ⟨(some 28), .binOp .add 3 (.tmp 14) (.const (.int .i64 1)) 3, none, 0⟩,
  ⟨(some 14), .move (.tmp 28), none, 0⟩]
def L27r9 : List AOp := [
  ⟨(some 29), .move (.tmp 5), none, 0⟩,
  ⟨(some 30), .binOp .eql 5 (.tmp 29) (.const (.int .u8 0)) 5, none, 0⟩,
  ⟨(some 4), .assign (.tmp 30), none, 0⟩]
def L27 : LC := (.seq (.region L27r0) (.seq (.seq (.region L27r1) (.cond (.tmp 11) (.seq (.region L27r2) .ret) .skip)) (.seq (.region L27r3) (.seq (.seq (.region L27r4) (.block 0 (.loop (.seq (.region L27r5) (.seq (.cond (.tmp 15) .skip (.exit 0)) (.seq (.block 1 (.seq (.region L27r6) (.regionD L27r7))) (.region L27r8))))))) (.seq (.region L27r9) .ret)))))
theorem nt27 : Try.f27.ntmps = 31 := by kernel_rfl
theorem rs27 : Try.f27.results.toList = [.tmp 4] := by kernel_rfl
theorem lite27 : Try.f27.body.map (lite okDraw) = some L27 := by kernel_rfl
def L30r0 : List AOp := [
  ⟨(some 2), .box 22 (.tmp 0), none, 0⟩,
  ⟨(some 3), .box 22 (.tmp 1), none, 0⟩,
  ⟨(some 4), .alloc 22, none, 0⟩]
def L30r1 : List AOp := [
  ⟨(some 5), .alloc 22, none, 0⟩]
def L30r2 : List AOp := [
  ⟨(some 11), .move (.const (.int .i64 0)), none, 0⟩]
def L30r3 : List AOp := [
  ⟨(some 12), .binOp .lss 3 (.tmp 11) (.const (.int .i64 128)) 3, none, 0⟩]
def L30r4 : List AOp := [
  ⟨(some 13), .move (.tmp 11), none, 0⟩,
  ⟨(some 6), .assign (.tmp 13), none, 0⟩]
def L30r5 : List AOp := [
  ⟨(some 14), .move (.tmp 6), none, 0⟩,
  ⟨(some 15), .binOp .quo 3 (.tmp 14) (.const (.int .i64 8)) 3, none, 0⟩,
  ⟨(some 16), .indexAddr 22 (.tmp 2) (.tmp 15), none, 0⟩,
  ⟨(some 17), .load 5 (.tmp 16), none, 0⟩,
  ⟨(some 18), .move (.tmp 6), none, 0⟩,
  ⟨(some 19), .binOp .rem 3 (.tmp 18) (.const (.int .i64 8)) 3, none, 0⟩,
  ⟨(some 20), .binOp .sub 3 (.const (.int .i64 7)) (.tmp 19) 3, none, 0⟩,
  ⟨(some 21), .binOp .shr 5 (.tmp 17) (.tmp 20) 3, none, 0⟩,
  ⟨(some 22), .binOp .and 5 (.tmp 21) (.const (.int .u8 1)) 5, none, 0⟩,
  ⟨(some 23), .unOp .neg 5 (.tmp 22), none, 0⟩,
  ⟨(some 7), .assign (.tmp 23), none, 0⟩]
def L30r6 : List AOp := [
  ⟨(some 24), .move (.const (.int .i64 0)), none, 0⟩]
def L30r7 : List AOp := [
  ⟨(some 25), .binOp .lss 3 (.tmp 24) (.const (.int .i64 16)) 3, none, 0⟩]
def L30r8 : List AOp := [
  ⟨(some 26), .move (.tmp 24), none, 0⟩,
  ⟨(some 8), .assign (.tmp 26), none, 0⟩]
def L30r9 : List AOp := [
  ⟨(some 27), .move (.tmp 8), none, 0⟩,
  ⟨(some 28), .indexAddr 22 (.tmp 5) (.tmp 27), none, 1⟩,
  ⟨(some 29), .load 5 (.tmp 28), none, 3⟩,
  ⟨(some 30), .move (.tmp 8), none, 0⟩,
  ⟨(some 31), .indexAddr 22 (.tmp 3) (.tmp 30), none, 8⟩,
  ⟨(some 32), .load 5 (.tmp 31), none, 24⟩,
  ⟨(some 33), .move (.tmp 7), none, 0⟩,
  ⟨(some 34), .binOp .and 5 (.tmp 32) (.tmp 33) 5, none, 120⟩,
  ⟨(some 35), .binOp .xor 5 (.tmp 29) (.tmp 34) 5, none, 1267650600228229401496703205631⟩,
  ⟨(some 36), .indexAddr 22 (.tmp 5) (.tmp 27), none, 1267650600228229401496703205887⟩,
  ⟨none, .store 5 (.tmp 36) (.tmp 35), none, 1267650600228229401496703206399⟩]
def L30r10 : List AOp := [
  ⟨(some 37), .binOp .add 3 (.tmp 24) (.const (.int .i64 1)) 3, none, 0⟩,
  ⟨(some 24), .move (.tmp 37), none, 0⟩]
def L30r11 : List AOp := [
  ⟨(some 38), .indexAddr 22 (.tmp 3) (.const (.int .i64 15)), none, 0⟩,
  ⟨(some 39), .load 5 (.tmp 38), none, 0⟩,
  ⟨(some 40), .binOp .and 5 (.tmp 39) (.const (.int .u8 1)) 5, none, 0⟩,
  ⟨(some 41), .unOp .neg 5 (.tmp 40), none, 0⟩,
  ⟨(some 9), .assign (.tmp 41), none, 0⟩]
def L30r12 : List AOp := [
  ⟨(some 10), .assign (.const (.int .i64 15)), none, 0⟩]
def L30r13 : List AOp := [
  ⟨(some 42), .move (.tmp 10), none, 0⟩,
  ⟨(some 43), .binOp .gtr 3 (.tmp 42) (.const (.int .i64 0)) 3, none, 0⟩]
def L30r15 : List AOp := [
  ⟨(some 46), .move (.tmp 10), none, 0⟩,
  ⟨(some 47), .move (.tmp 10), none, 0⟩,
  ⟨(some 48), .indexAddr 22 (.tmp 3) (.tmp 47), none, 2⟩,
  ⟨(some 49), .load 5 (.tmp 48), none, 6⟩,
  ⟨(some 50), .binOp .shr 5 (.tmp 49) (.const (.int .u64 1)) 76, none, 14⟩,
  ⟨(some 51), .move (.tmp 10), none, 0⟩,
  ⟨(some 52), .binOp .sub 3 (.tmp 51) (.const (.int .i64 1)) 3, none, 32⟩,
  ⟨(some 53), .indexAddr 22 (.tmp 3) (.tmp 52), none, 96⟩,
  ⟨(some 54), .load 5 (.tmp 53), none, 224⟩,
  ⟨(some 55), .binOp .shl 5 (.tmp 54) (.const (.int .u64 7)) 76, none, 480⟩,
  ⟨(some 56), .binOp .or 5 (.tmp 50) (.tmp 55) 5, none, 1022⟩,
  ⟨(some 57), .indexAddr 22 (.tmp 3) (.tmp 46), none, 1267650600228229401496703207423⟩,
  ⟨none, .store 5 (.tmp 57) (.tmp 56), none, 1267650600228229401496703209471⟩]
def L30r14 : List AOp := [
  ⟨(some 44), .move (.tmp 10), none, 0⟩,
  ⟨(some 45), .binOp .sub 3 (.tmp 44) (.const (.int .i64 1)) 3, none, 0⟩,
  ⟨(some 10), .assign (.tmp 45), none, 0⟩]
def L30r16 : List AOp := [
  ⟨(some 58), .indexAddr 22 (.tmp 3) (.const (.int .i64 0)), none, 0⟩,
  ⟨(some 59), .load 5 (.tmp 58), none, 0⟩,
  ⟨(some 60), .binOp .shr 5 (.tmp 59) (.const (.int .u64 1)) 76, none, 0⟩,
  ⟨(some 61), .move (.tmp 9), none, 0⟩,
  ⟨(some 62), .binOp .and 5 (.const (.int .u8 225)) (.tmp 61) 5, none, 0⟩,
  ⟨(some 63), .binOp .xor 5 (.tmp 60) (.tmp 62) 5, none, 0⟩,
  ⟨(some 64), .indexAddr 22 (.tmp 3) (.const (.int .i64 0)), none, 0⟩,
  ⟨none, .store 5 (.tmp 64) (.tmp 63), none, 0⟩]
def L30r17 : List AOp := [
  ⟨(some 65), .binOp .add 3 (.tmp 11) (.const (.int .i64 1)) 3, none, 0⟩,
  ⟨(some 11), .move (.tmp 65), none, 0⟩]
def L30r18 : List AOp := [
  ⟨(some 66), .load 22 (.tmp 5), none, 0⟩,
  ⟨none, .store 22 (.tmp 4) (.tmp 66), none, 0⟩]
def L30 : LC := (.seq (.region L30r0) (.seq (.region L30r1) (.seq (.seq (.region L30r2) (.block 0 (.loop (.seq (.region L30r3) (.seq (.cond (.tmp 12) .skip (.exit 0)) (.seq (.block 1 (.seq (.region L30r4) (.seq (.region L30r5) (.seq (.seq (.region L30r6) (.block 2 (.loop (.seq (.region L30r7) (.seq (.cond (.tmp 25) .skip (.exit 2)) (.seq (.block 3 (.seq (.region L30r8) (.regionD L30r9))) (.region L30r10))))))) (.seq (.region L30r11) (.seq (.seq (.region L30r12) (.block 4 (.loop (.seq (.seq (.region L30r13) (.cond (.tmp 43) .skip (.exit 4))) (.seq (.block 5 (.regionD L30r15)) (.region L30r14)))))) (.region L30r16))))))) (.region L30r17))))))) (.seq (.region L30r18) .ret))))
theorem nt30 : Try.f30.ntmps = 67 := by kernel_rfl
theorem rs30 : Try.f30.results.toList = [.cell 4 22] := by kernel_rfl
theorem lite30 : Try.f30.body.map (lite okDraw) = some L30 := by kernel_rfl
def L36r0 : List AOp := [
  ⟨(some 1), .box 22 (.tmp 0), none, 0⟩,
  ⟨(some 2), .alloc 22, none, 0⟩]
def L36r1 : List AOp := [
  ⟨(some 3), .alloc 22, none, 0⟩]
def L36r2 : List AOp := [
  ⟨(some 7), .move (.const (.int .i64 0)), none, 0⟩]
def L36r3 : List AOp := [
  ⟨(some 8), .binOp .lss 3 (.tmp 7) (.const (.int .i64 4)) 3, none, 0⟩]
def L36r4 : List AOp := [
  ⟨(some 9), .move (.tmp 7), none, 0⟩,
  ⟨(some 4), .alloc 3, none, 0⟩,
  ⟨none, .store 3 (.tmp 4) (.tmp 9), none, 0⟩]
def L36r5 : List AOp := [
  ⟨(some 10), .move (.const (.int .i64 0)), none, 0⟩]
def L36r6 : List AOp := [
  ⟨(some 11), .binOp .lss 3 (.tmp 10) (.const (.int .i64 4)) 3, none, 0⟩]
def L36r7 : List AOp := [
  ⟨(some 12), .move (.tmp 10), none, 0⟩,
  ⟨(some 5), .alloc 3, none, 0⟩,
  ⟨none, .store 3 (.tmp 5) (.tmp 12), none, 0⟩]
def L36r8 : List AOp := [
  ⟨(some 13), .makeFunc (.func 64) #[] #[.tmp 1, .tmp 4, .tmp 5], none, 0⟩,
  ⟨(some 6), .assign (.tmp 13), none, 0⟩]
def L36r9 : List AOp := [
  ⟨(some 14), .load 3 (.tmp 4), none, 0⟩,
  ⟨(some 15), .binOp .mul 3 (.const (.int .i64 4)) (.tmp 14) 3, none, 1⟩,
  ⟨(some 16), .load 3 (.tmp 5), none, 0⟩,
  ⟨(some 17), .binOp .add 3 (.tmp 15) (.tmp 16) 3, none, 7⟩,
  ⟨(some 18), .move (.tmp 6), none, 0⟩,
  ⟨(some 19), .call { callee := .value (.tmp 18), args := #[.const (.int .i64 0)], argTypes := #[3] }, none, 16⟩,
  ⟨(some 20), .call { callee := .value (.func 25), args := #[.const (.int .u8 2), .tmp 19], argTypes := #[5, 5] }, none, 48⟩,
  ⟨(some 21), .move (.tmp 6), none, 0⟩,
  ⟨(some 22), .call { callee := .value (.tmp 21), args := #[.const (.int .i64 1)], argTypes := #[3] }, none, 240⟩,
  ⟨(some 23), .call { callee := .value (.func 25), args := #[.const (.int .u8 3), .tmp 22], argTypes := #[5, 5] }, none, 496⟩,
  ⟨(some 24), .binOp .xor 5 (.tmp 20) (.tmp 23) 5, none, 1008⟩,
  ⟨(some 25), .move (.tmp 6), none, 0⟩,
  ⟨(some 26), .call { callee := .value (.tmp 25), args := #[.const (.int .i64 2)], argTypes := #[3] }, none, 3056⟩,
  ⟨(some 27), .binOp .xor 5 (.tmp 24) (.tmp 26) 5, none, 8176⟩,
  ⟨(some 28), .move (.tmp 6), none, 0⟩,
  ⟨(some 29), .call { callee := .value (.tmp 28), args := #[.const (.int .i64 3)], argTypes := #[3] }, none, 23536⟩,
  ⟨(some 30), .binOp .xor 5 (.tmp 27) (.tmp 29) 5, none, 65520⟩,
  ⟨(some 31), .indexAddr 22 (.tmp 3) (.tmp 17), none, 1267650600228229401496703336447⟩,
  ⟨none, .store 5 (.tmp 31) (.tmp 30), none, 1267650600228229401496703467519⟩]
def L36r10 : List AOp := [
  ⟨(some 32), .binOp .add 3 (.tmp 10) (.const (.int .i64 1)) 3, none, 0⟩,
  ⟨(some 10), .move (.tmp 32), none, 0⟩]
def L36r11 : List AOp := [
  ⟨(some 33), .binOp .add 3 (.tmp 7) (.const (.int .i64 1)) 3, none, 0⟩,
  ⟨(some 7), .move (.tmp 33), none, 0⟩]
def L36r12 : List AOp := [
  ⟨(some 34), .load 22 (.tmp 3), none, 0⟩,
  ⟨none, .store 22 (.tmp 2) (.tmp 34), none, 0⟩]
def L36 : LC := (.seq (.region L36r0) (.seq (.region L36r1) (.seq (.seq (.region L36r2) (.block 0 (.loop (.seq (.region L36r3) (.seq (.cond (.tmp 8) .skip (.exit 0)) (.seq (.block 1 (.seq (.region L36r4) (.seq (.region L36r5) (.block 2 (.loop (.seq (.region L36r6) (.seq (.cond (.tmp 11) .skip (.exit 2)) (.seq (.block 3 (.seq (.region L36r7) (.seq (.region L36r8) (.regionD L36r9)))) (.region L36r10))))))))) (.region L36r11))))))) (.seq (.region L36r12) .ret))))
theorem nt36 : Try.f36.ntmps = 35 := by kernel_rfl
theorem rs36 : Try.f36.results.toList = [.cell 2 22] := by kernel_rfl
theorem lite36 : Try.f36.body.map (lite okDraw) = some L36 := by kernel_rfl
def L38r0 : List AOp := [
  ⟨(some 2), .assign (.const (.int .u8 0)), none, 0⟩]
def L38r1 : List AOp := [
  ⟨(some 5), .move (.tmp 0), none, 0⟩,
  ⟨(some 3), .assign (.const (.int .u8 1)), none, 0⟩,
  ⟨(some 4), .assign (.tmp 5), none, 0⟩]
def L38r2 : List AOp := [
  ⟨(some 6), .move (.const (.int .i64 0)), none, 0⟩]
def L38r3 : List AOp := [
  ⟨(some 7), .binOp .lss 3 (.tmp 6) (.const (.int .i64 7)) 3, none, 0⟩]
def L38r4 : List AOp := [
  ⟨(some 8), .move (.tmp 4), none, 0⟩,
  ⟨(some 9), .move (.tmp 4), none, 0⟩,
  ⟨(some 10), .call { callee := .value (.func 25), args := #[.tmp 8, .tmp 9], argTypes := #[5, 5] }, none, 0⟩,
  ⟨(some 4), .assign (.tmp 10), none, 0⟩]
def L38r5 : List AOp := [
  ⟨(some 11), .move (.tmp 3), none, 0⟩,
  ⟨(some 12), .move (.tmp 4), none, 0⟩,
  ⟨(some 13), .call { callee := .value (.func 25), args := #[.tmp 11, .tmp 12], argTypes := #[5, 5] }, none, 0⟩,
  ⟨(some 3), .assign (.tmp 13), none, 0⟩]
def L38r6 : List AOp := [
  ⟨(some 14), .binOp .add 3 (.tmp 6) (.const (.int .i64 1)) 3, none, 0⟩,
  ⟨(some 6), .move (.tmp 14), none, 0⟩]
def L38r7 : List AOp := [
  ⟨(some 15), .move (.tmp 3), none, 0⟩,
  ⟨(some 16), .move (.tmp 3), none, 0⟩,
  ⟨(some 17), .call { callee := .value (.func 65), args := #[.tmp 16, .const (.int .i64 1)], argTypes := #[5, 3] }, none, 0⟩,
  ⟨(some 18), .binOp .xor 5 (.tmp 15) (.tmp 17) 5, none, 0⟩,
  ⟨(some 19), .move (.tmp 3), none, 0⟩,
  ⟨(some 20), .call { callee := .value (.func 65), args := #[.tmp 19, .const (.int .i64 2)], argTypes := #[5, 3] }, none, 0⟩,
  ⟨(some 21), .binOp .xor 5 (.tmp 18) (.tmp 20) 5, none, 0⟩,
  ⟨(some 22), .move (.tmp 3), none, 0⟩,
  ⟨(some 23), .call { callee := .value (.func 65), args := #[.tmp 22, .const (.int .i64 3)], argTypes := #[5, 3] }, none, 0⟩,
  ⟨(some 24), .binOp .xor 5 (.tmp 21) (.tmp 23) 5, none, 0⟩,
  ⟨(some 25), .move (.tmp 3), none, 0⟩,
  ⟨(some 26), .call { callee := .value (.func 65), args := #[.tmp 25, .const (.int .i64 4)], argTypes := #[5, 3] }, none, 0⟩,
  ⟨(some 27), .binOp .xor 5 (.tmp 24) (.tmp 26) 5, none, 0⟩,
  ⟨(some 28), .binOp .xor 5 (.tmp 27) (.const (.int .u8 99)) 5, none, 0⟩,
  ⟨(some 2), .assign (.tmp 28), none, 0⟩]
def L38 : LC := (.seq (.region L38r0) (.seq (.region L38r1) (.seq (.seq (.region L38r2) (.block 0 (.loop (.seq (.region L38r3) (.seq (.cond (.tmp 7) .skip (.exit 0)) (.seq (.block 1 (.seq (.region L38r4) (.region L38r5))) (.region L38r6))))))) (.seq (.region L38r7) .ret))))
theorem nt38 : Try.f38.ntmps = 29 := by kernel_rfl
theorem rs38 : Try.f38.results.toList = [.tmp 2] := by kernel_rfl
theorem lite38 : Try.f38.body.map (lite okDraw) = some L38 := by kernel_rfl
def L45r0 : List AOp := [
  ⟨(some 3), .box 22 (.tmp 0), none, 0⟩,
  ⟨(some 6), .alloc 22, none, 0⟩]
def L45r1 : List AOp := [
  ⟨(some 7), .alloc 22, none, 0⟩]
def L45r2 : List AOp := [
  ⟨(some 9), .move (.const (.int .i64 0)), none, 0⟩]
def L45r3 : List AOp := [
  ⟨(some 10), .binOp .lss 3 (.tmp 9) (.const (.int .i64 8)) 3, none, 0⟩]
def L45r4 : List AOp := [
  ⟨(some 11), .move (.tmp 9), none, 0⟩,
  ⟨(some 8), .assign (.tmp 11), none, 0⟩]
def L45r5 : List AOp := [
  ⟨(some 12), .move (.tmp 8), none, 0⟩,
  ⟨(some 13), .binOp .sub 3 (.const (.int .i64 7)) (.tmp 12) 3, none, 0⟩,
  ⟨(some 14), .move (.tmp 1), none, 0⟩,
  ⟨(some 15), .call { callee := .builtin .len, args := #[.tmp 14], argTypes := #[27] }, none, 0⟩,
  ⟨(some 16), .convert 3 29 (.tmp 15), none, 0⟩,
  ⟨(some 17), .binOp .mul 29 (.tmp 16) (.const (.int .u64 8)) 29, none, 0⟩,
  ⟨(some 18), .move (.tmp 8), none, 0⟩,
  ⟨(some 19), .binOp .mul 3 (.const (.int .i64 8)) (.tmp 18) 3, none, 0⟩,
  ⟨(some 20), .binOp .shr 29 (.tmp 17) (.tmp 19) 3, none, 0⟩,
  ⟨(some 21), .convert 29 5 (.tmp 20), none, 0⟩,
  ⟨(some 22), .indexAddr 22 (.tmp 7) (.tmp 13), none, 0⟩,
  ⟨none, .store 5 (.tmp 22) (.tmp 21), none, 0⟩]
def L45r6 : List AOp := [
  ⟨(some 23), .move (.tmp 8), none, 0⟩,
  ⟨(some 24), .binOp .sub 3 (.const (.int .i64 15)) (.tmp 23) 3, none, 0⟩,
  ⟨(some 25), .move (.tmp 2), none, 0⟩,
  ⟨(some 26), .call { callee := .builtin .len, args := #[.tmp 25], argTypes := #[27] }, none, 0⟩,
  ⟨(some 27), .convert 3 29 (.tmp 26), none, 0⟩,
  ⟨(some 28), .binOp .mul 29 (.tmp 27) (.const (.int .u64 8)) 29, none, 0⟩,
  ⟨(some 29), .move (.tmp 8), none, 0⟩,
  ⟨(some 30), .binOp .mul 3 (.const (.int .i64 8)) (.tmp 29) 3, none, 0⟩,
  ⟨(some 31), .binOp .shr 29 (.tmp 28) (.tmp 30) 3, none, 0⟩,
  ⟨(some 32), .convert 29 5 (.tmp 31), none, 0⟩,
  ⟨(some 33), .indexAddr 22 (.tmp 7) (.tmp 24), none, 0⟩,
  ⟨none, .store 5 (.tmp 33) (.tmp 32), none, 0⟩]
def L45r7 : List AOp := [
  ⟨(some 34), .binOp .add 3 (.tmp 9) (.const (.int .i64 1)) 3, none, 0⟩,
  ⟨(some 9), .move (.tmp 34), none, 0⟩]
def L45r8 : List AOp := [
  ⟨(some 35), .build 22 #[], none, 0⟩,
  ⟨(some 36), .load 22 (.tmp 3), none, 0⟩,
  ⟨(some 37), .move (.tmp 1), none, 0⟩,
  ⟨(some 38), .call { callee := .value (.func 66), args := #[.tmp 35, .tmp 36, .tmp 37], argTypes := #[22, 22, 27] }, none, 7⟩,
  ⟨(some 39), .load 22 (.tmp 3), none, 0⟩,
  ⟨(some 40), .move (.tmp 2), none, 0⟩,
  ⟨(some 41), .call { callee := .value (.func 66), args := #[.tmp 38, .tmp 39, .tmp 40], argTypes := #[22, 22, 27] }, none, 63⟩,
  ⟨(some 42), .load 22 (.tmp 3), none, 0⟩,
  ⟨(some 43), .slice 22 (.tmp 7) none none none, none, 0⟩,
  ⟨(some 44), .call { callee := .value (.func 66), args := #[.tmp 41, .tmp 42, .tmp 43], argTypes := #[22, 22, 27] }, none, 1267650600228229401496703205887⟩,
  ⟨none, .store 22 (.tmp 6) (.tmp 44), none, 1267650600228229401496703206399⟩]
def L45 : LC := (.seq (.region L45r0) (.seq (.region L45r1) (.seq (.seq (.region L45r2) (.block 0 (.loop (.seq (.region L45r3) (.seq (.cond (.tmp 10) .skip (.exit 0)) (.seq (.block 1 (.seq (.region L45r4) (.seq (.region L45r5) (.region L45r6)))) (.region L45r7))))))) (.seq (.regionD L45r8) .ret))))
theorem nt45 : Try.f45.ntmps = 45 := by kernel_rfl
theorem rs45 : Try.f45.results.toList = [.cell 6 22] := by kernel_rfl
theorem lite45 : Try.f45.body.map (lite okDraw) = some L45 := by kernel_rfl
def L47r0 : List AOp := [
  ⟨(some 2), .assign (.const (.slice none 0 0)), none, 0⟩,
  ⟨(some 3), .assign (.const .nilIface), none, 0⟩]
def L47r1 : List AOp := [
  ⟨(some 13), .move (.tmp 0), none, 0⟩,
  ⟨(some 14), .call { callee := .builtin .len, args := #[.tmp 13], argTypes := #[27] }, none, 0⟩,
  ⟨(some 15), .binOp .neq 3 (.tmp 14) (.const (.int .i64 32)) 3, none, 0⟩]
def L47r2 : List AOp := [
  ⟨(some 16), .makeInterface 41 (.const (.int .i64 1)), none, 0⟩,
  ⟨(some 2), .assign (.const (.slice none 0 0)), none, 0⟩,
  ⟨(some 3), .assign (.tmp 16), none, 0⟩]
def L47r3 : List AOp := [
  ⟨(some 4), .alloc 89, none, 0⟩]
def L47r4 : List AOp := [
  ⟨(some 5), .assign (.const (.int .u8 1)), none, 0⟩]
def L47r5 : List AOp := [
  ⟨(some 17), .move (.const (.int .i64 0)), none, 0⟩]
def L47r6 : List AOp := [
  ⟨(some 18), .binOp .lss 3 (.tmp 17) (.const (.int .i64 60)) 3, none, 0⟩]
def L47r7 : List AOp := [
  ⟨(some 19), .move (.tmp 17), none, 0⟩,
  ⟨(some 6), .assign (.tmp 19), none, 0⟩]
def L47r8 : List AOp := [
  ⟨(some 20), .move (.tmp 6), none, 0⟩,
  ⟨(some 21), .binOp .lss 3 (.tmp 20) (.const (.int .i64 8)) 3, none, 0⟩]
def L47r9 : List AOp := [
  ⟨(some 22), .move (.tmp 6), none, 0⟩,
  ⟨(some 23), .move (.tmp 0), none, 0⟩,
  ⟨(some 24), .move (.tmp 6), none, 0⟩,
  ⟨(some 25), .binOp .mul 3 (.const (.int .i64 4)) (.tmp 24) 3, none, 0⟩,
  ⟨(some 26), .slice 27 (.tmp 23) (some (.tmp 25)) none none, none, 0⟩,
  ⟨(some 27), .sliceToArrayPointer 88 (.tmp 26), none, 0⟩,
  ⟨(some 28), .load 88 (.tmp 27), none, 0⟩,
  ⟨(some 29), .indexAddr 89 (.tmp 4) (.tmp 22), none, 0⟩,
  ⟨none, .store 88 (.tmp 29) (.tmp 28), none, 0⟩]
def L47r10 : List AOp := [
  ⟨(some 30), .move (.tmp 6), none, 0⟩,
  ⟨(some 31), .binOp .sub 3 (.tmp 30) (.const (.int .i64 1)) 3, none, 0⟩,
  ⟨(some 32), .indexAddr 89 (.tmp 4) (.tmp 31), none, 0⟩,
  ⟨(some 33), .load 88 (.tmp 32), none, 0⟩,
  ⟨(some 7), .alloc 88, none, 0⟩,
  ⟨none, .store 88 (.tmp 7) (.tmp 33), none, 0⟩]
def L47r11 : List AOp := [
  ⟨(some 34), .move (.tmp 6), none, 0⟩,
  ⟨(some 35), .binOp .rem 3 (.tmp 34) (.const (.int .i64 8)) 3, none, 0⟩,
  ⟨(some 36), .binOp .eql 3 (.tmp 35) (.const (.int .i64 0)) 3, none, 0⟩]
def L47r12 : List AOp := [
  ⟨(some 37), .indexAddr 88 (.tmp 7) (.const (.int .i64 1)), none, 0⟩,
  ⟨(some 38), .load 5 (.tmp 37), none, 0⟩,
  ⟨(some 39), .indexAddr 88 (.tmp 7) (.const (.int .i64 2)), none, 0⟩,
  ⟨(some 40), .load 5 (.tmp 39), none, 0⟩,
  ⟨(some 41), .indexAddr 88 (.tmp 7) (.const (.int .i64 3)), none, 0⟩,
  ⟨(some 42), .load 5 (.tmp 41), none, 0⟩,
  ⟨(some 43), .indexAddr 88 (.tmp 7) (.const (.int .i64 0)), none, 0⟩,
  ⟨(some 44), .load 5 (.tmp 43), none, 0⟩,
  ⟨(some 45), .build 88 #[(0, .tmp 38), (1, .tmp 40), (2, .tmp 42), (3, .tmp 44)], none, 0⟩,
  ⟨none, .store 88 (.tmp 7) (.tmp 45), none, 0⟩]
def L47r13 : List AOp := [
  ⟨(some 46), .move (.tmp 6), none, 0⟩,
  ⟨(some 47), .binOp .rem 3 (.tmp 46) (.const (.int .i64 4)) 3, none, 0⟩,
  ⟨(some 48), .binOp .eql 3 (.tmp 47) (.const (.int .i64 0)) 3, none, 0⟩]
def L47r14 : List AOp := [
  ⟨(some 49), .move (.const (.int .i64 0)), none, 0⟩]
def L47r15 : List AOp := [
  ⟨(some 50), .binOp .lss 3 (.tmp 49) (.const (.int .i64 4)) 3, none, 0⟩]
def L47r16 : List AOp := [
  ⟨(some 51), .move (.tmp 49), none, 0⟩,
  ⟨(some 8), .assign (.tmp 51), none, 0⟩]
def L47r17 : List AOp := [
  ⟨(some 52), .move (.tmp 8), none, 0⟩,
  ⟨(some 53), .move (.tmp 8), none, 0⟩,
  ⟨(some 54), .indexAddr 88 (.tmp 7) (.tmp 53), none, 0⟩,
  ⟨(some 55), .load 5 (.tmp 54), none, 0⟩,
  ⟨(some 56), .call { callee := .value (.func 38), args := #[.tmp 55], argTypes := #[5] }, none, 0⟩,
  ⟨(some 57), .indexAddr 88 (.tmp 7) (.tmp 52), none, 0⟩,
  ⟨none, .store 5 (.tmp 57) (.tmp 56), none, 0⟩]
def L47r18 : List AOp := [
  ⟨(some 58), .binOp .add 3 (.tmp 49) (.const (.int .i64 1)) 3, none, 0⟩,
  ⟨(some 49), .move (.tmp 58), none, 0⟩]
def L47r19 : List AOp := [
  ⟨(some 59), .move (.tmp 6), none, 0⟩,
  ⟨(some 60), .binOp .rem 3 (.tmp 59) (.const (.int .i64 8)) 3, none, 0⟩,
  ⟨(some 61), .binOp .eql 3 (.tmp 60) (.const (.int .i64 0)) 3, none, 0⟩]
def L47r20 : List AOp := [
  ⟨(some 62), .indexAddr 88 (.tmp 7) (.const (.int .i64 0)), none, 0⟩,
  ⟨(some 63), .load 5 (.tmp 62), none, 0⟩,
  ⟨(some 64), .move (.tmp 5), none, 0⟩,
  ⟨(some 65), .binOp .xor 5 (.tmp 63) (.tmp 64) 5, none, 0⟩,
  ⟨(some 66), .indexAddr 88 (.tmp 7) (.const (.int .i64 0)), none, 0⟩,
  ⟨none, .store 5 (.tmp 66) (.tmp 65), none, 0⟩]
def L47r21 : List AOp := [
  ⟨(some 67), .move (.tmp 5), none, 0⟩,
  ⟨(some 68), .call { callee := .value (.func 25), args := #[.tmp 67, .const (.int .u8 2)], argTypes := #[5, 5] }, none, 0⟩,
  ⟨(some 5), .assign (.tmp 68), none, 0⟩]
def L47r22 : List AOp := [
  ⟨(some 69), .move (.const (.int .i64 0)), none, 0⟩]
def L47r23 : List AOp := [
  ⟨(some 70), .binOp .lss 3 (.tmp 69) (.const (.int .i64 4)) 3, none, 0⟩]
def L47r24 : List AOp := [
  ⟨(some 71), .move (.tmp 69), none, 0⟩,
  ⟨(some 9), .assign (.tmp 71), none, 0⟩]
def L47r25 : List AOp := [
  ⟨(some 72), .move (.tmp 6), none, 0⟩,
  ⟨(some 73), .move (.tmp 9), none, 0⟩,
  ⟨(some 74), .move (.tmp 6), none, 0⟩,
  ⟨(some 75), .binOp .sub 3 (.tmp 74) (.const (.int .i64 8)) 3, none, 4⟩,
  ⟨(some 76), .move (.tmp 9), none, 0⟩,
  ⟨(some 77), .indexAddr 89 (.tmp 4) (.tmp 75), none, 12⟩,
  ⟨(some 78), .indexAddr 88 (.tmp 77) (.tmp 76), none, 60⟩,
  ⟨(some 79), .load 5 (.tmp 78), none, 124⟩,
  ⟨(some 80), .move (.tmp 9), none, 0⟩,
  ⟨(some 81), .indexAddr 88 (.tmp 7) (.tmp 80), none, 256⟩,
  ⟨(some 82), .load 5 (.tmp 81), none, 768⟩,
  ⟨(some 83), .binOp .xor 5 (.tmp 79) (.tmp 82) 5, none, 2044⟩,
  ⟨(some 84), .indexAddr 89 (.tmp 4) (.tmp 72), none, 1⟩,
  ⟨(some 85), .indexAddr 88 (.tmp 84) (.tmp 73), none, 1267650600228229401496703213567⟩,
  ⟨none, .store 5 (.tmp 85) (.tmp 83), none, 1267650600228229401496703221759⟩]
def L47r26 : List AOp := [
  ⟨(some 86), .binOp .add 3 (.tmp 69) (.const (.int .i64 1)) 3, none, 0⟩,
  ⟨(some 69), .move (.tmp 86), none, 0⟩]
def L47r27 : List AOp := [
  ⟨(some 87), .binOp .add 3 (.tmp 17) (.const (.int .i64 1)) 3, none, 0⟩,
  ⟨(some 17), .move (.tmp 87), none, 0⟩]
def L47r28 : List AOp := [
  ⟨(some 88), .makeSlice 56 (.const (.int .i64 15)) (.const (.int .i64 15)), none, 0⟩,
  ⟨(some 10), .assign (.tmp 88), none, 0⟩]
def L47r29 : List AOp := [
  ⟨(some 89), .move (.tmp 10), none, 0⟩,
  ⟨(some 90), .call { callee := .builtin .len, args := #[.tmp 89], argTypes := #[56] }, none, 0⟩,
  ⟨(some 91), .move (.const (.int .i64 0)), none, 0⟩]
def L47r30 : List AOp := [
  ⟨(some 92), .binOp .lss 3 (.tmp 91) (.tmp 90) 3, none, 0⟩]
def L47r31 : List AOp := [
  ⟨(some 93), .move (.tmp 91), none, 0⟩,
  ⟨(some 11), .assign (.tmp 93), none, 0⟩]
def L47r32 : List AOp := [
  ⟨(some 94), .move (.const (.int .i64 0)), none, 0⟩]
def L47r33 : List AOp := [
  ⟨(some 95), .binOp .lss 3 (.tmp 94) (.const (.int .i64 16)) 3, none, 0⟩]
def L47r34 : List AOp := [
  ⟨(some 96), .move (.tmp 94), none, 0⟩,
  ⟨(some 12), .assign (.tmp 96), none, 0⟩]
def L47r35 : List AOp := [
  ⟨(some 97), .move (.tmp 10), none, 0⟩,
  ⟨(some 98), .move (.tmp 11), none, 0⟩,
  ⟨(some 99), .move (.tmp 12), none, 0⟩,
  ⟨(some 100), .move (.tmp 11), none, 0⟩,
  ⟨(some 101), .binOp .mul 3 (.const (.int .i64 4)) (.tmp 100) 3, none, 8⟩,
  ⟨(some 102), .move (.tmp 12), none, 0⟩,
  ⟨(some 103), .binOp .quo 3 (.tmp 102) (.const (.int .i64 4)) 3, none, 32⟩,
  ⟨(some 104), .binOp .add 3 (.tmp 101) (.tmp 103) 3, none, 120⟩,
  ⟨(some 105), .move (.tmp 12), none, 0⟩,
  ⟨(some 106), .binOp .rem 3 (.tmp 105) (.const (.int .i64 4)) 3, none, 256⟩,
  ⟨(some 107), .indexAddr 89 (.tmp 4) (.tmp 104), none, 248⟩,
  ⟨(some 108), .indexAddr 88 (.tmp 107) (.tmp 106), none, 2040⟩,
  ⟨(some 109), .load 5 (.tmp 108), none, 4088⟩,
  ⟨(some 110), .indexAddr 56 (.tmp 97) (.tmp 98), none, 3⟩,
  ⟨(some 111), .indexAddr 22 (.tmp 110) (.tmp 99), none, 1267650600228229401496703221759⟩,
  ⟨none, .store 5 (.tmp 111) (.tmp 109), none, 1267650600228229401496703238143⟩]
def L47r36 : List AOp := [
  ⟨(some 112), .binOp .add 3 (.tmp 94) (.const (.int .i64 1)) 3, none, 0⟩,
  ⟨(some 94), .move (.tmp 112), none, 0⟩]
def L47r37 : List AOp := [
  ⟨(some 113), .binOp .add 3 (.tmp 91) (.const (.int .i64 1)) 3, none, 0⟩,
  ⟨(some 91), .move (.tmp 113), none, 0⟩]
def L47r38 : List AOp := [
  ⟨(some 114), .move (.tmp 10), none, 0⟩,
  ⟨(some 2), .assign (.tmp 114), none, 0⟩,
  ⟨(some 3), .assign (.const .nilIface), none, 0⟩]
def L47 : LC := (.seq (.region L47r0) (.seq (.seq (.region L47r1) (.cond (.tmp 15) (.seq (.region L47r2) .ret) .skip)) (.seq (.region L47r3) (.seq (.region L47r4) (.seq (.seq (.region L47r5) (.block 0 (.loop (.seq (.region L47r6) (.seq (.cond (.tmp 18) .skip (.exit 0)) (.seq (.block 1 (.seq (.region L47r7) (.seq (.seq (.region L47r8) (.cond (.tmp 21) (.seq (.region L47r9) (.exit 1)) .skip)) (.seq (.region L47r10) (.seq (.seq (.region L47r11) (.cond (.tmp 36) (.region L47r12) .skip)) (.seq (.seq (.region L47r13) (.cond (.tmp 48) (.seq (.region L47r14) (.block 2 (.loop (.seq (.region L47r15) (.seq (.cond (.tmp 50) .skip (.exit 2)) (.seq (.block 3 (.seq (.region L47r16) (.region L47r17))) (.region L47r18))))))) .skip)) (.seq (.seq (.region L47r19) (.cond (.tmp 61) (.seq (.region L47r20) (.region L47r21)) .skip)) (.seq (.region L47r22) (.block 4 (.loop (.seq (.region L47r23) (.seq (.cond (.tmp 70) .skip (.exit 4)) (.seq (.block 5 (.seq (.region L47r24) (.regionD L47r25))) (.region L47r26)))))))))))))) (.region L47r27))))))) (.seq (.region L47r28) (.seq (.seq (.region L47r29) (.block 6 (.loop (.seq (.region L47r30) (.seq (.cond (.tmp 92) .skip (.exit 6)) (.seq (.block 7 (.seq (.region L47r31) (.seq (.region L47r32) (.block 8 (.loop (.seq (.region L47r33) (.seq (.cond (.tmp 95) .skip (.exit 8)) (.seq (.block 9 (.seq (.region L47r34) (.regionD L47r35))) (.region L47r36))))))))) (.region L47r37))))))) (.seq (.region L47r38) .ret))))))))
theorem nt47 : Try.f47.ntmps = 115 := by kernel_rfl
theorem rs47 : Try.f47.results.toList = [.tmp 2, .tmp 3] := by kernel_rfl
theorem lite47 : Try.f47.body.map (lite okDraw) = some L47 := by kernel_rfl
def L50r0 : List AOp := [
  ⟨(some 3), .box 22 (.tmp 1), none, 0⟩,
  ⟨(some 4), .alloc 22, none, 0⟩,
  ⟨(some 5), .assign (.const .nilIface), none, 0⟩]
def L50r1 : List AOp := [
  ⟨(some 12), .move (.tmp 0), none, 0⟩,
  ⟨(some 13), .call { callee := .value (.func 47), args := #[.tmp 12], argTypes := #[27] }, none, 0⟩,
  ⟨(some 11), .move (.tmp 13), none, 0⟩,
  ⟨(some 14), .extract (.tmp 11) 0, none, 0⟩,
  ⟨(some 15), .extract (.tmp 11) 1, none, 0⟩,
  ⟨(some 6), .assign (.tmp 14), none, 0⟩,
  ⟨(some 7), .assign (.tmp 15), none, 0⟩]
def L50r2 : List AOp := [
  ⟨(some 16), .move (.tmp 7), none, 0⟩,
  ⟨(some 17), .binOp .neq 38 (.tmp 16) (.const .nilIface) 38, none, 0⟩]
def L50r3 : List AOp := [
  ⟨(some 18), .build 22 #[], none, 0⟩,
  ⟨(some 19), .move (.tmp 7), none, 0⟩,
  ⟨none, .store 22 (.tmp 4) (.tmp 18), none, 0⟩,
  ⟨(some 5), .assign (.tmp 19), none, 0⟩]
def L50r4 : List AOp := [
  ⟨(some 20), .load 22 (.tmp 3), none, 0⟩,
  ⟨(some 21), .move (.tmp 6), none, 0⟩,
  ⟨(some 22), .indexAddr 56 (.tmp 21) (.const (.int .i64 0)), none, 2⟩,
  ⟨(some 23), .load 22 (.tmp 22), none, 6⟩,
  ⟨(some 24), .call { callee := .value (.func 69), args := #[.tmp 20, .tmp 23], argTypes := #[22, 22] }, none, 15⟩,
  ⟨(some 8), .alloc 22, none, 0⟩,
  ⟨none, .store 22 (.tmp 8) (.tmp 24), none, 1267650600228229401496703205439⟩]
def L50r5 : List AOp := [
  ⟨(some 9), .assign (.const (.int .i64 1)), none, 0⟩]
def L50r6 : List AOp := [
  ⟨(some 25), .move (.tmp 9), none, 0⟩,
  ⟨(some 26), .binOp .leq 3 (.tmp 25) (.const (.int .i64 14)) 3, none, 0⟩]
def L50r8 : List AOp := [
  ⟨(some 29), .move (.const (.int .i64 0)), none, 0⟩]
def L50r9 : List AOp := [
  ⟨(some 30), .binOp .lss 3 (.tmp 29) (.const (.int .i64 16)) 3, none, 0⟩]
def L50r10 : List AOp := [
  ⟨(some 31), .move (.tmp 29), none, 0⟩,
  ⟨(some 10), .assign (.tmp 31), none, 0⟩]
def L50r11 : List AOp := [
  ⟨(some 32), .move (.tmp 10), none, 0⟩,
  ⟨(some 33), .move (.tmp 10), none, 0⟩,
  ⟨(some 34), .indexAddr 22 (.tmp 8) (.tmp 33), none, 0⟩,
  ⟨(some 35), .load 5 (.tmp 34), none, 0⟩,
  ⟨(some 36), .call { callee := .value (.func 38), args := #[.tmp 35], argTypes := #[5] }, none, 0⟩,
  ⟨(some 37), .indexAddr 22 (.tmp 8) (.tmp 32), none, 0⟩,
  ⟨none, .store 5 (.tmp 37) (.tmp 36), none, 0⟩]
def L50r12 : List AOp := [
  ⟨(some 38), .binOp .add 3 (.tmp 29) (.const (.int .i64 1)) 3, none, 0⟩,
  ⟨(some 29), .move (.tmp 38), none, 0⟩]
def L50r13 : List AOp := [
  ⟨(some 39), .load 22 (.tmp 8), none, 0⟩,
  ⟨(some 40), .call { callee := .value (.func 23), args := #[.tmp 39], argTypes := #[22] }, none, 0⟩,
  ⟨none, .store 22 (.tmp 8) (.tmp 40), none, 0⟩]
def L50r14 : List AOp := [
  ⟨(some 41), .move (.tmp 9), none, 0⟩,
  ⟨(some 42), .binOp .lss 3 (.tmp 41) (.const (.int .i64 14)) 3, none, 0⟩]
def L50r15 : List AOp := [
  ⟨(some 43), .load 22 (.tmp 8), none, 0⟩,
  ⟨(some 44), .call { callee := .value (.func 36), args := #[.tmp 43], argTypes := #[22] }, none, 0⟩,
  ⟨none, .store 22 (.tmp 8) (.tmp 44), none, 0⟩]
def L50r16 : List AOp := [
  ⟨(some 45), .load 22 (.tmp 8), none, 0⟩,
  ⟨(some 46), .move (.tmp 6), none, 0⟩,
  ⟨(some 47), .move (.tmp 9), none, 0⟩,
  ⟨(some 48), .indexAddr 56 (.tmp 46) (.tmp 47), none, 6⟩,
  ⟨(some 49), .load 22 (.tmp 48), none, 14⟩,
  ⟨(some 50), .call { callee := .value (.func 69), args := #[.tmp 45, .tmp 49], argTypes := #[22, 22] }, none, 1267650600228229401496703205407⟩,
  ⟨none, .store 22 (.tmp 8) (.tmp 50), none, 1267650600228229401496703205439⟩]
def L50r7 : List AOp := [
  ⟨(some 27), .move (.tmp 9), none, 0⟩,
  ⟨(some 28), .binOp .add 3 (.tmp 27) (.const (.int .i64 1)) 3, none, 0⟩,
  ⟨(some 9), .assign (.tmp 28), none, 0⟩]
def L50r17 : List AOp := [
  ⟨(some 51), .load 22 (.tmp 8), none, 0⟩,
  ⟨none, .store 22 (.tmp 4) (.tmp 51), none, 0⟩,
  ⟨(some 5), .assign (.const .nilIface), none, 0⟩]
def L50 : LC := (.seq (.region L50r0) (.seq (.region L50r1) (.seq (.seq (.region L50r2) (.cond (.tmp 17) (.seq (.region L50r3) .ret) .skip)) (.seq (.regionD L50r4) (.seq (.seq (.region L50r5) (.block 0 (.loop (.seq (.seq (.region L50r6) (.cond (.tmp 26) .skip (.exit 0))) (.seq (.block 1 (.seq (.seq (.region L50r8) (.block 2 (.loop (.seq (.region L50r9) (.seq (.cond (.tmp 30) .skip (.exit 2)) (.seq (.block 3 (.seq (.region L50r10) (.region L50r11))) (.region L50r12))))))) (.seq (.region L50r13) (.seq (.seq (.region L50r14) (.cond (.tmp 42) (.region L50r15) .skip)) (.regionD L50r16))))) (.region L50r7)))))) (.seq (.region L50r17) .ret))))))
theorem nt50 : Try.f50.ntmps = 52 := by kernel_rfl
theorem rs50 : Try.f50.results.toList = [.cell 4 22, .tmp 5] := by kernel_rfl
theorem lite50 : Try.f50.body.map (lite okDraw) = some L50 := by kernel_rfl
def L52r0 : List AOp := [
  ⟨(some 0), .assign (.const (.bool false)), none, 0⟩]
def L52r1 : List AOp := [
  ⟨(some 4), .makeSlice 27 (.const (.int .i64 32)) (.const (.int .i64 32)), none, 0⟩,
  ⟨(some 5), .makeSlice 27 (.const (.int .i64 12)) (.const (.int .i64 12)), none, 0⟩,
  ⟨(some 6), .call { callee := .value (.func 54), args := #[.tmp 4, .tmp 5, .const (.slice none 0 0), .const (.slice none 0 0)], argTypes := #[27, 27, 27, 27] }, none, 1267650600228229401496703205379⟩,
  ⟨(some 3), .move (.tmp 6), none, 1267650600228229401496703205383⟩,
  ⟨(some 7), .extract (.tmp 3) 0, none, 15⟩,
  ⟨(some 8), .extract (.tmp 3) 1, none, 15⟩,
  ⟨(some 1), .assign (.tmp 7), none, 31⟩,
  ⟨(some 2), .assign (.tmp 8), none, 1267650600228229401496703205503⟩]
def L52r2 : List AOp := [
  ⟨(some 9), .move (.tmp 2), none, 0⟩,
  ⟨(some 10), .binOp .eql 38 (.tmp 9) (.const .nilIface) 38, none, 0⟩,
  ⟨(some 11), .move (.tmp 10), none, 0⟩,
  ⟨(some 12), .move (.tmp 1), (some (11, true)), 0⟩,
  ⟨(some 13), .call { callee := .builtin .len, args := #[.tmp 12], argTypes := #[27] }, (some (11, true)), 0⟩,
  ⟨(some 14), .binOp .eql 3 (.tmp 13) (.const (.int .i64 16)) 3, (some (11, true)), 0⟩,
  ⟨(some 15), .pick (.tmp 11) (.tmp 14) (.const (.bool false)), none, 0⟩,
  ⟨(some 16), .move (.tmp 15), none, 0⟩,
  ⟨(some 17), .move (.tmp 1), (some (16, true)), 0⟩,
  ⟨(some 18), .indexAddr 27 (.tmp 17) (.const (.int .i64 0)), (some (16, true)), 0⟩,
  ⟨(some 19), .load 5 (.tmp 18), (some (16, true)), 0⟩,
  ⟨(some 20), .binOp .eql 5 (.tmp 19) (.const (.int .u8 83)) 5, (some (16, true)), 0⟩,
  ⟨(some 21), .pick (.tmp 16) (.tmp 20) (.const (.bool false)), none, 0⟩,
  ⟨(some 22), .move (.tmp 21), none, 0⟩,
  ⟨(some 23), .move (.tmp 1), (some (22, true)), 0⟩,
  ⟨(some 24), .indexAddr 27 (.tmp 23) (.const (.int .i64 15)), (some (22, true)), 0⟩,
  ⟨(some 25), .load 5 (.tmp 24), (some (22, true)), 0⟩,
  ⟨(some 26), .binOp .eql 5 (.tmp 25) (.const (.int .u8 139)) 5, (some (22, true)), 0⟩,
  ⟨(some 27), .pick (.tmp 22) (.tmp 26) (.const (.bool false)), none, 0⟩,
  ⟨(some 0), .assign (.tmp 27), none, 0⟩]
def L52 : LC := (.seq (.region L52r0) (.seq (.regionD L52r1) (.seq (.region L52r2) .ret)))
theorem nt52 : Try.f52.ntmps = 28 := by kernel_rfl
theorem rs52 : Try.f52.results.toList = [.tmp 0] := by kernel_rfl
theorem lite52 : Try.f52.body.map (lite okDraw) = some L52 := by kernel_rfl
def L53r0 : List AOp := [
  ⟨(some 4), .assign (.const (.slice none 0 0)), none, 0⟩]
def L53r1 : List AOp := [
  ⟨(some 5), .move (.tmp 0), none, 0⟩,
  ⟨(some 6), .call { callee := .builtin .len, args := #[.tmp 5], argTypes := #[27] }, none, 0⟩,
  ⟨(some 7), .move (.tmp 1), none, 0⟩,
  ⟨(some 8), .binOp .gtr 3 (.tmp 6) (.tmp 7) 3, none, 0⟩]
def L53r2 : List AOp := [
  ⟨(some 9), .move (.tmp 0), none, 0⟩,
  ⟨(some 10), .move (.tmp 1), none, 0⟩,
  ⟨(some 11), .slice 27 (.tmp 9) none (some (.tmp 10)) none, none, 0⟩,
  ⟨(some 4), .assign (.tmp 11), none, 0⟩]
def L53r3 : List AOp := [
  ⟨(some 12), .move (.tmp 0), none, 0⟩,
  ⟨(some 4), .assign (.tmp 12), none, 0⟩]
def L53 : LC := (.seq (.region L53r0) (.seq (.seq (.region L53r1) (.cond (.tmp 8) (.seq (.region L53r2) .ret) .skip)) (.seq (.region L53r3) .ret)))
theorem nt53 : Try.f53.ntmps = 13 := by kernel_rfl
theorem rs53 : Try.f53.results.toList = [.tmp 4] := by kernel_rfl
theorem lite53 : Try.f53.body.map (lite okDraw) = some L53 := by kernel_rfl
def L54r0 : List AOp := [
  ⟨(some 8), .assign (.const (.slice none 0 0)), none, 0⟩,
  ⟨(some 9), .assign (.const .nilIface), none, 0⟩]
def L54r1 : List AOp := [
  ⟨(some 14), .move (.tmp 0), none, 0⟩,
  ⟨(some 15), .move (.tmp 1), none, 0⟩,
  ⟨(some 16), .move (.tmp 2), none, 0⟩,
  ⟨(some 17), .move (.tmp 3), none, 0⟩,
  ⟨(some 18), .call { callee := .value (.func 70), args := #[.tmp 14, .tmp 15, .tmp 16, .tmp 17, .const (.int .i64 16777216)], argTypes := #[27, 27, 27, 27, 3] }, none, 0⟩,
  ⟨(some 13), .move (.tmp 18), none, 0⟩,
  ⟨(some 19), .extract (.tmp 13) 0, none, 0⟩,
  ⟨(some 20), .extract (.tmp 13) 1, none, 0⟩,
  ⟨(some 10), .alloc 91, none, 0⟩,
  ⟨none, .store 91 (.tmp 10) (.tmp 19), none, 0⟩,
  ⟨(some 11), .assign (.tmp 20), none, 0⟩]
def L54r2 : List AOp := [
  ⟨(some 21), .move (.tmp 11), none, 0⟩,
  ⟨(some 22), .binOp .neq 38 (.tmp 21) (.const .nilIface) 38, none, 0⟩]
def L54r3 : List AOp := [
  ⟨(some 23), .move (.tmp 11), none, 0⟩,
  ⟨(some 8), .assign (.const (.slice none 0 0)), none, 0⟩,
  ⟨(some 9), .assign (.tmp 23), none, 0⟩]
def L54r4 : List AOp := [
  ⟨(some 24), .load 91 (.tmp 10), none, 0⟩,
  ⟨(some 25), .move (.tmp 3), none, 0⟩,
  ⟨(some 26), .call { callee := .value (.func 71), args := #[.tmp 24, .tmp 25], argTypes := #[91, 27] }, none, 0⟩,
  ⟨(some 12), .assign (.tmp 26), none, 0⟩]
def L54r5 : List AOp := [
  ⟨(some 27), .move (.tmp 12), none, 0⟩,
  ⟨(some 28), .load 91 (.tmp 10), none, 0⟩,
  ⟨(some 29), .move (.tmp 2), none, 0⟩,
  ⟨(some 30), .move (.tmp 12), none, 0⟩,
  ⟨(some 31), .call { callee := .value (.func 72), args := #[.tmp 28, .tmp 29, .tmp 30], argTypes := #[91, 27, 27] }, none, 0⟩,
  ⟨(some 32), .call { callee := .builtin .append, args := #[.tmp 27, .tmp 31], argTypes := #[27, 27] }, none, 0⟩,
  ⟨(some 8), .assign (.tmp 32), none, 0⟩,
  ⟨(some 9), .assign (.const .nilIface), none, 0⟩]
def L54 : LC := (.seq (.region L54r0) (.seq (.region L54r1) (.seq (.seq (.region L54r2) (.cond (.tmp 22) (.seq (.region L54r3) .ret) .skip)) (.seq (.region L54r4) (.seq (.region L54r5) .ret)))))
theorem nt54 : Try.f54.ntmps = 33 := by kernel_rfl
theorem rs54 : Try.f54.results.toList = [.tmp 8, .tmp 9] := by kernel_rfl
theorem lite54 : Try.f54.body.map (lite okDraw) = some L54 := by kernel_rfl
def L57r0 : List AOp := [
  ⟨(some 8), .assign (.const (.slice none 0 0)), none, 0⟩,
  ⟨(some 9), .assign (.const .nilIface), none, 0⟩]
def L57r1 : List AOp := [
  ⟨(some 14), .move (.tmp 0), none, 0⟩,
  ⟨(some 15), .move (.tmp 1), none, 0⟩,
  ⟨(some 16), .move (.tmp 2), none, 0⟩,
  ⟨(some 17), .move (.tmp 3), none, 0⟩,
  ⟨(some 18), .call { callee := .value (.func 70), args := #[.tmp 14, .tmp 15, .tmp 16, .tmp 17, .const (.int .i64 16777232)], argTypes := #[27, 27, 27, 27, 3] }, none, 0⟩,
  ⟨(some 13), .move (.tmp 18), none, 0⟩,
  ⟨(some 19), .extract (.tmp 13) 0, none, 0⟩,
  ⟨(some 20), .extract (.tmp 13) 1, none, 0⟩,
  ⟨(some 10), .alloc 91, none, 0⟩,
  ⟨none, .store 91 (.tmp 10) (.tmp 19), none, 0⟩,
  ⟨(some 11), .assign (.tmp 20), none, 0⟩]
def L57r2 : List AOp := [
  ⟨(some 22), .move (.tmp 11), none, 0⟩,
  ⟨(some 23), .binOp .neq 38 (.tmp 22) (.const .nilIface) 38, none, 0⟩,
  ⟨(some 21), .assign (.tmp 23), none, 0⟩]
def L57r3 : List AOp := [
  ⟨(some 24), .move (.tmp 11), none, 0⟩,
  ⟨(some 8), .assign (.const (.slice none 0 0)), none, 0⟩,
  ⟨(some 9), .assign (.tmp 24), none, 0⟩]
def L57r4 : List AOp := [
  ⟨(some 26), .move (.tmp 3), none, 0⟩,
  ⟨(some 27), .call { callee := .builtin .len, args := #[.tmp 26], argTypes := #[27] }, none, 0⟩,
  ⟨(some 28), .binOp .lss 3 (.tmp 27) (.const (.int .i64 16)) 3, none, 0⟩,
  ⟨(some 25), .assign (.tmp 28), none, 0⟩]
def L57r5 : List AOp := [
  ⟨(some 29), .makeInterface 41 (.const (.int .i64 6)), none, 0⟩,
  ⟨(some 8), .assign (.const (.slice none 0 0)), none, 0⟩,
  ⟨(some 9), .assign (.tmp 29), none, 0⟩]
def L57r6 : List AOp := [
  ⟨(some 30), .move (.tmp 3), none, 0⟩,
  ⟨(some 31), .call { callee := .builtin .len, args := #[.tmp 30], argTypes := #[27] }, none, 0⟩,
  ⟨(some 32), .binOp .sub 3 (.tmp 31) (.const (.int .i64 16)) 3, none, 0⟩,
  ⟨(some 12), .assign (.tmp 32), none, 0⟩]
def L57r7 : List AOp := [
  ⟨(some 33), .load 91 (.tmp 10), none, 0⟩,
  ⟨(some 34), .move (.tmp 2), none, 0⟩,
  ⟨(some 35), .move (.tmp 3), none, 0⟩,
  ⟨(some 36), .move (.tmp 12), none, 0⟩,
  ⟨(some 37), .slice 27 (.tmp 35) none (some (.tmp 36)) none, none, 12⟩,
  ⟨(some 38), .call { callee := .value (.func 72), args := #[.tmp 33, .tmp 34, .tmp 37], argTypes := #[91, 27, 27] }, none, 31⟩,
  ⟨(some 39), .move (.tmp 3), none, 0⟩,
  ⟨(some 40), .move (.tmp 12), none, 0⟩,
  ⟨(some 41), .slice 27 (.tmp 39) (some (.tmp 40)) none none, none, 192⟩,
  ⟨(some 42), .call { callee := .value (.func 27), args := #[.tmp 38, .tmp 41], argTypes := #[27, 27] }, none, 1267650600228229401496703205887⟩,
  ⟨(some 43), .unOp .not 4 (.tmp 42), none, 1267650600228229401496703206399⟩]
def L57r8 : List AOp := [
  ⟨(some 44), .makeInterface 41 (.const (.int .i64 5)), none, 0⟩,
  ⟨(some 8), .assign (.const (.slice none 0 0)), none, 0⟩,
  ⟨(some 9), .assign (.tmp 44), none, 0⟩]
def L57r9 : List AOp := [
  ⟨(some 45), .load 91 (.tmp 10), none, 0⟩,
  ⟨(some 46), .move (.tmp 3), none, 0⟩,
  ⟨(some 47), .move (.tmp 12), none, 0⟩,
  ⟨(some 48), .slice 27 (.tmp 46) none (some (.tmp 47)) none, none, 6⟩,
  ⟨(some 49), .call { callee := .value (.func 71), args := #[.tmp 45, .tmp 48], argTypes := #[91, 27] }, none, 1267650600228229401496703205391⟩,
  ⟨(some 8), .assign (.tmp 49), none, 1267650600228229401496703205407⟩,
  ⟨(some 9), .assign (.const .nilIface), none, 1267650600228229401496703205439⟩]
def L57 : LC := (.seq (.region L57r0) (.seq (.region L57r1) (.seq (.block 0 (.seq (.region L57r2) (.cond (.tmp 21) (.seq (.region L57r3) .ret) (.seq (.region L57r4) (.cond (.tmp 25) (.seq (.region L57r5) .ret) .skip))))) (.seq (.region L57r6) (.seq (.seq (.regionD L57r7) (.cond (.tmp 43) (.seq (.region L57r8) .ret) .skip)) (.seq (.regionD L57r9) .ret))))))
theorem nt57 : Try.f57.ntmps = 50 := by kernel_rfl
theorem rs57 : Try.f57.results.toList = [.tmp 8, .tmp 9] := by kernel_rfl
theorem lite57 : Try.f57.body.map (lite okDraw) = some L57 := by kernel_rfl
def L64r0 : List AOp := [
  ⟨(some 5), .assign (.const (.int .u8 0)), none, 0⟩]
def L64r1 : List AOp := [
  ⟨(some 6), .load 3 (.tmp 2), none, 0⟩,
  ⟨(some 7), .binOp .mul 3 (.const (.int .i64 4)) (.tmp 6) 3, none, 0⟩,
  ⟨(some 8), .load 3 (.tmp 3), none, 0⟩,
  ⟨(some 9), .move (.tmp 0), none, 0⟩,
  ⟨(some 10), .binOp .add 3 (.tmp 8) (.tmp 9) 3, none, 0⟩,
  ⟨(some 11), .binOp .rem 3 (.tmp 10) (.const (.int .i64 4)) 3, none, 0⟩,
  ⟨(some 12), .binOp .add 3 (.tmp 7) (.tmp 11) 3, none, 0⟩,
  ⟨(some 13), .indexAddr 22 (.tmp 1) (.tmp 12), none, 0⟩,
  ⟨(some 14), .load 5 (.tmp 13), none, 0⟩,
  ⟨(some 5), .assign (.tmp 14), none, 0⟩]
def L64 : LC := (.seq (.region L64r0) (.seq (.region L64r1) .ret))
theorem nt64 : Try.f64.ntmps = 15 := by kernel_rfl
theorem rs64 : Try.f64.results.toList = [.tmp 5] := by kernel_rfl
theorem lite64 : Try.f64.body.map (lite okDraw) = some L64 := by kernel_rfl
def L65r0 : List AOp := [
  ⟨(some 4), .assign (.const (.int .u8 0)), none, 0⟩]
def L65r1 : List AOp := [
  ⟨(some 6), .move (.tmp 1), none, 0⟩,
  ⟨(some 7), .convert 3 76 (.tmp 6), none, 0⟩,
  ⟨(some 8), .binOp .and 76 (.tmp 7) (.const (.int .u64 7)) 76, none, 0⟩,
  ⟨(some 5), .assign (.tmp 8), none, 0⟩]
def L65r2 : List AOp := [
  ⟨(some 9), .move (.tmp 0), none, 0⟩,
  ⟨(some 10), .move (.tmp 5), none, 0⟩,
  ⟨(some 11), .binOp .shl 5 (.tmp 9) (.tmp 10) 76, none, 0⟩,
  ⟨(some 12), .move (.tmp 0), none, 0⟩,
  ⟨(some 13), .move (.tmp 5), none, 0⟩,
  ⟨(some 14), .binOp .sub 76 (.const (.int .u64 8)) (.tmp 13) 76, none, 0⟩,
  ⟨(some 15), .binOp .shr 5 (.tmp 12) (.tmp 14) 76, none, 0⟩,
  ⟨(some 16), .binOp .or 5 (.tmp 11) (.tmp 15) 5, none, 0⟩,
  ⟨(some 4), .assign (.tmp 16), none, 0⟩]
def L65 : LC := (.seq (.region L65r0) (.seq (.region L65r1) (.seq (.region L65r2) .ret)))
theorem nt65 : Try.f65.ntmps = 17 := by kernel_rfl
theorem rs65 : Try.f65.results.toList = [.tmp 4] := by kernel_rfl
theorem lite65 : Try.f65.body.map (lite okDraw) = some L65 := by kernel_rfl
def L66r0 : List AOp := [
  ⟨(some 3), .box 22 (.tmp 0), none, 0⟩,
  ⟨(some 4), .box 22 (.tmp 1), none, 0⟩,
  ⟨(some 6), .alloc 22, none, 0⟩]
def L66r1 : List AOp := [
  ⟨(some 9), .move (.tmp 2), none, 0⟩,
  ⟨(some 10), .call { callee := .builtin .len, args := #[.tmp 9], argTypes := #[27] }, none, 0⟩,
  ⟨(some 11), .binOp .gtr 3 (.tmp 10) (.const (.int .i64 0)) 3, none, 0⟩]
def L66r2 : List AOp := [
  ⟨(some 12), .move (.tmp 2), none, 0⟩,
  ⟨(some 13), .call { callee := .builtin .len, args := #[.tmp 12], argTypes := #[27] }, none, 0⟩,
  ⟨(some 14), .call { callee := .builtin .min, args := #[.tmp 13, .const (.int .i64 16)], argTypes := #[3, 3] }, none, 0⟩,
  ⟨(some 7), .assign (.tmp 14), none, 0⟩]
def L66r3 : List AOp := [
  ⟨(some 15), .move (.tmp 7), none, 0⟩,
  ⟨(some 16), .move (.const (.int .i64 0)), none, 0⟩]
def L66r4 : List AOp := [
  ⟨(some 17), .binOp .lss 3 (.tmp 16) (.tmp 15) 3, none, 0⟩]
def L66r5 : List AOp := [
  ⟨(some 18), .move (.tmp 16), none, 0⟩,
  ⟨(some 8), .assign (.tmp 18), none, 0⟩]
def L66r6 : List AOp := [
  ⟨(some 19), .move (.tmp 8), none, 0⟩,
  ⟨(some 20), .indexAddr 22 (.tmp 3) (.tmp 19), none, 1⟩,
  ⟨(some 21), .load 5 (.tmp 20), none, 3⟩,
  ⟨(some 22), .move (.tmp 2), none, 0⟩,
  ⟨(some 23), .move (.tmp 8), none, 0⟩,
  ⟨(some 24), .indexAddr 27 (.tmp 22) (.tmp 23), none, 24⟩,
  ⟨(some 25), .load 5 (.tmp 24), none, 56⟩,
  ⟨(some 26), .binOp .xor 5 (.tmp 21) (.tmp 25) 5, none, 1267650600228229401496703205503⟩,
  ⟨(some 27), .indexAddr 22 (.tmp 3) (.tmp 19), none, 1267650600228229401496703205631⟩,
  ⟨none, .store 5 (.tmp 27) (.tmp 26), none, 1267650600228229401496703205887⟩]
def L66r7 : List AOp := [
  ⟨(some 28), .binOp .add 3 (.tmp 16) (.const (.int .i64 1)) 3, none, 0⟩,
  ⟨(some 16), .move (.tmp 28), none, 0⟩]
def L66r8 : List AOp := [
  ⟨(some 29), .load 22 (.tmp 3), none, 0⟩,
  ⟨(some 30), .load 22 (.tmp 4), none, 0⟩,
  ⟨(some 31), .call { callee := .value (.func 30), args := #[.tmp 29, .tmp 30], argTypes := #[22, 22] }, none, 0⟩,
  ⟨none, .store 22 (.tmp 3) (.tmp 31), none, 0⟩]
def L66r9 : List AOp := [
  ⟨(some 32), .move (.tmp 2), none, 0⟩,
  ⟨(some 33), .move (.tmp 7), none, 0⟩,
  ⟨(some 34), .slice 27 (.tmp 32) (some (.tmp 33)) none none, none, 0⟩,
  ⟨(some 2), .assign (.tmp 34), none, 0⟩]
def L66r10 : List AOp := [
  ⟨(some 35), .load 22 (.tmp 3), none, 0⟩,
  ⟨none, .store 22 (.tmp 6) (.tmp 35), none, 0⟩]
def L66 : LC := (.seq (.region L66r0) (.seq (.block 0 (.loop (.seq (.seq (.region L66r1) (.cond (.tmp 11) .skip (.exit 0))) (.block 1 (.seq (.region L66r2) (.seq (.seq (.region L66r3) (.block 2 (.loop (.seq (.region L66r4) (.seq (.cond (.tmp 17) .skip (.exit 2)) (.seq (.block 3 (.seq (.region L66r5) (.regionD L66r6))) (.region L66r7))))))) (.seq (.region L66r8) (.region L66r9)))))))) (.seq (.region L66r10) .ret)))
theorem nt66 : Try.f66.ntmps = 36 := by kernel_rfl
theorem rs66 : Try.f66.results.toList = [.cell 6 22] := by kernel_rfl
theorem lite66 : Try.f66.body.map (lite okDraw) = some L66 := by kernel_rfl
def L69r0 : List AOp := [
  ⟨(some 2), .box 22 (.tmp 0), none, 0⟩,
  ⟨(some 3), .box 22 (.tmp 1), none, 0⟩,
  ⟨(some 4), .alloc 22, none, 0⟩]
def L69r1 : List AOp := [
  ⟨(some 6), .move (.const (.int .i64 0)), none, 0⟩]
def L69r2 : List AOp := [
  ⟨(some 7), .binOp .lss 3 (.tmp 6) (.const (.int .i64 16)) 3, none, 0⟩]
def L69r3 : List AOp := [
  ⟨(some 8), .move (.tmp 6), none, 0⟩,
  ⟨(some 5), .assign (.tmp 8), none, 0⟩]
def L69r4 : List AOp := [
  ⟨(some 9), .move (.tmp 5), none, 0⟩,
  ⟨(some 10), .indexAddr 22 (.tmp 2) (.tmp 9), none, 1⟩,
  ⟨(some 11), .load 5 (.tmp 10), none, 3⟩,
  ⟨(some 12), .move (.tmp 5), none, 0⟩,
  ⟨(some 13), .indexAddr 22 (.tmp 3) (.tmp 12), none, 8⟩,
  ⟨(some 14), .load 5 (.tmp 13), none, 24⟩,
  ⟨(some 15), .binOp .xor 5 (.tmp 11) (.tmp 14) 5, none, 1267650600228229401496703205439⟩,
  ⟨(some 16), .indexAddr 22 (.tmp 2) (.tmp 9), none, 1267650600228229401496703205503⟩,
  ⟨none, .store 5 (.tmp 16) (.tmp 15), none, 1267650600228229401496703205631⟩]
def L69r5 : List AOp := [
  ⟨(some 17), .binOp .add 3 (.tmp 6) (.const (.int .i64 1)) 3, none, 0⟩,
  ⟨(some 6), .move (.tmp 17), none, 0⟩]
def L69r6 : List AOp := [
  ⟨(some 18), .load 22 (.tmp 2), none, 0⟩,
  ⟨none, .store 22 (.tmp 4) (.tmp 18), none, 0⟩]
def L69 : LC := (.seq (.region L69r0) (.seq (.seq (.region L69r1) (.block 0 (.loop (.seq (.region L69r2) (.seq (.cond (.tmp 7) .skip (.exit 0)) (.seq (.block 1 (.seq (.region L69r3) (.regionD L69r4))) (.region L69r5))))))) (.seq (.region L69r6) .ret)))
theorem nt69 : Try.f69.ntmps = 19 := by kernel_rfl
theorem rs69 : Try.f69.results.toList = [.cell 4 22] := by kernel_rfl
theorem lite69 : Try.f69.body.map (lite okDraw) = some L69 := by kernel_rfl
def L70r0 : List AOp := [
  ⟨(some 10), .alloc 91, none, 0⟩,
  ⟨(some 11), .assign (.const .nilIface), none, 0⟩]
def L70r1 : List AOp := [
  ⟨(some 13), .move (.tmp 0), none, 0⟩,
  ⟨(some 14), .call { callee := .builtin .len, args := #[.tmp 13], argTypes := #[27] }, none, 0⟩,
  ⟨(some 15), .binOp .neq 3 (.tmp 14) (.const (.int .i64 32)) 3, none, 0⟩,
  ⟨(some 16), .move (.tmp 15), none, 0⟩,
  ⟨(some 17), .move (.tmp 1), (some (16, false)), 0⟩,
  ⟨(some 18), .call { callee := .builtin .len, args := #[.tmp 17], argTypes := #[27] }, (some (16, false)), 0⟩,
  ⟨(some 19), .binOp .neq 3 (.tmp 18) (.const (.int .i64 12)) 3, (some (16, false)), 0⟩,
  ⟨(some 20), .pick (.tmp 16) (.const (.bool true)) (.tmp 19), none, 0⟩,
  ⟨(some 12), .assign (.tmp 20), none, 0⟩]
def L70r2 : List AOp := [
  ⟨(some 21), .build 91 #[], none, 0⟩,
  ⟨(some 22), .makeInterface 41 (.const (.int .i64 1)), none, 0⟩,
  ⟨none, .store 91 (.tmp 10) (.tmp 21), none, 0⟩,
  ⟨(some 11), .assign (.tmp 22), none, 0⟩]
def L70r3 : List AOp := [
  ⟨(some 24), .move (.tmp 2), none, 0⟩,
  ⟨(some 25), .call { callee := .builtin .len, args := #[.tmp 24], argTypes := #[27] }, none, 0⟩,
  ⟨(some 26), .binOp .gtr 3 (.tmp 25) (.const (.int .i64 16777232)) 3, none, 0⟩,
  ⟨(some 27), .move (.tmp 26), none, 0⟩,
  ⟨(some 28), .move (.tmp 3), (some (27, false)), 0⟩,
  ⟨(some 29), .call { callee := .builtin .len, args := #[.tmp 28], argTypes := #[27] }, (some (27, false)), 0⟩,
  ⟨(some 30), .move (.tmp 4), (some (27, false)), 0⟩,
  ⟨(some 31), .binOp .gtr 3 (.tmp 29) (.tmp 30) 3, (some (27, false)), 0⟩,
  ⟨(some 32), .pick (.tmp 27) (.const (.bool true)) (.tmp 31), none, 0⟩,
  ⟨(some 23), .assign (.tmp 32), none, 0⟩]
def L70r4 : List AOp := [
  ⟨(some 33), .build 91 #[], none, 0⟩,
  ⟨(some 34), .makeInterface 41 (.const (.int .i64 2)), none, 0⟩,
  ⟨none, .store 91 (.tmp 10) (.tmp 33), none, 0⟩,
  ⟨(some 11), .assign (.tmp 34), none, 0⟩]
def L70r5 : List AOp := [
  ⟨(some 35), .move (.tmp 0), none, 0⟩,
  ⟨(some 36), .move (.tmp 1), none, 0⟩,
  ⟨(some 37), .build 91 #[(0, .tmp 35), (1, .tmp 36)], none, 0⟩,
  ⟨none, .store 91 (.tmp 10) (.tmp 37), none, 0⟩,
  ⟨(some 11), .assign (.const .nilIface), none, 0⟩]
def L70 : LC := (.seq (.region L70r0) (.seq (.block 0 (.seq (.region L70r1) (.cond (.tmp 12) (.seq (.region L70r2) .ret) (.seq (.region L70r3) (.cond (.tmp 23) (.seq (.region L70r4) .ret) .skip))))) (.seq (.region L70r5) .ret)))
theorem nt70 : Try.f70.ntmps = 38 := by kernel_rfl
theorem rs70 : Try.f70.results.toList = [.cell 10 91, .tmp 11] := by kernel_rfl
theorem lite70 : Try.f70.body.map (lite okDraw) = some L70 := by kernel_rfl
def L71r0 : List AOp := [
  ⟨(some 2), .box 91 (.tmp 0), none, 0⟩,
  ⟨(some 4), .assign (.const (.slice none 0 0)), none, 0⟩]
def L71r1 : List AOp := [
  ⟨(some 9), .move (.tmp 1), none, 0⟩,
  ⟨(some 10), .call { callee := .builtin .len, args := #[.tmp 9], argTypes := #[27] }, none, 0⟩,
  ⟨(some 11), .makeSlice 27 (.tmp 10) (.tmp 10), none, 0⟩,
  ⟨(some 5), .assign (.tmp 11), none, 0⟩]
def L71r2 : List AOp := [
  ⟨(some 6), .assign (.const (.int .i64 0)), none, 0⟩]
def L71r3 : List AOp := [
  ⟨(some 12), .move (.tmp 6), none, 0⟩,
  ⟨(some 13), .move (.tmp 1), none, 0⟩,
  ⟨(some 14), .call { callee := .builtin .len, args := #[.tmp 13], argTypes := #[27] }, none, 0⟩,
  ⟨(some 15), .binOp .lss 3 (.tmp 12) (.tmp 14) 3, none, 0⟩]
def L71r5 : List AOp := [
  ⟨(some 18), .load 91 (.tmp 2), none, 0⟩,
  ⟨(some 19), .move (.tmp 6), none, 0⟩,
  ⟨(some 20), .binOp .quo 3 (.tmp 19) (.const (.int .i64 16)) 3, none, 0⟩,
  ⟨(some 21), .binOp .add 3 (.const (.int .i64 2)) (.tmp 20) 3, none, 0⟩,
  ⟨(some 22), .convert 3 99 (.tmp 21), none, 0⟩,
  ⟨(some 23), .call { callee := .value (.func 76), args := #[.tmp 18, .tmp 22], argTypes := #[91, 99] }, none, 0⟩,
  ⟨(some 7), .alloc 22, none, 0⟩,
  ⟨none, .store 22 (.tmp 7) (.tmp 23), none, 0⟩]
def L71r6 : List AOp := [
  ⟨(some 24), .move (.tmp 6), none, 0⟩,
  ⟨(some 8), .assign (.tmp 24), none, 0⟩]
def L71r7 : List AOp := [
  ⟨(some 25), .move (.tmp 8), none, 0⟩,
  ⟨(some 26), .move (.tmp 6), none, 0⟩,
  ⟨(some 27), .binOp .add 3 (.tmp 26) (.const (.int .i64 16)) 3, none, 0⟩,
  ⟨(some 28), .move (.tmp 1), none, 0⟩,
  ⟨(some 29), .call { callee := .builtin .len, args := #[.tmp 28], argTypes := #[27] }, none, 0⟩,
  ⟨(some 30), .call { callee := .builtin .min, args := #[.tmp 27, .tmp 29], argTypes := #[3, 3] }, none, 0⟩,
  ⟨(some 31), .binOp .lss 3 (.tmp 25) (.tmp 30) 3, none, 0⟩]
def L71r9 : List AOp := [
  ⟨(some 34), .move (.tmp 5), none, 0⟩,
  ⟨(some 35), .move (.tmp 8), none, 0⟩,
  ⟨(some 36), .move (.tmp 1), none, 0⟩,
  ⟨(some 37), .move (.tmp 8), none, 0⟩,
  ⟨(some 38), .indexAddr 27 (.tmp 36) (.tmp 37), none, 12⟩,
  ⟨(some 39), .load 5 (.tmp 38), none, 28⟩,
  ⟨(some 40), .move (.tmp 8), none, 0⟩,
  ⟨(some 41), .move (.tmp 6), none, 0⟩,
  ⟨(some 42), .binOp .sub 3 (.tmp 40) (.tmp 41) 3, none, 192⟩,
  ⟨(some 43), .indexAddr 22 (.tmp 7) (.tmp 42), none, 448⟩,
  ⟨(some 44), .load 5 (.tmp 43), none, 960⟩,
  ⟨(some 45), .binOp .xor 5 (.tmp 39) (.tmp 44) 5, none, 2044⟩,
  ⟨(some 46), .indexAddr 27 (.tmp 34) (.tmp 35), none, 1267650600228229401496703209471⟩,
  ⟨none, .store 5 (.tmp 46) (.tmp 45), none, 1267650600228229401496703213567⟩]
def L71r8 : List AOp := [
  ⟨(some 32), .move (.tmp 8), none, 0⟩,
  ⟨(some 33), .binOp .add 3 (.tmp 32) (.const (.int .i64 1)) 3, none, 0⟩,
  ⟨(some 8), .assign (.tmp 33), none, 0⟩]
def L71r4 : List AOp := [
  ⟨(some 16), .move (.tmp 6), none, 0⟩,
  ⟨(some 17), .binOp .add 3 (.tmp 16) (.const (.int .i64 16)) 3, none, 0⟩,
  ⟨(some 6), .assign (.tmp 17), none, 0⟩]
def L71r10 : List AOp := [
  ⟨(some 47), .move (.tmp 5), none, 0⟩,
  ⟨(some 4), .assign (.tmp 47), none, 0⟩]
def L71 : LC := (.seq (.region L71r0) (.seq (.region L71r1) (.seq (.seq (.region L71r2) (.block 0 (.loop (.seq (.seq (.region L71r3) (.cond (.tmp 15) .skip (.exit 0))) (.seq (.block 1 (.seq (.region L71r5) (.seq (.region L71r6) (.block 2 (.loop (.seq (.seq (.region L71r7) (.cond (.tmp 31) .skip (.exit 2))) (.seq (.block 3 (.regionD L71r9)) (.region L71r8)))))))) (.region L71r4)))))) (.seq (.region L71r10) .ret))))
theorem nt71 : Try.f71.ntmps = 48 := by kernel_rfl
theorem rs71 : Try.f71.results.toList = [.tmp 4] := by kernel_rfl
theorem lite71 : Try.f71.body.map (lite okDraw) = some L71 := by kernel_rfl
def L72r0 : List AOp := [
  ⟨(some 3), .box 91 (.tmp 0), none, 0⟩,
  ⟨(some 6), .assign (.const (.slice none 0 0)), none, 0⟩]
def L72r1 : List AOp := [
  ⟨(some 10), .load 91 (.tmp 3), none, 0⟩,
  ⟨(some 11), .build 22 #[], none, 0⟩,
  ⟨(some 12), .call { callee := .value (.func 77), args := #[.tmp 10, .tmp 11], argTypes := #[91, 22] }, none, 0⟩,
  ⟨(some 13), .move (.tmp 1), none, 0⟩,
  ⟨(some 14), .move (.tmp 2), none, 0⟩,
  ⟨(some 15), .call { callee := .value (.func 45), args := #[.tmp 12, .tmp 13, .tmp 14], argTypes := #[22, 27, 27] }, none, 0⟩,
  ⟨(some 7), .alloc 22, none, 0⟩,
  ⟨none, .store 22 (.tmp 7) (.tmp 15), none, 0⟩]
def L72r2 : List AOp := [
  ⟨(some 16), .load 91 (.tmp 3), none, 0⟩,
  ⟨(some 17), .call { callee := .value (.func 76), args := #[.tmp 16, .const (.int .u32 1)], argTypes := #[91, 99] }, none, 0⟩,
  ⟨(some 8), .alloc 22, none, 0⟩,
  ⟨none, .store 22 (.tmp 8) (.tmp 17), none, 0⟩]
def L72r3 : List AOp := [
  ⟨(some 18), .move (.const (.int .i64 0)), none, 0⟩]
def L72r4 : List AOp := [
  ⟨(some 19), .binOp .lss 3 (.tmp 18) (.const (.int .i64 16)) 3, none, 0⟩]
def L72r5 : List AOp := [
  ⟨(some 20), .move (.tmp 18), none, 0⟩,
  ⟨(some 9), .assign (.tmp 20), none, 0⟩]
def L72r6 : List AOp := [
  ⟨(some 21), .move (.tmp 9), none, 0⟩,
  ⟨(some 22), .indexAddr 22 (.tmp 7) (.tmp 21), none, 1⟩,
  ⟨(some 23), .load 5 (.tmp 22), none, 3⟩,
  ⟨(some 24), .move (.tmp 9), none, 0⟩,
  ⟨(some 25), .indexAddr 22 (.tmp 8) (.tmp 24), none, 8⟩,
  ⟨(some 26), .load 5 (.tmp 25), none, 24⟩,
  ⟨(some 27), .binOp .xor 5 (.tmp 23) (.tmp 26) 5, none, 1267650600228229401496703205439⟩,
  ⟨(some 28), .indexAddr 22 (.tmp 7) (.tmp 21), none, 1267650600228229401496703205503⟩,
  ⟨none, .store 5 (.tmp 28) (.tmp 27), none, 1267650600228229401496703205631⟩]
def L72r7 : List AOp := [
  ⟨(some 29), .binOp .add 3 (.tmp 18) (.const (.int .i64 1)) 3, none, 0⟩,
  ⟨(some 18), .move (.tmp 29), none, 0⟩]
def L72r8 : List AOp := [
  ⟨(some 30), .slice 22 (.tmp 7) none none none, none, 0⟩,
  ⟨(some 6), .assign (.tmp 30), none, 0⟩]
def L72 : LC := (.seq (.region L72r0) (.seq (.region L72r1) (.seq (.region L72r2) (.seq (.seq (.region L72r3) (.block 0 (.loop (.seq (.region L72r4) (.seq (.cond (.tmp 19) .skip (.exit 0)) (.seq (.block 1 (.seq (.region L72r5) (.regionD L72r6))) (.region L72r7))))))) (.seq (.region L72r8) .ret)))))
theorem nt72 : Try.f72.ntmps = 31 := by kernel_rfl
theorem rs72 : Try.f72.results.toList = [.tmp 6] := by kernel_rfl
theorem lite72 : Try.f72.body.map (lite okDraw) = some L72 := by kernel_rfl
def L76r0 : List AOp := [
  ⟨(some 2), .box 91 (.tmp 0), none, 0⟩,
  ⟨(some 4), .alloc 22, none, 0⟩]
def L76r1 : List AOp := [
  ⟨(some 5), .alloc 22, none, 0⟩]
def L76r2 : List AOp := [
  ⟨(some 7), .slice 22 (.tmp 5) none none none, none, 0⟩,
  ⟨(some 8), .fieldAddr 91 (.tmp 2) 1, none, 0⟩,
  ⟨(some 9), .load 27 (.tmp 8), none, 2⟩,
  ⟨(some 10), .call { callee := .builtin .copy, args := #[.tmp 7, .tmp 9], argTypes := #[27, 27] }, none, 1267650600228229401496703205383⟩]
def L76r3 : List AOp := [
  ⟨(some 11), .move (.const (.int .i64 0)), none, 0⟩]
def L76r4 : List AOp := [
  ⟨(some 12), .binOp .lss 3 (.tmp 11) (.const (.int .i64 4)) 3, none, 0⟩]
def L76r5 : List AOp := [
  ⟨(some 13), .move (.tmp 11), none, 0⟩,
  ⟨(some 6), .assign (.tmp 13), none, 0⟩]
def L76r6 : List AOp := [
  ⟨(some 14), .move (.tmp 6), none, 0⟩,
  ⟨(some 15), .binOp .sub 3 (.const (.int .i64 15)) (.tmp 14) 3, none, 0⟩,
  ⟨(some 16), .move (.tmp 1), none, 0⟩,
  ⟨(some 17), .move (.tmp 6), none, 0⟩,
  ⟨(some 18), .binOp .mul 3 (.const (.int .i64 8)) (.tmp 17) 3, none, 0⟩,
  ⟨(some 19), .binOp .shr 99 (.tmp 16) (.tmp 18) 3, none, 0⟩,
  ⟨(some 20), .convert 99 5 (.tmp 19), none, 0⟩,
  ⟨(some 21), .indexAddr 22 (.tmp 5) (.tmp 15), none, 0⟩,
  ⟨none, .store 5 (.tmp 21) (.tmp 20), none, 0⟩]
def L76r7 : List AOp := [
  ⟨(some 22), .binOp .add 3 (.tmp 11) (.const (.int .i64 1)) 3, none, 0⟩,
  ⟨(some 11), .move (.tmp 22), none, 0⟩]
def L76r8 : List AOp := [
  ⟨(some 23), .load 91 (.tmp 2), none, 0⟩,
  ⟨(some 24), .load 22 (.tmp 5), none, 0⟩,
  ⟨(some 25), .call { callee := .value (.func 77), args := #[.tmp 23, .tmp 24], argTypes := #[91, 22] }, none, 0⟩,
  ⟨none, .store 22 (.tmp 4) (.tmp 25), none, 0⟩]
def L76 : LC := (.seq (.region L76r0) (.seq (.region L76r1) (.seq (.regionD L76r2) (.seq (.seq (.region L76r3) (.block 0 (.loop (.seq (.region L76r4) (.seq (.cond (.tmp 12) .skip (.exit 0)) (.seq (.block 1 (.seq (.region L76r5) (.region L76r6))) (.region L76r7))))))) (.seq (.region L76r8) .ret)))))
theorem nt76 : Try.f76.ntmps = 26 := by kernel_rfl
theorem rs76 : Try.f76.results.toList = [.cell 4 22] := by kernel_rfl
theorem lite76 : Try.f76.body.map (lite okDraw) = some L76 := by kernel_rfl
def L77r0 : List AOp := [
  ⟨(some 2), .box 91 (.tmp 0), none, 0⟩,
  ⟨(some 3), .box 22 (.tmp 1), none, 0⟩,
  ⟨(some 4), .alloc 22, none, 0⟩]
def L77r1 : List AOp := [
  ⟨(some 8), .fieldAddr 91 (.tmp 2) 0, none, 0⟩,
  ⟨(some 9), .load 27 (.tmp 8), none, 0⟩,
  ⟨(some 10), .load 22 (.tmp 3), none, 0⟩,
  ⟨(some 11), .call { callee := .value (.func 50), args := #[.tmp 9, .tmp 10], argTypes := #[27, 22] }, none, 0⟩,
  ⟨(some 7), .move (.tmp 11), none, 0⟩,
  ⟨(some 12), .extract (.tmp 7) 0, none, 0⟩,
  ⟨(some 13), .extract (.tmp 7) 1, none, 0⟩,
  ⟨(some 5), .alloc 22, none, 0⟩,
  ⟨none, .store 22 (.tmp 5) (.tmp 12), none, 0⟩,
  ⟨(some 6), .assign (.tmp 13), none, 0⟩]
def L77r2 : List AOp := [
  ⟨(some 14), .move (.tmp 6), none, 0⟩,
  ⟨(some 15), .binOp .neq 38 (.tmp 14) (.const .nilIface) 38, none, 0⟩]
def L77r3 : List AOp := [
  ⟨(some 16), .build 22 #[], none, 0⟩,
  ⟨none, .store 22 (.tmp 4) (.tmp 16), none, 0⟩]
def L77r4 : List AOp := [
  ⟨(some 17), .load 22 (.tmp 5), none, 0⟩,
  ⟨none, .store 22 (.tmp 4) (.tmp 17), none, 0⟩]
def L77 : LC := (.seq (.region L77r0) (.seq (.region L77r1) (.seq (.seq (.region L77r2) (.cond (.tmp 15) (.seq (.region L77r3) .ret) .skip)) (.seq (.region L77r4) .ret))))
theorem nt77 : Try.f77.ntmps = 18 := by kernel_rfl
theorem rs77 : Try.f77.results.toList = [.cell 4 22] := by kernel_rfl
theorem lite77 : Try.f77.body.map (lite okDraw) = some L77 := by kernel_rfl
end Eng


namespace Eng
open Go Go.Proofs Go.ChangeShapes Go.WideShapes Go.ChangeAt Go.RowKit
def B16 (a : List Int) : Prop := a.length = 16 ∧ ∀ x ∈ a, 0 ≤ x ∧ x < 256
def I64 (i : Int) : Prop := -9223372036854775808 ≤ i ∧ i < 9223372036854775808
def U8 (n : Int) : Prop := 0 ≤ n ∧ n < 256
theorem B16.at {a : List Int} (h : B16 a) (j : Nat) : U8 (a.getD j 0) := by
  rcases Nat.lt_or_ge j a.length with hj | hj
  · rw [List.getD_eq_getElem?_getD, List.getElem?_eq_getElem hj, Option.getD_some]
    exact h.2 _ (List.getElem_mem hj)
  · rw [List.getD_eq_getElem?_getD, List.getElem?_eq_none hj]
    exact ⟨by decide, by decide⟩
theorem own : ownKnob Try.prog.godebug = none := by kernel_rfl
theorem laidOut : laidOutB Try.prog = true := by kernel_rfl
theorem I64_of {x : Int} (h : IntKind.i64.min ≤ x ∧ x ≤ IntKind.i64.max) : I64 x := by
  have h0 : IntKind.i64.min = -9223372036854775808 := by decide
  have h1 : IntKind.i64.max = 9223372036854775807 := by decide
  unfold I64; omega
theorem U8_of {x : Int} (h : IntKind.u8.min ≤ x ∧ x ≤ IntKind.u8.max) : U8 x := by
  have h0 : IntKind.u8.min = 0 := by decide
  have h1 : IntKind.u8.max = 255 := by decide
  unfold U8; omega
theorem U8L_of {xs : List Int} (h : ∀ x ∈ xs, IntKind.u8.min ≤ x ∧ x ≤ IntKind.u8.max) : U8L xs := fun x hx => U8_of (h x hx)
theorem len_of {n : Nat} (h : n ≤ maxLen) : n ≤ 9223372036854775807 := by
  have : maxLen = 9223372036854775807 := by decide
  omega
theorem co5 : Try.prog.cellsOf 5 = 1 := by kernel_rfl
end Eng


namespace Eng
open Go
/- Bytes as bit vectors. -/
theorem w8_nat (v : BitVec 8) : IntKind.u8.wrap (v.toNat : Int) = (v.toNat : Int) := wrap_u8 (by omega) (by have := v.isLt; omega)
theorem ofInt8_toNat {x : Int} (h0 : 0 ≤ x) (h1 : x < 256) : (BitVec.ofInt 8 x).toNat = x.toNat := ofInt_toNat h0 (by omega)
theorem ofInt8_bv (v : BitVec 8) : BitVec.ofInt 8 (v.toNat : Int) = v := by
  apply BitVec.eq_of_toNat_eq
  rw [ofInt8_toNat (by omega) (by have := v.isLt; omega)]; simp
theorem bv8_ofInt {x : Int} (h0 : 0 ≤ x) (h1 : x < 256) : ((BitVec.ofInt 8 x).toNat : Int) = x := by
  rw [ofInt8_toNat h0 h1]; omega
theorem andZ_u8 (a b : Int) : andZ .u8 a b = ((BitVec.ofInt 8 a &&& BitVec.ofInt 8 b).toNat : Int) := w8_nat _
theorem orZ_u8 (a b : Int) : orZ .u8 a b = ((BitVec.ofInt 8 a ||| BitVec.ofInt 8 b).toNat : Int) := w8_nat _
theorem xorZ_u8 (a b : Int) : xorZ .u8 a b = ((BitVec.ofInt 8 a ^^^ BitVec.ofInt 8 b).toNat : Int) := w8_nat _
theorem xorZ_u8_bv (a b : BitVec 8) : xorZ .u8 (a.toNat : Int) (b.toNat : Int) = ((a ^^^ b).toNat : Int) := by rw [xorZ_u8, ofInt8_bv, ofInt8_bv]
theorem andZ_u8_bv (a b : BitVec 8) : andZ .u8 (a.toNat : Int) (b.toNat : Int) = ((a &&& b).toNat : Int) := by rw [andZ_u8, ofInt8_bv, ofInt8_bv]
theorem negZ_u8_bv (a : BitVec 8) : IntKind.u8.wrap (0 - (a.toNat : Int)) = ((-a).toNat : Int) := by
  rw [wrap_u8_mod, BitVec.toNat_neg]
  have := a.isLt
  omega
theorem shlZ_u8_bv (a : BitVec 8) (n : Nat) (hn : n < 8) : shlZ .u8 (a.toNat : Int) (n : Int) = ((a <<< n).toNat : Int) := by
  have h : shlZ .u8 (a.toNat : Int) (n : Int) = IntKind.u8.wrap ((a.toNat : Int) * 2 ^ (min (n : Int).toNat 8)) := rfl
  rw [h, wrap_u8_mod, BitVec.toNat_shiftLeft, Nat.shiftLeft_eq, Int.toNat_natCast, Nat.min_eq_left (by omega), Int.natCast_emod, Int.natCast_mul, Int.natCast_pow]
  rfl
theorem shrZ_u8_bv (a : BitVec 8) (n : Nat) (hn : n < 8) : shrZ .u8 (a.toNat : Int) (n : Int) = ((a >>> n).toNat : Int) := by
  have h : shrZ .u8 (a.toNat : Int) (n : Int) = (a.toNat : Int).fdiv (2 ^ (min (n : Int).toNat 8)) := rfl
  rw [h, BitVec.toNat_ushiftRight, Nat.shiftRight_eq_div_pow, Int.toNat_natCast, Nat.min_eq_left (by omega), Int.fdiv_eq_ediv_of_nonneg _ (by exact Int.le_of_lt (Int.pow_pos (by decide))), Int.natCast_ediv, Int.natCast_pow]
  rfl
end Eng


namespace Eng
open Go
set_option linter.unusedSimpArgs false
/-! Products of bytes: plain laws. -/
/-- One doubling in the field of bytes. -/
def xt (v : BitVec 8) : BitVec 8 := (v <<< 1) ^^^ (27#8 &&& -(v >>> 7))
def xtn (v : BitVec 8) : Nat → BitVec 8
  | 0 => v
  | i + 1 => xt (xtn v i)
def prodN (a b : BitVec 8) : Nat → BitVec 8
  | 0 => 0#8
  | i + 1 => prodN a b i ^^^ (xtn a i &&& -((b >>> i) &&& 1#8))
def prod (a b : BitVec 8) : BitVec 8 := prodN a b 8

theorem mask_bit (b : BitVec 8) (i : Nat) : -((b >>> i) &&& 1#8) = if b.getLsbD i then BitVec.allOnes 8 else 0#8 := by
  have h : (b >>> i) &&& 1#8 = if b.getLsbD i then 1#8 else 0#8 := by
    apply BitVec.eq_of_toNat_eq
    rw [BitVec.toNat_and, show (1#8).toNat = 1 from rfl, Nat.and_one_is_mod, BitVec.toNat_ushiftRight, Nat.shiftRight_eq_div_pow]
    have e : b.getLsbD i = decide (b.toNat / 2 ^ i % 2 = 1) := Nat.testBit_eq_decide_div_mod_eq
    rw [e]
    by_cases hh : b.toNat / 2 ^ i % 2 = 1
    · simp [hh]
    · have : b.toNat / 2 ^ i % 2 = 0 := by omega
      simp [this]
  rw [h]
  split <;> rfl
/-! Substitutes. -/
def invS (a : BitVec 8) : Nat → BitVec 8 × BitVec 8
  | 0 => (1#8, a)
  | n + 1 => (prod (invS a n).1 (prod (invS a n).2 (invS a n).2), prod (invS a n).2 (invS a n).2)
def inv (a : BitVec 8) : BitVec 8 := (invS a 7).1
def sboxI (v : BitVec 8) : BitVec 8 := v ^^^ v.rotateLeft 1 ^^^ v.rotateLeft 2 ^^^ v.rotateLeft 3 ^^^ v.rotateLeft 4 ^^^ 99#8
def sbox (a : BitVec 8) : BitVec 8 := sboxI (inv a)
end Eng


namespace Eng
open Go

def D32 (l : List Int) : Prop := ∀ x ∈ l, 0 ≤ x ∧ x < 4294967296
theorem D32.at {l : List Int} (h : D32 l) (i : Nat) : 0 ≤ l.getD i 0 ∧ l.getD i 0 < 4294967296 := by
  rcases Nat.lt_or_ge i l.length with hj | hj
  · rw [List.getD_eq_getElem?_getD, List.getElem?_eq_getElem hj, Option.getD_some]
    exact h _ (List.getElem_mem hj)
  · rw [List.getD_eq_getElem?_getD, List.getElem?_eq_none hj]
    exact ⟨by decide, by decide⟩
end Eng


namespace Eng
open Go Go.Proofs
set_option linter.unusedSimpArgs false
set_option linter.unusedVariables false
noncomputable def S25 : List AV → Option Ret := nz (sumOf (fun p : BitVec 8 × BitVec 8 => match p with | (a, b) => True) (fun p : BitVec 8 × BitVec 8 => match p with | (a, b) => [.int .u8 (a.toNat : Nat), .int .u8 (b.toNat : Nat)]) (fun p : BitVec 8 × BitVec 8 => match p with | (a, b) => ⟨.int .u8 ((prod a b).toNat : Nat), none⟩))
theorem S25_eq (a : BitVec 8) (b : BitVec 8)  : S25 [.int .u8 (a.toNat : Nat), .int .u8 (b.toNat : Nat)] = some ⟨.int .u8 ((prod a b).toNat : Nat), none⟩ :=
  sumOf_eq (dom := (fun p : BitVec 8 × BitVec 8 => match p with | (a, b) => True)) (enc := (fun p : BitVec 8 × BitVec 8 => match p with | (a, b) => [.int .u8 (a.toNat : Nat), .int .u8 (b.toNat : Nat)])) (out := (fun p : BitVec 8 × BitVec 8 => match p with | (a, b) => ⟨.int .u8 ((prod a b).toNat : Nat), none⟩)) (a, b) trivial (fun y _ e => by
    obtain ⟨y0, y1⟩ := y
    simp only [List.cons.injEq, AV.int.injEq, Int.ofNat_inj, BitVec.toNat_inj, true_and, and_true] at e
    first | with_reducible rfl | simp only [e] | rfl)
theorem S25_inv {args : List AV} {r : Ret} (h : sumOf (fun p : BitVec 8 × BitVec 8 => match p with | (a, b) => True) (fun p : BitVec 8 × BitVec 8 => match p with | (a, b) => [.int .u8 (a.toNat : Nat), .int .u8 (b.toNat : Nat)]) (fun p : BitVec 8 × BitVec 8 => match p with | (a, b) => ⟨.int .u8 ((prod a b).toNat : Nat), none⟩) args = some r) : ∃ (a : BitVec 8) (b : BitVec 8), (True) ∧ args = [.int .u8 (a.toNat : Nat), .int .u8 (b.toNat : Nat)] ∧ r = ⟨.int .u8 ((prod a b).toNat : Nat), none⟩ := by
  obtain ⟨x, h1, h2, h3⟩ := sumOf_inv h
  obtain ⟨a, b⟩ := x
  exact ⟨a, b, h1, h2.symm, h3⟩


def St25 (a b : BitVec 8) (i : Nat) : AState := { nt := 28, env := [(0, .int .u8 ((xtn a i).toNat : Nat)), (1, .int .u8 (b.toNat : Nat)), (5, .int .u8 ((prodN a b i).toNat : Nat)), (7, .int .i64 i)], mem := [], next := 20 }

theorem and_one8 (v : BitVec 8) : andZ .u8 (v.toNat : Int) 1 = ((v &&& 1#8).toNat : Int) := andZ_u8_bv v 1#8
theorem and_278 (v : BitVec 8) : andZ .u8 27 (v.toNat : Int) = ((27#8 &&& v).toNat : Int) := andZ_u8_bv 27#8 v
theorem shl_one8 (v : BitVec 8) : shlZ .u8 (v.toNat : Int) 1 = ((v <<< 1).toNat : Int) := shlZ_u8_bv v 1 (by decide)
theorem shr_seven8 (v : BitVec 8) : shrZ .u8 (v.toNat : Int) 7 = ((v >>> 7).toNat : Int) := shrZ_u8_bv v 7 (by decide)

set_option maxRecDepth 100000 in
theorem snd25 : SndE Try.prog NoG 25 S25 := by
  refine snd_nz (snd_by [] [] Try.func25 (by kernel_rfl) lite25 nt25 rs25 trivial trivial (fun hT args r h => ?_))
  obtain ⟨a, b, _, rfl, rfl⟩ := S25_inv h
  clear h
  have hM := hM0
  refine ⟨Nat.le_of_ble_eq_true rfl, fun F => ?_⟩
  unfold L25
  refine Lwp.seq (Lwp.regI hT ?_)
  simp only [L25r0, go_sem, eq_self, Nat.reduceLT, decide_true]
  refine Lwp.seq (Lwp.regI hT ?_)
  simp only [L25r1, go_sem, eq_self, Nat.reduceAdd, Nat.reduceLT, decide_true]
  refine Lwp.seq ?_
  refine Lwp.seq (Lwp.regI hT ?_)
  simp only [L25r2, go_sem, eq_self, Nat.reduceAdd, Nat.reduceLT, decide_true]
  refine Lwp.block (Lwp.range (St25 a b) 8 ?_ (fun i hi => ?_) ?_)
  · refine weak_of rfl ?_ ?_ ?_
    · (simp only [go_sem, eq_self, Nat.reduceEqDiff, reduceCtorEq, St25, xtn, prodN]; try rfl)
    · (simp only [go_sem, St25, xtn, prodN]; try rfl)
    · (simp only [go_sem, eq_self, St25, xtn, prodN]; try rfl)
  · have h1 : (i : Int) < 8 := by omega
    have h2 : ¬ (i : Int) < 0 := by omega
    have h4 := wrap_succ hi (by decide)
    have e1 := shrZ_u8_bv b i hi
    unfold St25
    refine Lwp.seq (Lwp.regI hT ?_)
    simp only [L25r3, go_sem, eq_self, Nat.reduceAdd, Nat.reduceLT, Nat.reduceEqDiff, reduceCtorEq, decide_true, h1]
    refine Lwp.seq (Lwp.cond rfl (fun _ => Lwp.skip ?_) (fun h => by cases h))
    refine Lwp.seq (Lwp.block ?_)
    refine Lwp.seq (Lwp.regI hT ?_)
    simp only [L25r4, go_sem, eq_self, Nat.reduceAdd, Nat.reduceLT, Nat.reduceEqDiff, reduceCtorEq, decide_true]
    refine Lwp.seq (Lwp.regI hT ?_)
    simp only [L25r5, go_sem, eq_self, Nat.reduceAdd, Nat.reduceLT, Nat.reduceEqDiff, reduceCtorEq, decide_true, h2, e1, and_one8, negZ_u8_bv, andZ_u8_bv, xorZ_u8_bv]
    refine Lwp.regI hT ?_
    simp only [L25r6, go_sem, eq_self, Nat.reduceAdd, Nat.reduceLT, Nat.reduceEqDiff, Int.reduceLT, reduceCtorEq, decide_true, shl_one8, shr_seven8, negZ_u8_bv, and_278, xorZ_u8_bv]
    refine Lwp.regI hT ?_
    simp only [L25r7, go_sem, eq_self, Nat.reduceAdd, Nat.reduceLT, Nat.reduceEqDiff, reduceCtorEq, decide_true, h4]
    refine weak_of rfl ?_ ?_ ?_
    · (simp only [go_sem, eq_self, Nat.reduceEqDiff, reduceCtorEq, xtn, xt, prodN]; try rfl)
    · (simp only [go_sem]; try rfl)
    · (simp only [go_sem, eq_self]; try rfl)
  · unfold St25
    refine Lwp.seq (Lwp.regI hT ?_)
    simp only [L25r3, go_sem, eq_self, Nat.reduceAdd, Nat.reduceLT, Nat.reduceEqDiff, Int.reduceLT, reduceCtorEq, decide_true, decide_false]
    refine Lwp.seq (Lwp.cond rfl (fun h => by cases h) (fun _ => Lwp.exit ?_))
    simp only [go_sem, eq_self]
    refine Lwp.seq (Lwp.regI hT ?_)
    simp only [L25r8, go_sem, eq_self, Nat.reduceAdd, Nat.reduceLT, Nat.reduceEqDiff, reduceCtorEq, decide_true]
    refine Lwp.ret (post_val (v := .int .u8 ((prod a b).toNat : Nat)) ?_ ?_)
    · simp only [go_sem, eq_self, Nat.reduceEqDiff, reduceCtorEq, prod]
    · simp only [go_sem, eq_self]
end Eng


namespace Eng
open Go Go.Proofs
set_option linter.unusedSimpArgs false
set_option linter.unusedVariables false
/-! States of 16 bytes. -/
abbrev St := Nat → BitVec 8
def bl (S : St) : List Int := tab 16 (fun j => ((S j).toNat : Int))
def sb (s : List Int) : St := fun j => BitVec.ofInt 8 (s.getD j 0)
theorem bl_len (S : St) : (bl S).length = 16 := tab_len _ _
theorem bl_B16 (S : St) : B16 (bl S) := ⟨bl_len S, fun x hx => by
  simp only [bl, tab, List.mem_map] at hx
  obtain ⟨j, _, rfl⟩ := hx
  have := (S j).isLt
  omega⟩
def mixC (a b c d : BitVec 8) : BitVec 8 := prod 2#8 a ^^^ prod 3#8 b ^^^ c ^^^ d
def mixS (S : St) : St := fun j => mixC (S (4 * (j / 4) + j % 4)) (S (4 * (j / 4) + (j % 4 + 1) % 4)) (S (4 * (j / 4) + (j % 4 + 2) % 4)) (S (4 * (j / 4) + (j % 4 + 3) % 4))
def mixed (s : List Int) : List Int := bl (mixS (sb s))
theorem mixS_at (S : St) (c r : Nat) (hr : r < 4) : mixS S (4 * c + r) = mixC (S (4 * c + r)) (S (4 * c + (r + 1) % 4)) (S (4 * c + (r + 2) % 4)) (S (4 * c + (r + 3) % 4)) := by
  unfold mixS
  rw [show (4 * c + r) / 4 = c by omega, show (4 * c + r) % 4 = r by omega]
theorem mixed_B16 (s : List Int) : B16 (mixed s) := bl_B16 _
theorem mixed_len (s : List Int) : (mixed s).length = 16 := bl_len _

noncomputable def S64 : List AV → Option Ret := nz (sumOf (fun p : List Int × Nat × Nat × Nat => match p with | (s, c, ro, k) => (B16 s) ∧ (c < 4) ∧ (ro < 4) ∧ (k < 4)) (fun p : List Int × Nat × Nat × Nat => match p with | (s, c, ro, k) => [.int .i64 k, .iptr (ints .u8 s) 0, .iptr [.int .i64 c] 0, .iptr [.int .i64 ro] 0]) (fun p : List Int × Nat × Nat × Nat => match p with | (s, c, ro, k) => ⟨.int .u8 (s.getD (4 * c + (ro + k) % 4) 0), none⟩))
theorem S64_eq (s : List Int) (c : Nat) (ro : Nat) (k : Nat) (h0 : B16 s) (h1 : c < 4) (h2 : ro < 4) (h3 : k < 4) : S64 [.int .i64 k, .iptr (ints .u8 s) 0, .iptr [.int .i64 c] 0, .iptr [.int .i64 ro] 0] = some ⟨.int .u8 (s.getD (4 * c + (ro + k) % 4) 0), none⟩ :=
  sumOf_eq (dom := (fun p : List Int × Nat × Nat × Nat => match p with | (s, c, ro, k) => (B16 s) ∧ (c < 4) ∧ (ro < 4) ∧ (k < 4))) (enc := (fun p : List Int × Nat × Nat × Nat => match p with | (s, c, ro, k) => [.int .i64 k, .iptr (ints .u8 s) 0, .iptr [.int .i64 c] 0, .iptr [.int .i64 ro] 0])) (out := (fun p : List Int × Nat × Nat × Nat => match p with | (s, c, ro, k) => ⟨.int .u8 (s.getD (4 * c + (ro + k) % 4) 0), none⟩)) (s, c, ro, k) ⟨h0, h1, h2, h3⟩ (fun y _ e => by
    obtain ⟨y0, y1, y2, y3⟩ := y
    simp only [List.cons.injEq, AV.int.injEq, AV.iptr.injEq, ints_injEq, Int.ofNat_inj, true_and, and_true] at e
    first | with_reducible rfl | simp only [e] | rfl)
theorem S64_inv {args : List AV} {r : Ret} (h : sumOf (fun p : List Int × Nat × Nat × Nat => match p with | (s, c, ro, k) => (B16 s) ∧ (c < 4) ∧ (ro < 4) ∧ (k < 4)) (fun p : List Int × Nat × Nat × Nat => match p with | (s, c, ro, k) => [.int .i64 k, .iptr (ints .u8 s) 0, .iptr [.int .i64 c] 0, .iptr [.int .i64 ro] 0]) (fun p : List Int × Nat × Nat × Nat => match p with | (s, c, ro, k) => ⟨.int .u8 (s.getD (4 * c + (ro + k) % 4) 0), none⟩) args = some r) : ∃ (s : List Int) (c : Nat) (ro : Nat) (k : Nat), ((B16 s) ∧ (c < 4) ∧ (ro < 4) ∧ (k < 4)) ∧ args = [.int .i64 k, .iptr (ints .u8 s) 0, .iptr [.int .i64 c] 0, .iptr [.int .i64 ro] 0] ∧ r = ⟨.int .u8 (s.getD (4 * c + (ro + k) % 4) 0), none⟩ := by
  obtain ⟨x, h1, h2, h3⟩ := sumOf_inv h
  obtain ⟨s, c, ro, k⟩ := x
  exact ⟨s, c, ro, k, h1, h2.symm, h3⟩


set_option maxRecDepth 100000 in
theorem snd64 : SndE Try.prog NoG 64 S64 := by
  refine snd_nz (snd_by [] [] Try.func64 (by kernel_rfl) lite64 nt64 rs64 trivial trivial (fun hT args r h => ?_))
  obtain ⟨s, c, ro, k, ⟨hd0, hd1, hd2, hd3⟩, rfl, rfl⟩ := S64_inv h
  clear h
  have hM := hM0
  refine ⟨Nat.le_of_ble_eq_true rfl, fun F => ?_⟩
  unfold L64
  have hl := hd0.1
  have e1 : IntKind.i64.wrap (4 * (c : Int)) = 4 * (c : Int) := wrap_i64 (by omega) (by omega)
  have e2 : IntKind.i64.wrap ((ro : Int) + (k : Int)) = (ro : Int) + (k : Int) := wrap_i64 (by omega) (by omega)
  have e3 : ((ro : Int) + (k : Int)).tmod 4 = (((ro + k) % 4 : Nat) : Int) := by rw [Int.tmod_eq_emod_of_nonneg (by omega)]; omega
  have e4 : IntKind.i64.wrap (4 * (c : Int) + (((ro + k) % 4 : Nat) : Int)) = ((4 * c + (ro + k) % 4 : Nat) : Int) := by rw [wrap_i64 (by omega) (by omega)]; omega
  have k1 : (0 : Int) ≤ ((4 * c + (ro + k) % 4 : Nat) : Int) := by omega
  have k2 : ((4 * c + (ro + k) % 4 : Nat) : Int) < 16 := by omega
  have k3 : 4 * c + (ro + k) % 4 < 16 := by omega
  have k4 : 4 * c + (ro + k) % 4 ≤ 15 := by omega
  refine Lwp.seq (Lwp.regI hT ?_)
  simp only [L64r0, go_sem, eq_self, Nat.reduceAdd, Nat.reduceLT, decide_true]
  generalize 4 * c + (ro + k) % 4 = q at *
  refine Lwp.seq (Lwp.regI hT ?_)
  simp only [L64r1, go_sem, eq_self, Nat.reduceAdd, Nat.reduceLT, Nat.reduceLeDiff, Nat.reduceEqDiff, Int.reduceEq, reduceCtorEq, decide_true, Bool.false_eq_true, ty3, ty5, ty22, e1, e2, e3, e4, k1, k2, k3, k4, hl, List.getD_cons_zero]
  refine Lwp.ret (post_val (v := .int .u8 (s.getD q 0)) ?_ ?_)
  · simp only [go_sem, eq_self, Nat.reduceEqDiff, reduceCtorEq]
  · simp only [go_sem, eq_self]
end Eng


namespace Eng
open Go Go.Proofs
set_option linter.unusedSimpArgs false
set_option linter.unusedVariables false
def mixI (s : List Int) (j : Nat) : Int := ((mixS (sb s) j).toNat : Int)
noncomputable def S36 : List AV → Option Ret := nz (sumOf (fun p : List Int => match p with | s => (B16 s)) (fun p : List Int => match p with | s => [.agg (ints .u8 s)]) (fun p : List Int => match p with | s => ⟨.agg (ints .u8 (mixed s)), none⟩))
theorem S36_eq (s : List Int) (h0 : B16 s) : S36 [.agg (ints .u8 s)] = some ⟨.agg (ints .u8 (mixed s)), none⟩ :=
  sumOf_eq (dom := (fun p : List Int => match p with | s => (B16 s))) (enc := (fun p : List Int => match p with | s => [.agg (ints .u8 s)])) (out := (fun p : List Int => match p with | s => ⟨.agg (ints .u8 (mixed s)), none⟩)) s h0 (fun y _ e => by
    simp only [List.cons.injEq, AV.agg.injEq, ints_injEq, and_true] at e
    first | with_reducible rfl | simp only [e] | rfl)
theorem S36_inv {args : List AV} {r : Ret} (h : sumOf (fun p : List Int => match p with | s => (B16 s)) (fun p : List Int => match p with | s => [.agg (ints .u8 s)]) (fun p : List Int => match p with | s => ⟨.agg (ints .u8 (mixed s)), none⟩) args = some r) : ∃ (s : List Int), ((B16 s)) ∧ args = [.agg (ints .u8 s)] ∧ r = ⟨.agg (ints .u8 (mixed s)), none⟩ := by
  obtain ⟨x, h1, h2, h3⟩ := sumOf_inv h
  exact ⟨x, h1, h2.symm, h3⟩


def St36 (s : List Int) (c : Nat) : AState := { nt := 35, env := [(1, .own 0 0), (2, .own 1 0), (3, .own 2 0), (7, .int .i64 c)], mem := [(0, ints .u8 s), (1, ints .u8 (List.replicate 16 0)), (2, ints .u8 (upto 16 (mixI s) (4 * c)))], next := 20 }
def St36i (s : List Int) (c ro : Nat) : AState := { nt := 35, env := [(1, .own 0 0), (2, .own 1 0), (3, .own 2 0), (4, .own 22 0), (7, .int .i64 c), (10, .int .i64 ro)], mem := [(0, ints .u8 s), (1, ints .u8 (List.replicate 16 0)), (2, ints .u8 (upto 16 (mixI s) (4 * c + ro))), (22, [.int .i64 c])], next := 40 }

theorem prod_int (x : Int) (hx : 0 ≤ x ∧ x < 256) (k : BitVec 8) : S25 [.int .u8 (k.toNat : Nat), .int .u8 x] = some ⟨.int .u8 ((prod k (BitVec.ofInt 8 x)).toNat : Nat), none⟩ := by
  have h := S25_eq k (BitVec.ofInt 8 x)
  rw [bv8_ofInt hx.1 hx.2] at h
  exact h
theorem xorZ_mix (a b : BitVec 8) (x : Int) (hx : 0 ≤ x ∧ x < 256) : xorZ .u8 (a.toNat : Int) x = ((a ^^^ BitVec.ofInt 8 x).toNat : Int) := by
  rw [xorZ_u8, ofInt8_bv]

set_option maxRecDepth 100000 in
theorem snd36 : SndE Try.prog NoG 36 S36 := by
  refine snd_nz (snd_by [(25, S25), (64, S64)] [] Try.func36 (by kernel_rfl) lite36 nt36 rs36 ⟨snd25, snd64, trivial⟩ trivial (fun hT args r h => ?_))
  obtain ⟨s, hd0, rfl, rfl⟩ := S36_inv h
  clear h
  have hM := hM0
  refine ⟨Nat.le_of_ble_eq_true rfl, fun F => ?_⟩
  unfold L36
  have hl := hd0.1
  refine Lwp.seq (Lwp.regI hT ?_)
  simp only [L36r0, go_sem, eq_self, Nat.reduceAdd, Nat.reduceLT, reduceCtorEq, decide_true, ty22]
  refine Lwp.seq (Lwp.regI hT ?_)
  simp only [L36r1, go_sem, eq_self, Nat.reduceAdd, Nat.reduceLT, Nat.reduceEqDiff, reduceCtorEq, decide_true, ty22]
  refine Lwp.seq ?_
  refine Lwp.seq (Lwp.regI hT ?_)
  simp only [L36r2, go_sem, eq_self, Nat.reduceAdd, Nat.reduceLT, decide_true]
  refine Lwp.block (Lwp.range (St36 s) 4 ?_ (fun c hc => ?_) ?_)
  · refine weak_of rfl ?_ ?_ ?_
    · (simp only [go_sem, eq_self, Nat.reduceMul, Nat.reduceEqDiff, reduceCtorEq, St36, upto_zero]; try rfl)
    · (simp only [go_sem, eq_self, Nat.reduceMul, Nat.reduceEqDiff, reduceCtorEq, St36, upto_zero]; try rfl)
    · (simp only [go_sem, eq_self, Nat.reduceMul, Nat.reduceEqDiff, reduceCtorEq, St36, upto_zero]; try rfl)
  · have h1 : (c : Int) < 4 := by omega
    have h4 := wrap_succ hc (by decide)
    unfold St36
    refine Lwp.seq (Lwp.regI hT ?_)
    simp only [L36r3, go_sem, eq_self, Nat.reduceAdd, Nat.reduceLT, Nat.reduceEqDiff, decide_true, h1]
    refine Lwp.seq (Lwp.cond rfl (fun _ => Lwp.skip ?_) (fun h => by cases h))
    simp only [go_sem]
    refine Lwp.seq (Lwp.block ?_)
    refine Lwp.seq (Lwp.regI hT ?_)
    simp only [L36r4, go_sem, eq_self, Nat.reduceAdd, Nat.reduceLT, Nat.reduceLeDiff, Nat.reduceEqDiff, reduceCtorEq, decide_true, ty3]
    refine Lwp.seq (Lwp.regI hT ?_)
    simp only [L36r5, go_sem, eq_self, Nat.reduceAdd, Nat.reduceLT, decide_true]
    refine Lwp.block (Lwp.range (St36i s c) 4 ?_ (fun ro hr => ?_) ?_)
    · refine weak_of rfl ?_ ?_ ?_
      · (simp only [go_sem, eq_self, Nat.reduceEqDiff, St36i]; try rfl)
      · (simp only [go_sem, eq_self, Nat.reduceEqDiff, reduceCtorEq, St36i]; try rfl)
      · (simp only [go_sem, eq_self, Nat.reduceEqDiff, reduceCtorEq, St36i]; try rfl)
    · have g1 : (ro : Int) < 4 := by omega
      have g4 := wrap_succ hr (by decide)
      have f0 : S64 [.int .i64 0, .iptr (ints .u8 s) 0, .iptr [.int .i64 c] 0, .iptr [.int .i64 ro] 0] = some ⟨.int .u8 (s.getD (4 * c + (ro + 0) % 4) 0), none⟩ := S64_eq s c ro 0 hd0 hc hr (by decide)
      have f1 : S64 [.int .i64 1, .iptr (ints .u8 s) 0, .iptr [.int .i64 c] 0, .iptr [.int .i64 ro] 0] = some ⟨.int .u8 (s.getD (4 * c + (ro + 1) % 4) 0), none⟩ := S64_eq s c ro 1 hd0 hc hr (by decide)
      have f2 : S64 [.int .i64 2, .iptr (ints .u8 s) 0, .iptr [.int .i64 c] 0, .iptr [.int .i64 ro] 0] = some ⟨.int .u8 (s.getD (4 * c + (ro + 2) % 4) 0), none⟩ := S64_eq s c ro 2 hd0 hc hr (by decide)
      have f3 : S64 [.int .i64 3, .iptr (ints .u8 s) 0, .iptr [.int .i64 c] 0, .iptr [.int .i64 ro] 0] = some ⟨.int .u8 (s.getD (4 * c + (ro + 3) % 4) 0), none⟩ := S64_eq s c ro 3 hd0 hc hr (by decide)
      rw [Nat.add_zero, Nat.mod_eq_of_lt hr] at f0
      have p0 : S25 [.int .u8 2, .int .u8 (s.getD (4 * c + ro) 0)] = _ := prod_int _ (hd0.at (4 * c + ro)) 2#8
      have p1 : S25 [.int .u8 3, .int .u8 (s.getD (4 * c + (ro + 1) % 4) 0)] = _ := prod_int _ (hd0.at (4 * c + (ro + 1) % 4)) 3#8
      have v0 := bl_B16 (mixS (sb s))
      have e1 : IntKind.i64.wrap (4 * (c : Int)) = 4 * (c : Int) := wrap_i64 (by omega) (by omega)
      have e2 : IntKind.i64.wrap (4 * (c : Int) + (ro : Int)) = ((4 * c + ro : Nat) : Int) := by rw [wrap_i64 (by omega) (by omega)]; omega
      have k4 : (0 : Int) ≤ ((4 * c + ro : Nat) : Int) := by omega
      have k5 : ((4 * c + ro : Nat) : Int) < 16 := by omega
      have k6 : 4 * c + ro < 16 := by omega
      have k7 : 4 * c + ro ≤ 15 := by omega
      have x0 := xorZ_u8_bv (prod 2#8 (BitVec.ofInt 8 (s.getD (4 * c + ro) 0))) (prod 3#8 (BitVec.ofInt 8 (s.getD (4 * c + (ro + 1) % 4) 0)))
      have x1 := xorZ_mix (prod 2#8 (BitVec.ofInt 8 (s.getD (4 * c + ro) 0)) ^^^ prod 3#8 (BitVec.ofInt 8 (s.getD (4 * c + (ro + 1) % 4) 0))) 0#8 _ (hd0.at (4 * c + (ro + 2) % 4))
      have x2 := xorZ_mix (prod 2#8 (BitVec.ofInt 8 (s.getD (4 * c + ro) 0)) ^^^ prod 3#8 (BitVec.ofInt 8 (s.getD (4 * c + (ro + 1) % 4) 0)) ^^^ BitVec.ofInt 8 (s.getD (4 * c + (ro + 2) % 4) 0)) 0#8 _ (hd0.at (4 * c + (ro + 3) % 4))
      have h5 := upto_set 16 (mixI s) (4 * c + ro) _ (show ((prod 2#8 (BitVec.ofInt 8 (s.getD (4 * c + ro) 0)) ^^^ prod 3#8 (BitVec.ofInt 8 (s.getD (4 * c + (ro + 1) % 4) 0)) ^^^ BitVec.ofInt 8 (s.getD (4 * c + (ro + 2) % 4) 0) ^^^ BitVec.ofInt 8 (s.getD (4 * c + (ro + 3) % 4) 0)).toNat : Int) = mixI s (4 * c + ro) by rw [mixI, mixS_at _ c ro hr]; rfl)
      unfold St36i
      refine Lwp.seq (Lwp.regI hT ?_)
      simp only [L36r6, go_sem, eq_self, Nat.reduceAdd, Nat.reduceLT, Nat.reduceEqDiff, decide_true, g1]
      refine Lwp.seq (Lwp.cond rfl (fun _ => Lwp.skip ?_) (fun h => by cases h))
      simp only [go_sem]
      refine Lwp.seq (Lwp.block ?_)
      refine Lwp.seq (Lwp.regI hT ?_)
      simp only [L36r7, go_sem, eq_self, Nat.reduceAdd, Nat.reduceLT, Nat.reduceLeDiff, Nat.reduceEqDiff, reduceCtorEq, decide_true, ty3]
      refine Lwp.seq (Lwp.regI hT ?_)
      simp only [L36r8, go_sem, eq_self, Nat.reduceAdd, Nat.reduceLT, Nat.reduceEqDiff, decide_true]
      generalize s.getD (4 * c + (ro + 1) % 4) 0 = y1 at *
      generalize s.getD (4 * c + (ro + 2) % 4) 0 = y2 at *
      generalize s.getD (4 * c + (ro + 3) % 4) 0 = y3 at *
      generalize s.getD (4 * c + ro) 0 = y0 at *
      rw [show 4 * c + ro + 1 = 4 * c + (ro + 1) by omega] at h5
      generalize hq : 4 * c + ro = q at *
      refine Lwp.regD hT hM ?_
      simp only [L36r9, go_sem, List.isEmpty_nil, eq_self, Nat.reduceAdd, Nat.reduceSub, Nat.reduceLT, Nat.reduceLeDiff, Nat.reduceEqDiff, Nat.reduceDiv, Nat.reduceMod, Nat.reducePow, reduceCtorEq, decide_true, decide_false, Bool.false_eq_true, ty3, ty5, ty22, List.getD_cons_zero, e1, e2, k4, k5, k7, f0, f1, f2, f3, p0, p1, x0, x1, x2, upto_len]
      refine Lwp.regI hT ?_
      simp only [L36r10, go_sem, eq_self, Nat.reduceAdd, Nat.reduceLT, Nat.reduceEqDiff, decide_true, g4]
      refine weak_of rfl ?_ ?_ ?_
      · (simp only [go_sem, eq_self, Nat.reduceEqDiff]; try rfl)
      · (simp only [go_sem, eq_self, Nat.reduceEqDiff, reduceCtorEq, h5]; try rfl)
      · (simp only [go_sem, eq_self, Nat.reduceEqDiff, reduceCtorEq]; try rfl)
    · unfold St36i
      refine Lwp.seq (Lwp.regI hT ?_)
      simp only [L36r6, go_sem, eq_self, Nat.reduceAdd, Nat.reduceLT, Nat.reduceEqDiff, Int.reduceLT, decide_true, decide_false]
      refine Lwp.seq (Lwp.cond rfl (fun h => by cases h) (fun _ => Lwp.exit ?_))
      simp only [go_sem, eq_self, Nat.reduceEqDiff, reduceCtorEq]
      refine Lwp.regI hT ?_
      simp only [L36r11, go_sem, eq_self, Nat.reduceAdd, Nat.reduceLT, Nat.reduceEqDiff, decide_true, h4]
      refine weak_of rfl ?_ ?_ ?_
      · (simp only [go_sem, eq_self, Nat.reduceEqDiff]; try rfl)
      · (simp only [go_sem, eq_self, Nat.reduceEqDiff, reduceCtorEq]; try rfl)
      · (simp only [go_sem, eq_self, Nat.reduceEqDiff, reduceCtorEq]; try rfl)
  · unfold St36
    refine Lwp.seq (Lwp.regI hT ?_)
    simp only [L36r3, go_sem, eq_self, Nat.reduceAdd, Nat.reduceMul, Nat.reduceLT, Nat.reduceEqDiff, Int.reduceLT, decide_true, decide_false]
    refine Lwp.seq (Lwp.cond rfl (fun h => by cases h) (fun _ => Lwp.exit ?_))
    simp only [go_sem, eq_self]
    have u1 : upto 16 (mixI s) 16 = mixed s := upto_full _ _
    have u2 := mixed_len s
    refine Lwp.seq (Lwp.regI hT ?_)
    simp only [L36r12, go_sem, eq_self, Nat.reduceAdd, Nat.reduceLT, Nat.reduceLeDiff, Nat.reduceEqDiff, reduceCtorEq, decide_true, ty22, u1, u2]
    refine Lwp.ret (post_val (v := .agg (ints .u8 (mixed s))) ?_ ?_)
    · simp only [go_sem, eq_self, Nat.reduceLT, Nat.reduceLeDiff, Nat.reduceEqDiff, reduceCtorEq, ty22, u2]
    · simp only [go_sem, eq_self]
end Eng


namespace Eng
open Go
/-! Products of blocks: plain laws. -/
abbrev V := BitVec 128
/-- Times x. -/
def tx (b : V) : V := (b <<< 1) ^^^ (if b.getLsbD 127 then 135#128 else 0#128)
def txn (b : V) : Nat → V
  | 0 => b
  | i + 1 => tx (txn b i)
/-- The sum of x^i b for the bits of a below n. -/
def gmN (a b : V) : Nat → V
  | 0 => 0#128
  | i + 1 => gmN a b i ^^^ (if a.getLsbD i then txn b i else 0#128)
def gm (a b : V) : V := gmN a b 128
theorem vx (a b c d : V) : (a ^^^ b) ^^^ (c ^^^ d) = (a ^^^ c) ^^^ (b ^^^ d) := by ac_rfl
theorem ite_xor (p q : Bool) (c : V) : (if (p ^^ q) = true then c else 0#128) = (if p then c else 0#128) ^^^ (if q then c else 0#128) := by
  cases p <;> cases q <;> simp
theorem tx_zero : tx 0#128 = 0#128 := by decide
theorem tx_xor (x y : V) : tx (x ^^^ y) = tx x ^^^ tx y := by
  unfold tx
  rw [BitVec.shiftLeft_xor_distrib, BitVec.getLsbD_xor, ite_xor, vx]
theorem txn_xor (x y : V) : ∀ i, txn (x ^^^ y) i = txn x i ^^^ txn y i
  | 0 => rfl
  | i + 1 => by rw [txn, txn_xor x y i, tx_xor]; rfl
theorem txn_zero : ∀ i, txn 0#128 i = 0#128
  | 0 => rfl
  | i + 1 => by rw [txn, txn_zero i, tx_zero]
theorem txn_add (b : V) (i : Nat) : ∀ j, txn b (i + j) = txn (txn b i) j
  | 0 => rfl
  | j + 1 => by rw [← Nat.add_assoc, txn, txn_add b i j, txn]
theorem tx_ite (p : Bool) (c : V) : tx (if p then c else 0#128) = if p then tx c else 0#128 := by cases p <;> simp [tx_zero]
theorem gmN_xor (a x y : V) : ∀ n, gmN a (x ^^^ y) n = gmN a x n ^^^ gmN a y n
  | 0 => by simp [gmN]
  | n + 1 => by
    rw [gmN, gmN, gmN, gmN_xor a x y n, txn_xor, vx]
    cases a.getLsbD n <;> simp
theorem gmN_zero (a : V) : ∀ n, gmN a 0#128 n = 0#128
  | 0 => rfl
  | n + 1 => by rw [gmN, gmN_zero a n, txn_zero]; simp
theorem gmN_ite (a : V) (p : Bool) (c : V) (n : Nat) : gmN a (if p then c else 0#128) n = if p then gmN a c n else 0#128 := by cases p <;> simp [gmN_zero]
theorem gmN_tx (a b : V) : ∀ n, gmN a (tx b) n = tx (gmN a b n)
  | 0 => tx_zero.symm
  | n + 1 => by
    have e : txn (tx b) n = tx (txn b n) := by
      rw [show tx b = txn b 1 from rfl, ← txn_add, Nat.add_comm, txn]
    rw [gmN, gmN, gmN_tx a b n, tx_xor, tx_ite, e]
theorem gmN_txn (a b : V) (n : Nat) : ∀ i, gmN a (txn b i) n = txn (gmN a b n) i
  | 0 => rfl
  | i + 1 => by rw [txn, gmN_tx, gmN_txn a b n i, txn]
/-- Products of products: P_a P_b = P_b P_a. -/
theorem gmN_comm' (a b c : V) (m : Nat) : ∀ n, gmN a (gmN b c m) n = gmN b (gmN a c n) m
  | 0 => by rw [gmN, gmN, gmN_zero]
  | n + 1 => by rw [gmN, gmN_comm' a b c m n, gmN, gmN_xor, gmN_ite, gmN_txn]
theorem unit_tx : ∀ i, i < 127 → tx (1#128 <<< i) = 1#128 <<< (i + 1) := by decide +kernel
theorem unit_txn : ∀ i, i < 128 → txn 1#128 i = 1#128 <<< i
  | 0, _ => rfl
  | i + 1, h => by rw [txn, unit_txn i (by omega), unit_tx i (by omega)]
def lowV (a : V) : Nat → V
  | 0 => 0#128
  | i + 1 => lowV a i ^^^ (if a.getLsbD i then 1#128 <<< i else 0#128)
theorem lowV_bit (a : V) (j : Nat) : ∀ i, i ≤ 128 → (lowV a i).getLsbD j = (decide (j < i) && a.getLsbD j)
  | 0, _ => by simp [lowV]
  | i + 1, h => by
    rw [lowV, BitVec.getLsbD_xor, lowV_bit a j i (by omega)]
    have e : (if a.getLsbD i = true then 1#128 <<< i else 0#128).getLsbD j = (decide (j = i) && a.getLsbD j) := by
      by_cases hj : j = i
      · subst hj
        cases ha : a.getLsbD j
        · simp
        · simp only [if_true, BitVec.getLsbD_shiftLeft]
          simp [show j < 128 by omega]
      · simp only [hj, decide_false, Bool.false_and]
        split
        · rw [BitVec.getLsbD_shiftLeft]
          by_cases h2 : j < i
          · simp [h2]
          · have : (1#128).getLsbD (j - i) = false := by
              rw [BitVec.getLsbD_one]
              simp; omega
            simp [this]
        · simp
    rw [e]
    by_cases h1 : j = i
    · subst h1; simp
    · by_cases h2 : j < i
      · simp [h1, h2, show j < i + 1 by omega]
      · simp [h1, h2, show ¬ j < i + 1 by omega]
theorem lowV_all (a : V) : lowV a 128 = a := by
  apply BitVec.eq_of_getLsbD_eq
  intro j hj
  rw [lowV_bit a j 128 (Nat.le_refl _)]
  simp [hj]
theorem gmN_one (a : V) : ∀ n, n ≤ 128 → gmN a 1#128 n = lowV a n
  | 0, _ => rfl
  | n + 1, h => by rw [gmN, lowV, gmN_one a n (by omega), unit_txn n (by omega)]
theorem gm_one (a : V) : gm a 1#128 = a := by rw [gm, gmN_one a 128 (Nat.le_refl _), lowV_all]
theorem gm_comm (a b : V) : gm a b = gm b a := by
  have h1 : gm a b = gmN a (gmN b 1#128 128) 128 := by rw [show gmN b 1#128 128 = b from gm_one b]; rfl
  have h2 : gm b a = gmN b (gmN a 1#128 128) 128 := by rw [show gmN a 1#128 128 = a from gm_one a]; rfl
  rw [h1, h2, gmN_comm']
end Eng


namespace Eng
open Go
set_option linter.unusedSimpArgs false
/-! Blocks of 16 bytes as 128 bits: x^0 is the highest bit of the first byte. -/
def bits (p : Nat → Bool) : Nat → V
  | 0 => 0#128
  | i + 1 => bits p i ^^^ (if p i then 1#128 <<< i else 0#128)
theorem unit_bit (i j : Nat) (p : Bool) (hi : i < 128) : (if p then 1#128 <<< i else 0#128).getLsbD j = (decide (j = i) && p) := by
  cases p
  · simp
  · simp only [if_true, BitVec.getLsbD_shiftLeft, BitVec.getLsbD_one]
    by_cases hj : j = i
    · subst hj; simp [hi]
    · simp [hj]; omega
theorem bits_get (p : Nat → Bool) (j : Nat) : ∀ i, i ≤ 128 → (bits p i).getLsbD j = (decide (j < i) && p j)
  | 0, _ => by simp [bits]
  | i + 1, h => by
    rw [bits, BitVec.getLsbD_xor, bits_get p j i (by omega), unit_bit _ _ _ (by omega)]
    by_cases h1 : j = i
    · subst h1; simp
    · by_cases h2 : j < i
      · simp [h1, h2, show j < i + 1 by omega]
      · simp [h1, h2, show ¬ j < i + 1 by omega]
def byteV (v : V) (j : Nat) : BitVec 8 := (v.extractLsb' (8 * j) 8).reverse
theorem byteV_get (v : V) (j k : Nat) (hk : k < 8) : (byteV v j).getLsbD k = v.getLsbD (8 * j + (7 - k)) := by
  unfold byteV
  rw [BitVec.getLsbD_reverse, BitVec.getMsbD_eq_getLsbD, BitVec.getLsbD_extractLsb']
  simp [hk, show 7 - k < 8 by omega]
def un (v : V) : List Int := tab 16 (fun j => ((byteV v j).toNat : Int))
theorem un_len (v : V) : (un v).length = 16 := tab_len _ _
theorem un_at (v : V) {j : Nat} (h : j < 16) : (un v).getD j 0 = ((byteV v j).toNat : Int) := tab_getD _ _ h
/-- The coefficient of x^i. -/
def cb (l : List Int) (i : Nat) : Bool := (BitVec.ofInt 8 (l.getD (i / 8) 0)).getLsbD (7 - i % 8)
def bb (l : List Int) : V := bits (cb l) 128
theorem bb_get (l : List Int) (i : Nat) (h : i < 128) : (bb l).getLsbD i = cb l i := by
  rw [bb, bits_get _ _ _ (Nat.le_refl _)]; simp [h]
theorem cb_un (v : V) (i : Nat) (h : i < 128) : cb (un v) i = v.getLsbD i := by
  rw [cb, un_at v (by omega), ofInt8_bv, byteV_get _ _ _ (by omega)]
  congr 1; omega
theorem bb_un (v : V) : bb (un v) = v := by
  apply BitVec.eq_of_getLsbD_eq
  intro i hi
  rw [bb_get _ _ hi, cb_un _ _ hi]
theorem un_inj {a b : V} (h : un a = un b) : a = b := by rw [← bb_un a, ← bb_un b, h]
theorem un_injEq (a b : V) : (un a = un b) = (a = b) := propext ⟨un_inj, fun h => by rw [h]⟩
theorem un_of {l : List Int} {v : V} (hl : l.length = 16) (hb : ∀ x ∈ l, 0 ≤ x ∧ x < 256) (h : ∀ i, i < 128 → cb l i = v.getLsbD i) : l = un v := by
  refine eq_tab hl fun j hj => ?_
  have hx := hb (l.getD j 0) (by
    rw [List.getD_eq_getElem?_getD, List.getElem?_eq_getElem (by omega), Option.getD_some]
    exact List.getElem_mem _)
  rw [← bv8_ofInt hx.1 hx.2]
  congr 2
  apply BitVec.eq_of_getLsbD_eq
  intro k hk
  rw [byteV_get _ _ _ hk, ← h _ (by omega), cb]
  congr 2
  · congr 1; omega
  · omega
theorem un_bb {l : List Int} (hl : l.length = 16) (hb : ∀ x ∈ l, 0 ≤ x ∧ x < 256) : un (bb l) = l := (un_of hl hb fun i hi => (bb_get l i hi).symm).symm
theorem byteV_xor (a b : V) (j : Nat) : byteV (a ^^^ b) j = byteV a j ^^^ byteV b j := by
  apply BitVec.eq_of_getLsbD_eq
  intro k hk
  rw [BitVec.getLsbD_xor, byteV_get _ _ _ hk, byteV_get _ _ _ hk, byteV_get _ _ _ hk, BitVec.getLsbD_xor]
theorem byteV_and (a : V) (j : Nat) (p : Bool) : byteV a j &&& (if p then BitVec.allOnes 8 else 0#8) = byteV (if p then a else 0#128) j := by
  cases p
  · simp [byteV]; decide
  · simp only [if_true, BitVec.and_allOnes]
/-- Times x, byte by byte. -/
theorem byteV_tx (b : V) (j : Nat) (hj : 0 < j) (h16 : j < 16) : byteV (tx b) j = (byteV b j >>> 1) ||| (byteV b (j - 1) <<< 7) := by
  apply BitVec.eq_of_getLsbD_eq
  intro k hk
  rw [BitVec.getLsbD_or, BitVec.getLsbD_ushiftRight, BitVec.getLsbD_shiftLeft, byteV_get _ _ _ hk, tx, BitVec.getLsbD_xor, BitVec.getLsbD_shiftLeft]
  have e : (if b.getLsbD 127 = true then 135#128 else 0#128).getLsbD (8 * j + (7 - k)) = false := by
    split
    · have : ∀ m, m < 128 → 8 ≤ m → (135#128).getLsbD m = false := by decide +kernel
      exact this _ (by omega) (by omega)
    · simp
  rw [e]
  by_cases h7 : k = 7
  · subst h7
    have h1 : (byteV b j).getLsbD (1 + 7) = false := BitVec.getLsbD_of_ge _ _ (by omega)
    rw [h1, byteV_get _ _ _ (by omega)]
    simp [show 8 * j < 128 by omega, show ¬ 8 * j < 1 by omega]
    congr 1; omega
  · rw [byteV_get _ _ _ (by omega)]
    simp [show 8 * j + (7 - k) < 128 by omega, show ¬ 8 * j + (7 - k) < 1 by omega, show k < 7 by omega]
    congr 1; omega
theorem byteV_tx0 (b : V) : byteV (tx b) 0 = (byteV b 0 >>> 1) ^^^ (225#8 &&& -(byteV b 15 &&& 1#8)) := by
  have hm : -(byteV b 15 &&& 1#8) = if b.getLsbD 127 then BitVec.allOnes 8 else 0#8 := by
    have h := byteV_get b 15 0 (by decide)
    rw [show 8 * 15 + (7 - 0) = 127 from rfl] at h
    rw [← h]
    generalize byteV b 15 = x
    have : ∀ n, n < 256 → (-(BitVec.ofNat 8 n &&& 1#8) == if (BitVec.ofNat 8 n).getLsbD 0 then BitVec.allOnes 8 else 0#8) = true := by decide +kernel
    have h := this x.toNat x.isLt
    rw [BitVec.ofNat_toNat, BitVec.setWidth_eq] at h
    exact eq_of_beq h
  rw [hm]
  apply BitVec.eq_of_getLsbD_eq
  intro k hk
  rw [BitVec.getLsbD_xor, BitVec.getLsbD_ushiftRight, byteV_get _ _ _ hk, tx, BitVec.getLsbD_xor, BitVec.getLsbD_shiftLeft]
  have e : (if b.getLsbD 127 = true then 135#128 else 0#128).getLsbD (8 * 0 + (7 - k)) = (225#8 &&& (if b.getLsbD 127 = true then BitVec.allOnes 8 else 0#8)).getLsbD k := by
    cases b.getLsbD 127
    · simp
    · have : ∀ k, k < 8 → (135#128).getLsbD (8 * 0 + (7 - k)) = (225#8 &&& BitVec.allOnes 8).getLsbD k := by decide
      simpa using this k hk
  rw [e]
  congr 1
  by_cases h7 : k = 7
  · subst h7
    have h1 : (byteV b 0).getLsbD (1 + 7) = false := BitVec.getLsbD_of_ge _ _ (by omega)
    rw [h1]; simp
  · rw [byteV_get _ _ _ (by omega)]
    simp [show 7 - k < 128 by omega, show ¬ 7 - k < 1 by omega]
    congr 1; omega
end Eng


namespace Eng
open Go Go.Proofs
set_option linter.unusedSimpArgs false
set_option linter.unusedVariables false
theorem and1_u8 (v : BitVec 8) : andZ .u8 (v.toNat : Int) 1 = ((v &&& 1#8).toNat : Int) := andZ_u8_bv v 1#8
theorem and225_u8 (v : BitVec 8) : andZ .u8 225 (v.toNat : Int) = ((225#8 &&& v).toNat : Int) := andZ_u8_bv 225#8 v
theorem shr1_u8 (v : BitVec 8) : shrZ .u8 (v.toNat : Int) 1 = ((v >>> 1).toNat : Int) := shrZ_u8_bv v 1 (by decide)
theorem shl7_u8 (v : BitVec 8) : shlZ .u8 (v.toNat : Int) 7 = ((v <<< 7).toNat : Int) := shlZ_u8_bv v 7 (by decide)
theorem orZ_u8_bv (a b : BitVec 8) : orZ .u8 (a.toNat : Int) (b.toNat : Int) = ((a ||| b).toNat : Int) := by rw [orZ_u8, ofInt8_bv, ofInt8_bv]
/-- Below k the bytes are y's. -/
def mixU (x y : V) (k : Nat) : List Int := tab 16 (fun j => if j < k then ((byteV y j).toNat : Int) else ((byteV x j).toNat : Int))
theorem mixU_len (x y : V) (k : Nat) : (mixU x y k).length = 16 := tab_len _ _
theorem mixU_zero (x y : V) : mixU x y 0 = un x := tab_ext fun j _ => by simp
theorem mixU_full (x y : V) : mixU x y 16 = un y := tab_ext fun j hj => by rw [if_pos hj]
theorem mixU_at (x y : V) {k : Nat} (h : k < 16) : (mixU x y k).getD k 0 = ((byteV x k).toNat : Int) := by rw [mixU, tab_getD _ _ h, if_neg (by omega)]
theorem mixU_set (x y : V) {k : Nat} (h : k < 16) (v : Int) (hv : v = ((byteV y k).toNat : Int)) : (mixU x y k).set k v = mixU x y (k + 1) := tab_set _ _ _ _ _ fun j hj => by
  by_cases e : j = k
  · subst e; rw [if_pos rfl, if_pos (by omega), hv]
  · rw [if_neg e]
    by_cases h2 : j < k
    · rw [if_pos h2, if_pos (by omega)]
    · rw [if_neg h2, if_neg (by omega)]
/-- Above k the bytes are y's. -/
def mixD (x y : V) (k : Nat) : List Int := tab 16 (fun j => if k < j then ((byteV y j).toNat : Int) else ((byteV x j).toNat : Int))
theorem mixD_len (x y : V) (k : Nat) : (mixD x y k).length = 16 := tab_len _ _
theorem mixD_start (x y : V) : mixD x y 15 = un x := tab_ext fun j hj => by rw [if_neg (by omega)]
theorem mixD_at (x y : V) {j k : Nat} (h : j ≤ k) (h2 : j < 16) : (mixD x y k).getD j 0 = ((byteV x j).toNat : Int) := by rw [mixD, tab_getD _ _ h2, if_neg (by omega)]
theorem mixD_set (x y : V) {k : Nat} (h : k + 1 < 16) (v : Int) (hv : v = ((byteV y (k + 1)).toNat : Int)) : (mixD x y (k + 1)).set (k + 1) v = mixD x y k := tab_set _ _ _ _ _ fun j hj => by
  by_cases e : j = k + 1
  · subst e; rw [if_pos rfl, if_pos (by omega), hv]
  · rw [if_neg e]
    by_cases h2 : k + 1 < j
    · rw [if_pos h2, if_pos (by omega)]
    · rw [if_neg h2, if_neg (by omega)]
theorem mixD_last (x y : V) (v : Int) (hv : v = ((byteV y 0).toNat : Int)) : (mixD x y 0).set 0 v = un y := tab_set _ _ _ _ _ fun j hj => by
  by_cases e : j = 0
  · subst e; rw [if_pos rfl, hv]
  · rw [if_neg e, if_pos (by omega)]
theorem mul_mask (a : V) {i : Nat} (hi : i < 128) : -((byteV a (i / 8) >>> (7 - i % 8)) &&& 1#8) = if a.getLsbD i then BitVec.allOnes 8 else 0#8 := by
  rw [mask_bit, byteV_get _ _ _ (by omega)]
  rw [show 8 * (i / 8) + (7 - (7 - i % 8)) = i by omega]

noncomputable def S30 : List AV → Option Ret := nz (sumOf (fun p : V × V => match p with | (a, b) => True) (fun p : V × V => match p with | (a, b) => [.agg (ints .u8 (un a)), .agg (ints .u8 (un b))]) (fun p : V × V => match p with | (a, b) => ⟨.agg (ints .u8 (un (gm a b))), none⟩))
theorem S30_eq (a : V) (b : V)  : S30 [.agg (ints .u8 (un a)), .agg (ints .u8 (un b))] = some ⟨.agg (ints .u8 (un (gm a b))), none⟩ :=
  sumOf_eq (dom := (fun p : V × V => match p with | (a, b) => True)) (enc := (fun p : V × V => match p with | (a, b) => [.agg (ints .u8 (un a)), .agg (ints .u8 (un b))])) (out := (fun p : V × V => match p with | (a, b) => ⟨.agg (ints .u8 (un (gm a b))), none⟩)) (a, b) trivial (fun y _ e => by
    obtain ⟨y0, y1⟩ := y
    simp only [List.cons.injEq, AV.agg.injEq, ints_injEq, un_injEq,  and_true] at e
    first | with_reducible rfl | simp only [e] | rfl)
theorem S30_inv {args : List AV} {r : Ret} (h : sumOf (fun p : V × V => match p with | (a, b) => True) (fun p : V × V => match p with | (a, b) => [.agg (ints .u8 (un a)), .agg (ints .u8 (un b))]) (fun p : V × V => match p with | (a, b) => ⟨.agg (ints .u8 (un (gm a b))), none⟩) args = some r) : ∃ (a : V) (b : V), (True) ∧ args = [.agg (ints .u8 (un a)), .agg (ints .u8 (un b))] ∧ r = ⟨.agg (ints .u8 (un (gm a b))), none⟩ := by
  obtain ⟨x, h1, h2, h3⟩ := sumOf_inv h
  obtain ⟨a, b⟩ := x
  exact ⟨a, b, h1, h2.symm, h3⟩


def St30 (a b : V) (i : Nat) : AState := { nt := 67, env := [(2, .own 0 0), (3, .own 1 0), (4, .own 2 0), (5, .own 3 0), (11, .int .i64 i)], mem := [(0, ints .u8 (un a)), (1, ints .u8 (un (txn b i))), (2, ints .u8 (List.replicate 16 0)), (3, ints .u8 (un (gmN a b i)))], next := 20 }
def St30a (a tb x y : V) (m : BitVec 8) (i k : Nat) : AState := { nt := 67, env := [(2, .own 0 0), (3, .own 1 0), (4, .own 2 0), (5, .own 3 0), (7, .int .u8 (m.toNat : Nat)), (11, .int .i64 i), (24, .int .i64 k)], mem := [(0, ints .u8 (un a)), (1, ints .u8 (un tb)), (2, ints .u8 (List.replicate 16 0)), (3, ints .u8 (mixU x y k))], next := 20 }
def St30b (a x y z : V) (l : BitVec 8) (i k : Nat) : AState := { nt := 67, env := [(2, .own 0 0), (3, .own 1 0), (4, .own 2 0), (5, .own 3 0), (9, .int .u8 (l.toNat : Nat)), (10, .int .i64 k), (11, .int .i64 i)], mem := [(0, ints .u8 (un a)), (1, ints .u8 (mixD x y k)), (2, ints .u8 (List.replicate 16 0)), (3, ints .u8 (un z))], next := 20 }

theorem zero_un : List.replicate 16 (0 : Int) = un 0#128 := by
  rw [rep_tab]
  refine tab_ext fun j _ => ?_
  have : byteV 0#128 j = 0#8 := by
    unfold byteV
    rw [BitVec.extractLsb'_zero]
    decide
  rw [this]; rfl

set_option maxRecDepth 100000 in
theorem snd30 : SndE Try.prog NoG 30 S30 := by
  refine snd_nz (snd_by [] [] Try.func30 (by kernel_rfl) lite30 nt30 rs30 trivial trivial (fun hT args r h => ?_))
  obtain ⟨a, b, _, rfl, rfl⟩ := S30_inv h
  clear h
  have hM := hM0
  refine ⟨Nat.le_of_ble_eq_true rfl, fun F => ?_⟩
  unfold L30
  have hua := un_len a
  refine Lwp.seq (Lwp.regI hT ?_)
  simp only [L30r0, go_sem, eq_self, Nat.reduceAdd, Nat.reduceLT, Nat.reduceEqDiff, reduceCtorEq, decide_true, ty22]
  refine Lwp.seq (Lwp.regI hT ?_)
  simp only [L30r1, go_sem, eq_self, Nat.reduceAdd, Nat.reduceLT, Nat.reduceEqDiff, reduceCtorEq, decide_true, ty22]
  refine Lwp.seq ?_
  refine Lwp.seq (Lwp.regI hT ?_)
  simp only [L30r2, go_sem, eq_self, Nat.reduceAdd, Nat.reduceLT, decide_true]
  refine Lwp.block (Lwp.range (St30 a b) 128 ?_ (fun i hi => ?_) ?_)
  · refine weak_of rfl ?_ ?_ ?_
    · (simp only [go_sem, eq_self, Nat.reduceEqDiff, reduceCtorEq, St30, txn, gmN, zero_un]; try rfl)
    · (simp only [go_sem, eq_self, Nat.reduceEqDiff, reduceCtorEq, St30, txn, gmN, zero_un]; try rfl)
    · (simp only [go_sem, eq_self, Nat.reduceEqDiff, reduceCtorEq, St30, txn, gmN, zero_un]; try rfl)
  · have h1 : (i : Int) < 128 := by omega
    have h4 := wrap_succ hi (by decide)
    have e1 : (i : Int).tdiv 8 = ((i / 8 : Nat) : Int) := by rw [Int.tdiv_eq_ediv_of_nonneg (by omega)]; omega
    have e2 : IntKind.i64.wrap ((i / 8 : Nat) : Int) = ((i / 8 : Nat) : Int) := wrap_i64 (by omega) (by omega)
    have e3 : (i : Int).tmod 8 = ((i % 8 : Nat) : Int) := by rw [Int.tmod_eq_emod_of_nonneg (by omega)]; omega
    have e4 : IntKind.i64.wrap (7 - ((i % 8 : Nat) : Int)) = ((7 - i % 8 : Nat) : Int) := by rw [wrap_i64 (by omega) (by omega)]; omega
    have e5 : (0 : Int) ≤ ((i / 8 : Nat) : Int) := by omega
    have e6 : ((i / 8 : Nat) : Int) < 16 := by omega
    have e7 : i / 8 < 16 := by omega
    have e8 : i / 8 ≤ 15 := by omega
    have e9 : ¬ ((7 - i % 8 : Nat) : Int) < 0 := by omega
    have f1 := un_at a e7
    have f2 := shrZ_u8_bv (byteV a (i / 8)) (7 - i % 8) (by omega)
    have f3 := mul_mask a hi
    unfold St30
    refine Lwp.seq (Lwp.regI hT ?_)
    simp only [L30r3, go_sem, eq_self, Nat.reduceAdd, Nat.reduceLT, Nat.reduceEqDiff, decide_true, h1]
    refine Lwp.seq (Lwp.cond rfl (fun _ => Lwp.skip ?_) (fun h => by cases h))
    simp only [go_sem]
    refine Lwp.seq (Lwp.block ?_)
    refine Lwp.seq (Lwp.regI hT ?_)
    simp only [L30r4, go_sem, eq_self, Nat.reduceAdd, Nat.reduceLT, Nat.reduceEqDiff, decide_true]
    refine Lwp.seq (Lwp.regI hT ?_)
    simp only [L30r5, go_sem, eq_self, Nat.reduceAdd, Nat.reduceLT, Nat.reduceLeDiff, Nat.reduceEqDiff, Int.reduceEq, reduceCtorEq, decide_true, Bool.false_eq_true, ty5, ty22, e1, e2, e3, e4, e5, e6, e7, e8, e9, hua, f1, f2, and1_u8, negZ_u8_bv, f3]
    refine Lwp.seq ?_
    refine Lwp.seq (Lwp.regI hT ?_)
    simp only [L30r6, go_sem, eq_self, Nat.reduceAdd, Nat.reduceLT, decide_true]
    refine Lwp.block (Lwp.range (St30a a (txn b i) (gmN a b i) (gmN a b (i + 1)) (if a.getLsbD i then BitVec.allOnes 8 else 0#8) i) 16 ?_ (fun k hk => ?_) ?_)
    · refine weak_of rfl ?_ ?_ ?_
      · (simp only [go_sem, eq_self, Nat.reduceEqDiff, St30a, mixU_zero]; try rfl)
      · (simp only [go_sem, eq_self, Nat.reduceEqDiff, reduceCtorEq, St30a, mixU_zero]; try rfl)
      · (simp only [go_sem, eq_self, Nat.reduceEqDiff, reduceCtorEq, St30a, mixU_zero]; try rfl)
    · have k1 : (k : Int) < 16 := by omega
      have k2 : (0 : Int) ≤ k := by omega
      have k3 : k ≤ 15 := by omega
      have k4 := wrap_succ hk (by decide)
      have k5 := mixU_at (gmN a b i) (gmN a b (i + 1)) hk
      have k6 := un_at (txn b i) hk
      have k7 := mixU_set (gmN a b i) (gmN a b (i + 1)) hk (((byteV (gmN a b i) k ^^^ byteV (if a.getLsbD i then txn b i else 0#128) k).toNat : Nat) : Int) (by rw [gmN, byteV_xor])
      have k8 := byteV_and (txn b i) k (a.getLsbD i)
      have k9 := un_len (txn b i)
      have k10 := mixU_len (gmN a b i) (gmN a b (i + 1)) k
      unfold St30a
      refine Lwp.seq (Lwp.regI hT ?_)
      simp only [L30r7, go_sem, eq_self, Nat.reduceAdd, Nat.reduceLT, Nat.reduceEqDiff, decide_true, k1]
      refine Lwp.seq (Lwp.cond rfl (fun _ => Lwp.skip ?_) (fun h => by cases h))
      simp only [go_sem]
      refine Lwp.seq (Lwp.block ?_)
      refine Lwp.seq (Lwp.regI hT ?_)
      simp only [L30r8, go_sem, eq_self, Nat.reduceAdd, Nat.reduceLT, Nat.reduceEqDiff, decide_true]
      refine Lwp.regD hT hM ?_
      simp only [L30r9, go_sem, eq_self, Nat.reduceAdd, Nat.reduceSub, Nat.reduceLT, Nat.reduceLeDiff, Nat.reduceEqDiff, Nat.reduceDiv, Nat.reduceMod, Nat.reducePow, reduceCtorEq, decide_true, decide_false, Bool.false_eq_true, ty5, ty22, k1, k2, k3, hk, k5, k6, k9, k10, andZ_u8_bv, k8, xorZ_u8_bv]
      refine Lwp.regI hT ?_
      simp only [L30r10, go_sem, eq_self, Nat.reduceAdd, Nat.reduceLT, Nat.reduceEqDiff, decide_true, k4]
      refine weak_of rfl ?_ ?_ ?_
      · (simp only [go_sem, eq_self, Nat.reduceEqDiff]; try rfl)
      · (simp only [go_sem, eq_self, Nat.reduceEqDiff, reduceCtorEq, k7]; try rfl)
      · (simp only [go_sem, eq_self, Nat.reduceEqDiff, reduceCtorEq]; try rfl)
    · unfold St30a
      refine Lwp.seq (Lwp.regI hT ?_)
      simp only [L30r7, go_sem, eq_self, Nat.reduceAdd, Nat.reduceLT, Nat.reduceEqDiff, Int.reduceLT, decide_true, decide_false]
      refine Lwp.seq (Lwp.cond rfl (fun h => by cases h) (fun _ => Lwp.exit ?_))
      simp only [go_sem, eq_self, Nat.reduceEqDiff, reduceCtorEq, mixU_full]
      have k9 := un_len (txn b i)
      have k6 := un_at (txn b i) (show 15 < 16 by decide)
      refine Lwp.seq (Lwp.regI hT ?_)
      simp only [L30r11, go_sem, eq_self, Nat.reduceAdd, Nat.reduceLT, Nat.reduceLeDiff, Nat.reduceEqDiff, Int.reduceLT, Int.reduceLE, Int.reduceToNat, reduceCtorEq, decide_true, Bool.false_eq_true, ty5, ty22, k9, k6, and1_u8, negZ_u8_bv]
      refine Lwp.seq ?_
      refine Lwp.seq (Lwp.regI hT ?_)
      simp only [L30r12, go_sem, eq_self, Nat.reduceAdd, Nat.reduceLT, decide_true]
      refine Lwp.block (Lwp.whl (St30b a (txn b i) (tx (txn b i)) (gmN a b (i + 1)) (-(byteV (txn b i) 15 &&& 1#8)) i) (fun k => k < 16) (fun k => k) 15 (by decide) ?_ ?_)
      · refine weak_of rfl ?_ ?_ ?_
        · (simp only [go_sem, eq_self, Nat.reduceEqDiff, St30b, mixD_start]; try rfl)
        · (simp only [go_sem, eq_self, Nat.reduceEqDiff, reduceCtorEq, St30b, mixD_start]; try rfl)
        · (simp only [go_sem, eq_self, Nat.reduceEqDiff, reduceCtorEq, St30b, mixD_start]; try rfl)
      · intro k hk
        unfold St30b
        have m1 := mixD_len (txn b i) (tx (txn b i)) k
        refine Lwp.seq ?_
        cases k with
        | zero =>
          refine Lwp.seq (Lwp.regI hT ?_)
          simp only [L30r13, go_sem, eq_self, Nat.reduceAdd, Nat.reduceLT, Nat.reduceEqDiff, Int.reduceGT, decide_true, decide_false]
          refine Lwp.cond rfl (fun h => by cases h) (fun _ => Lwp.exit ?_)
          simp only [go_sem, eq_self, Nat.reduceEqDiff, reduceCtorEq]
          have m2 := mixD_at (txn b i) (tx (txn b i)) (Nat.le_refl 0) (by decide)
          have m3 := mixD_last (txn b i) (tx (txn b i)) _ (by rw [byteV_tx0])
          refine Lwp.regI hT ?_
          simp only [L30r16, go_sem, eq_self, Nat.reduceAdd, Nat.reduceLT, Nat.reduceLeDiff, Nat.reduceEqDiff, Int.reduceLT, Int.reduceLE, Int.reduceToNat, reduceCtorEq, decide_true, Bool.false_eq_true, ty5, ty22, m1, m2, shr1_u8, and225_u8, xorZ_u8_bv]
          refine Lwp.regI hT ?_
          simp only [L30r17, go_sem, eq_self, Nat.reduceAdd, Nat.reduceLT, Nat.reduceEqDiff, decide_true, h4]
          refine weak_of rfl ?_ ?_ ?_
          · (simp only [go_sem, eq_self, Nat.reduceEqDiff]; try rfl)
          · (simp only [go_sem, eq_self, Nat.reduceEqDiff, reduceCtorEq, m3, txn]; try rfl)
          · (simp only [go_sem, eq_self, Nat.reduceEqDiff, reduceCtorEq, txn]; try rfl)
        | succ k =>
          have n1 : ((k + 1 : Nat) : Int) > 0 := by omega
          have n2 : ((k + 1 : Nat) : Int) < 16 := by omega
          have n3 : (0 : Int) ≤ ((k + 1 : Nat) : Int) := by omega
          have n4 : IntKind.i64.wrap (((k + 1 : Nat) : Int) - 1) = ((k : Nat) : Int) := by rw [wrap_i64 (by omega) (by omega)]; omega
          have n5 : (0 : Int) ≤ ((k : Nat) : Int) := by omega
          have n6 : ((k : Nat) : Int) < 16 := by omega
          have n7 : k < 16 := by omega
          have n8 : k + 1 ≤ 15 := by omega
          have n9 : k ≤ 15 := by omega
          have n10 : k ≤ 14 := by omega
          have m2 := mixD_at (txn b i) (tx (txn b i)) (Nat.le_refl (k + 1)) hk
          have m3 := mixD_at (txn b i) (tx (txn b i)) (show k ≤ k + 1 by omega) n7
          have m4 := mixD_set (txn b i) (tx (txn b i)) hk _ (by rw [byteV_tx _ _ (by omega) hk])
          rw [Nat.add_sub_cancel] at m4
          refine Lwp.seq (Lwp.regI hT ?_)
          simp only [L30r13, go_sem, eq_self, Nat.reduceAdd, Nat.reduceLT, Nat.reduceEqDiff, decide_true, n1]
          refine Lwp.cond rfl (fun _ => Lwp.skip ?_) (fun h => by cases h)
          simp only [go_sem]
          refine Lwp.seq (Lwp.block ?_)
          refine Lwp.regD hT hM ?_
          simp only [L30r15, go_sem, eq_self, Nat.reduceAdd, Nat.reduceSub, Nat.reduceLT, Nat.reduceLeDiff, Nat.reduceEqDiff, Nat.reduceDiv, Nat.reduceMod, Nat.reducePow, Int.reduceLT, reduceCtorEq, decide_true, decide_false, Bool.false_eq_true, ty5, ty22, n2, n3, n4, n5, n6, n7, n9, n10, hk, m1, m2, m3, shr1_u8, shl7_u8, orZ_u8_bv]
          refine Lwp.regI hT ?_
          simp only [L30r14, go_sem, eq_self, Nat.reduceAdd, Nat.reduceLT, Nat.reduceEqDiff, decide_true, n4]
          refine ⟨k, n7, by omega, ?_⟩
          refine weak_of rfl ?_ ?_ ?_
          · (simp only [go_sem, eq_self, Nat.reduceEqDiff]; try rfl)
          · (simp only [go_sem, eq_self, Nat.reduceEqDiff, reduceCtorEq, m4]; try rfl)
          · (simp only [go_sem, eq_self, Nat.reduceEqDiff, reduceCtorEq]; try rfl)
  · unfold St30
    refine Lwp.seq (Lwp.regI hT ?_)
    simp only [L30r3, go_sem, eq_self, Nat.reduceAdd, Nat.reduceLT, Nat.reduceEqDiff, Int.reduceLT, decide_true, decide_false]
    refine Lwp.seq (Lwp.cond rfl (fun h => by cases h) (fun _ => Lwp.exit ?_))
    simp only [go_sem, eq_self]
    have k9 := un_len (gmN a b 128)
    refine Lwp.seq (Lwp.regI hT ?_)
    simp only [L30r18, go_sem, eq_self, Nat.reduceAdd, Nat.reduceLT, Nat.reduceLeDiff, Nat.reduceEqDiff, reduceCtorEq, decide_true, ty22, k9]
    refine Lwp.ret (post_val (v := .agg (ints .u8 (un (gm a b)))) ?_ ?_)
    · simp only [go_sem, eq_self, Nat.reduceLT, Nat.reduceLeDiff, Nat.reduceEqDiff, reduceCtorEq, ty22, k9, gm]
    · simp only [go_sem, eq_self]

end Eng


namespace Eng
open Go Go.Proofs
set_option linter.unusedSimpArgs false
set_option linter.unusedVariables false
def Bnd (l : List Int) (m : Int) : Prop := ∀ n, 0 ≤ l.getD n 0 ∧ l.getD n 0 ≤ m
theorem Bnd.mono {l : List Int} {m k : Int} (h : Bnd l m) (hk : m ≤ k) : Bnd l k := fun n => ⟨(h n).1, Int.le_trans (h n).2 hk⟩
end Eng


namespace Eng
open Go Go.Proofs
set_option linter.unusedSimpArgs false
set_option linter.unusedVariables false
theorem and7_tbl : ∀ k : Nat, k < 8 → andZ .u64 (k : Int) 7 = (k : Int) := by decide +kernel

noncomputable def S65 : List AV → Option Ret := nz (sumOf (fun p : BitVec 8 × Nat => match p with | (x, k) => (0 < k) ∧ (k < 8)) (fun p : BitVec 8 × Nat => match p with | (x, k) => [.int .u8 (x.toNat : Nat), .int .i64 k]) (fun p : BitVec 8 × Nat => match p with | (x, k) => ⟨.int .u8 ((x.rotateLeft k).toNat : Nat), none⟩))
theorem S65_eq (x : BitVec 8) (k : Nat) (h0 : 0 < k) (h1 : k < 8) : S65 [.int .u8 (x.toNat : Nat), .int .i64 k] = some ⟨.int .u8 ((x.rotateLeft k).toNat : Nat), none⟩ :=
  sumOf_eq (dom := (fun p : BitVec 8 × Nat => match p with | (x, k) => (0 < k) ∧ (k < 8))) (enc := (fun p : BitVec 8 × Nat => match p with | (x, k) => [.int .u8 (x.toNat : Nat), .int .i64 k])) (out := (fun p : BitVec 8 × Nat => match p with | (x, k) => ⟨.int .u8 ((x.rotateLeft k).toNat : Nat), none⟩)) (x, k) ⟨h0, h1⟩ (fun y _ e => by
    obtain ⟨y0, y1⟩ := y
    simp only [List.cons.injEq, AV.int.injEq, Int.ofNat_inj, BitVec.toNat_inj, true_and, and_true] at e
    first | with_reducible rfl | simp only [e] | rfl)
theorem S65_inv {args : List AV} {r : Ret} (h : sumOf (fun p : BitVec 8 × Nat => match p with | (x, k) => (0 < k) ∧ (k < 8)) (fun p : BitVec 8 × Nat => match p with | (x, k) => [.int .u8 (x.toNat : Nat), .int .i64 k]) (fun p : BitVec 8 × Nat => match p with | (x, k) => ⟨.int .u8 ((x.rotateLeft k).toNat : Nat), none⟩) args = some r) : ∃ (x : BitVec 8) (k : Nat), ((0 < k) ∧ (k < 8)) ∧ args = [.int .u8 (x.toNat : Nat), .int .i64 k] ∧ r = ⟨.int .u8 ((x.rotateLeft k).toNat : Nat), none⟩ := by
  obtain ⟨x, h1, h2, h3⟩ := sumOf_inv h
  obtain ⟨x, k⟩ := x
  exact ⟨x, k, h1, h2.symm, h3⟩


set_option maxRecDepth 100000 in
theorem snd65 : SndE Try.prog NoG 65 S65 := by
  refine snd_nz (snd_by [] [] Try.func65 (by kernel_rfl) lite65 nt65 rs65 trivial trivial (fun hT args r h => ?_))
  obtain ⟨x, k, ⟨hd0, hd1⟩, rfl, rfl⟩ := S65_inv h
  clear h
  have hM := hM0
  refine ⟨Nat.le_of_ble_eq_true rfl, fun F => ?_⟩
  unfold L65
  have e1 : IntKind.u64.wrap (k : Int) = k := wrap_u64 (by omega) (by omega)
  have e2 := and7_tbl k hd1
  have e3 : ¬ (k : Int) < 0 := by omega
  have e4 : IntKind.u64.wrap (8 - (k : Int)) = ((8 - k : Nat) : Int) := by rw [wrap_u64 (by omega) (by omega)]; omega
  have e5 : ¬ ((8 - k : Nat) : Int) < 0 := by omega
  have e6 := shlZ_u8_bv x k hd1
  have e7 := shrZ_u8_bv x (8 - k) (by omega)
  have e8 := orZ_u8_bv (x <<< k) (x >>> (8 - k))
  have e9 : x <<< k ||| x >>> (8 - k) = x.rotateLeft k := by
    rw [BitVec.rotateLeft_eq_rotateLeftAux_of_lt hd1]; rfl
  rw [e9] at e8
  generalize 8 - k = m at *
  refine Lwp.seq (Lwp.regI hT ?_)
  simp only [L65r0, go_sem, eq_self, Nat.reduceLT, decide_true]
  refine Lwp.seq (Lwp.regI hT ?_)
  simp only [L65r1, go_sem, eq_self, Nat.reduceAdd, Nat.reduceLT, Nat.reduceEqDiff, reduceCtorEq, decide_true, ty3, ty76, e1, e2]
  refine Lwp.seq (Lwp.regI hT ?_)
  simp only [L65r2, go_sem, eq_self, Nat.reduceAdd, Nat.reduceLT, Nat.reduceEqDiff, reduceCtorEq, decide_true, e3, e4, e5, e6, e7, e8]
  refine Lwp.ret (post_val (v := .int .u8 ((x.rotateLeft k).toNat : Nat)) ?_ ?_)
  · simp only [go_sem, eq_self, Nat.reduceEqDiff, reduceCtorEq]
  · simp only [go_sem, eq_self]

noncomputable def S38 : List AV → Option Ret := nz (sumOf (fun p : BitVec 8 => match p with | a => True) (fun p : BitVec 8 => match p with | a => [.int .u8 (a.toNat : Nat)]) (fun p : BitVec 8 => match p with | a => ⟨.int .u8 ((sbox a).toNat : Nat), none⟩))
theorem S38_eq (a : BitVec 8)  : S38 [.int .u8 (a.toNat : Nat)] = some ⟨.int .u8 ((sbox a).toNat : Nat), none⟩ :=
  sumOf_eq (dom := (fun p : BitVec 8 => match p with | a => True)) (enc := (fun p : BitVec 8 => match p with | a => [.int .u8 (a.toNat : Nat)])) (out := (fun p : BitVec 8 => match p with | a => ⟨.int .u8 ((sbox a).toNat : Nat), none⟩)) a trivial (fun y _ e => by
    simp only [List.cons.injEq, AV.int.injEq, Int.ofNat_inj, BitVec.toNat_inj, true_and, and_true] at e
    first | with_reducible rfl | simp only [e] | rfl)
theorem S38_inv {args : List AV} {r : Ret} (h : sumOf (fun p : BitVec 8 => match p with | a => True) (fun p : BitVec 8 => match p with | a => [.int .u8 (a.toNat : Nat)]) (fun p : BitVec 8 => match p with | a => ⟨.int .u8 ((sbox a).toNat : Nat), none⟩) args = some r) : ∃ (a : BitVec 8), (True) ∧ args = [.int .u8 (a.toNat : Nat)] ∧ r = ⟨.int .u8 ((sbox a).toNat : Nat), none⟩ := by
  obtain ⟨x, h1, h2, h3⟩ := sumOf_inv h
  exact ⟨x, h1, h2.symm, h3⟩


theorem xor99 (v : BitVec 8) : xorZ .u8 (v.toNat : Int) 99 = ((v ^^^ 99#8).toNat : Int) := xorZ_u8_bv v 99#8

set_option maxRecDepth 100000 in
theorem snd38 : SndE Try.prog NoG 38 S38 := by
  refine snd_nz (snd_by [(25, S25), (65, S65)] [] Try.func38 (by kernel_rfl) lite38 nt38 rs38 ⟨snd25, snd65, trivial⟩ trivial (fun hT args r h => ?_))
  obtain ⟨a, _, rfl, rfl⟩ := S38_inv h
  clear h
  have hM := hM0
  refine ⟨Nat.le_of_ble_eq_true rfl, fun F => ?_⟩
  unfold L38
  refine Lwp.seq (Lwp.regI hT ?_)
  simp only [L38r0, go_sem, eq_self, Nat.reduceLT, decide_true]
  refine Lwp.seq (Lwp.regI hT ?_)
  simp only [L38r1, go_sem, eq_self, Nat.reduceAdd, Nat.reduceLT, Nat.reduceEqDiff, reduceCtorEq, decide_true]
  refine Lwp.seq ?_
  refine Lwp.seq (Lwp.regI hT ?_)
  simp only [L38r2, go_sem, eq_self, Nat.reduceAdd, Nat.reduceLT, decide_true]
  refine Lwp.block (Lwp.range (fun n => { nt := 29, env := [(3, .int .u8 ((invS a n).1.toNat : Nat)), (4, .int .u8 ((invS a n).2.toNat : Nat)), (6, .int .i64 n)], mem := [], next := 0 }) 7 ?_ (fun n hn => ?_) ?_)
  · refine weak_of rfl ?_ ?_ ?_
    · (simp only [go_sem, eq_self, Nat.reduceEqDiff, reduceCtorEq, invS]; try rfl)
    · (simp only [go_sem]; try rfl)
    · (simp only [go_sem, eq_self]; try rfl)
  · have h1 : (n : Int) < 7 := by omega
    have h4 := wrap_succ hn (by decide)
    have f1 := S25_eq (invS a n).2 (invS a n).2
    have f2 := S25_eq (invS a n).1 (prod (invS a n).2 (invS a n).2)
    refine Lwp.seq (Lwp.regI hT ?_)
    simp only [L38r3, go_sem, eq_self, Nat.reduceLT, Nat.reduceEqDiff, decide_true, h1]
    refine Lwp.seq (Lwp.cond rfl (fun _ => Lwp.skip ?_) (fun h => by cases h))
    simp only [go_sem]
    refine Lwp.seq (Lwp.block ?_)
    refine Lwp.seq (Lwp.regI hT ?_)
    simp only [L38r4, go_sem, eq_self, Nat.reduceAdd, Nat.reduceLT, Nat.reduceEqDiff, decide_true, f1]
    refine Lwp.regI hT ?_
    simp only [L38r5, go_sem, eq_self, Nat.reduceAdd, Nat.reduceLT, Nat.reduceEqDiff, decide_true, f2]
    refine Lwp.regI hT ?_
    simp only [L38r6, go_sem, eq_self, Nat.reduceAdd, Nat.reduceLT, Nat.reduceEqDiff, decide_true, h4]
    refine weak_of rfl ?_ ?_ ?_
    · (simp only [go_sem, eq_self, Nat.reduceEqDiff, invS]; try rfl)
    · (simp only [go_sem]; try rfl)
    · (simp only [go_sem, eq_self]; try rfl)
  · refine Lwp.seq (Lwp.regI hT ?_)
    simp only [L38r3, go_sem, eq_self, Nat.reduceLT, Nat.reduceEqDiff, Int.reduceLT, decide_true, decide_false]
    refine Lwp.seq (Lwp.cond rfl (fun h => by cases h) (fun _ => Lwp.exit ?_))
    simp only [go_sem, eq_self]
    have e : sbox a = (invS a 7).1 ^^^ (invS a 7).1.rotateLeft 1 ^^^ (invS a 7).1.rotateLeft 2 ^^^ (invS a 7).1.rotateLeft 3 ^^^ (invS a 7).1.rotateLeft 4 ^^^ 99#8 := rfl
    generalize (invS a 7).1 = v at *
    have f1 : S65 [.int .u8 (v.toNat : Nat), .int .i64 1] = some ⟨.int .u8 ((v.rotateLeft 1).toNat : Nat), none⟩ := S65_eq v 1 (by decide) (by decide)
    have f2 : S65 [.int .u8 (v.toNat : Nat), .int .i64 2] = some ⟨.int .u8 ((v.rotateLeft 2).toNat : Nat), none⟩ := S65_eq v 2 (by decide) (by decide)
    have f3 : S65 [.int .u8 (v.toNat : Nat), .int .i64 3] = some ⟨.int .u8 ((v.rotateLeft 3).toNat : Nat), none⟩ := S65_eq v 3 (by decide) (by decide)
    have f4 : S65 [.int .u8 (v.toNat : Nat), .int .i64 4] = some ⟨.int .u8 ((v.rotateLeft 4).toNat : Nat), none⟩ := S65_eq v 4 (by decide) (by decide)
    refine Lwp.seq (Lwp.regI hT ?_)
    simp only [L38r7, go_sem, eq_self, Nat.reduceAdd, Nat.reduceLT, Nat.reduceEqDiff, decide_true, f1, f2, f3, f4, xorZ_u8_bv, xor99]
    refine Lwp.ret (post_val (v := .int .u8 ((sbox a).toNat : Nat)) ?_ ?_)
    · simp only [go_sem, eq_self, Nat.reduceEqDiff, e]
    · simp only [go_sem, eq_self]

end Eng


namespace Eng
open Go Go.Proofs
set_option linter.unusedSimpArgs false
set_option linter.unusedVariables false
def tI (i : Nat) : Nat := (i + 4 * (i % 4)) % 16
def turned (s : List Int) : List Int := tab 16 (fun i => s.getD (tI i) 0)
theorem turned_len (s : List Int) : (turned s).length = 16 := tab_len _ _
theorem tI_lt (i : Nat) : tI i < 16 := Nat.mod_lt _ (by decide)

noncomputable def S23 : List AV → Option Ret := nz (sumOf (fun p : List Int => match p with | s => (B16 s)) (fun p : List Int => match p with | s => [.agg (ints .u8 s)]) (fun p : List Int => match p with | s => ⟨.agg (ints .u8 (turned s)), none⟩))
theorem S23_eq (s : List Int) (h0 : B16 s) : S23 [.agg (ints .u8 s)] = some ⟨.agg (ints .u8 (turned s)), none⟩ :=
  sumOf_eq (dom := (fun p : List Int => match p with | s => (B16 s))) (enc := (fun p : List Int => match p with | s => [.agg (ints .u8 s)])) (out := (fun p : List Int => match p with | s => ⟨.agg (ints .u8 (turned s)), none⟩)) s h0 (fun y _ e => by
    simp only [List.cons.injEq, AV.agg.injEq, ints_injEq, and_true] at e
    first | with_reducible rfl | simp only [e] | rfl)
theorem S23_inv {args : List AV} {r : Ret} (h : sumOf (fun p : List Int => match p with | s => (B16 s)) (fun p : List Int => match p with | s => [.agg (ints .u8 s)]) (fun p : List Int => match p with | s => ⟨.agg (ints .u8 (turned s)), none⟩) args = some r) : ∃ (s : List Int), ((B16 s)) ∧ args = [.agg (ints .u8 s)] ∧ r = ⟨.agg (ints .u8 (turned s)), none⟩ := by
  obtain ⟨x, h1, h2, h3⟩ := sumOf_inv h
  exact ⟨x, h1, h2.symm, h3⟩


def St23 (s : List Int) (i : Nat) : AState := { nt := 20, env := [(1, .own 0 0), (2, .own 1 0), (3, .own 2 0), (5, .int .i64 i)], mem := [(0, ints .u8 s), (1, ints .u8 (List.replicate 16 0)), (2, ints .u8 (upto 16 (fun i => s.getD (tI i) 0) i))], next := 20 }

set_option maxRecDepth 100000 in
theorem snd23 : SndE Try.prog NoG 23 S23 := by
  refine snd_nz (snd_by [] [] Try.func23 (by kernel_rfl) lite23 nt23 rs23 trivial trivial (fun hT args r h => ?_))
  obtain ⟨s, hd0, rfl, rfl⟩ := S23_inv h
  clear h
  have hM := hM0
  refine ⟨Nat.le_of_ble_eq_true rfl, fun F => ?_⟩
  unfold L23
  have hl := hd0.1
  refine Lwp.seq (Lwp.regI hT ?_)
  simp only [L23r0, go_sem, eq_self, Nat.reduceAdd, Nat.reduceLT, reduceCtorEq, decide_true, ty22]
  refine Lwp.seq (Lwp.regI hT ?_)
  simp only [L23r1, go_sem, eq_self, Nat.reduceAdd, Nat.reduceLT, Nat.reduceEqDiff, reduceCtorEq, decide_true, ty22]
  refine Lwp.seq ?_
  refine Lwp.seq (Lwp.regI hT ?_)
  simp only [L23r2, go_sem, eq_self, Nat.reduceAdd, Nat.reduceLT, decide_true]
  refine Lwp.block (Lwp.range (St23 s) 16 ?_ (fun i hi => ?_) ?_)
  · refine weak_of rfl ?_ ?_ ?_
    · (simp only [go_sem, eq_self, Nat.reduceEqDiff, reduceCtorEq, St23, upto_zero]; try rfl)
    · (simp only [go_sem, eq_self, Nat.reduceEqDiff, reduceCtorEq, St23, upto_zero]; try rfl)
    · (simp only [go_sem, eq_self, Nat.reduceEqDiff, reduceCtorEq, St23, upto_zero]; try rfl)
  · have h1 : (i : Int) < 16 := by omega
    have h2 : (0 : Int) ≤ i := by omega
    have h3 : i ≤ 15 := by omega
    have h4 := wrap_succ hi (by decide)
    have e0 : (i : Int).tmod 4 = ((i % 4 : Nat) : Int) := by rw [Int.tmod_eq_emod_of_nonneg (by omega)]; omega
    have e1 : IntKind.i64.wrap (4 * ((i % 4 : Nat) : Int)) = 4 * ((i % 4 : Nat) : Int) := wrap_i64 (by omega) (by omega)
    have e2 : IntKind.i64.wrap ((i : Int) + 4 * ((i % 4 : Nat) : Int)) = (i : Int) + 4 * ((i % 4 : Nat) : Int) := wrap_i64 (by omega) (by omega)
    have e3 : ((i : Int) + 4 * ((i % 4 : Nat) : Int)).tmod 16 = ((tI i : Nat) : Int) := by rw [Int.tmod_eq_emod_of_nonneg (by omega), tI]; omega
    have k1 := tI_lt i
    have k2 : (0 : Int) ≤ (tI i : Nat) := by omega
    have k3 : ((tI i : Nat) : Int) < 16 := by omega
    have h5 := upto_set 16 (fun i => s.getD (tI i) 0) i _ rfl
    unfold St23
    refine Lwp.seq (Lwp.regI hT ?_)
    simp only [L23r3, go_sem, eq_self, Nat.reduceAdd, Nat.reduceLT, Nat.reduceEqDiff, decide_true, h1]
    refine Lwp.seq (Lwp.cond rfl (fun _ => Lwp.skip ?_) (fun h => by cases h))
    refine Lwp.seq (Lwp.block ?_)
    refine Lwp.seq (Lwp.regI hT ?_)
    simp only [L23r4, go_sem, eq_self, Nat.reduceAdd, Nat.reduceLT, Nat.reduceEqDiff, decide_true]
    refine Lwp.regI hT ?_
    simp only [L23r5, go_sem, eq_self, Nat.reduceAdd, Nat.reduceLT, Nat.reduceLeDiff, Nat.reduceEqDiff, Int.reduceEq, reduceCtorEq, decide_true, Bool.false_eq_true, ty5, ty22, h1, h2, h3, e0, e1, e2, e3, k1, k2, k3, hl, upto_len]
    refine Lwp.regI hT ?_
    simp only [L23r6, go_sem, eq_self, Nat.reduceAdd, Nat.reduceLT, Nat.reduceEqDiff, decide_true, h4]
    refine weak_of rfl ?_ ?_ ?_
    · (simp only [go_sem, eq_self, Nat.reduceEqDiff]; try rfl)
    · (simp only [go_sem, eq_self, Nat.reduceEqDiff, reduceCtorEq, h5]; try rfl)
    · (simp only [go_sem, eq_self, Nat.reduceEqDiff, reduceCtorEq]; try rfl)
  · unfold St23
    refine Lwp.seq (Lwp.regI hT ?_)
    simp only [L23r3, go_sem, eq_self, Nat.reduceAdd, Nat.reduceLT, Nat.reduceEqDiff, Int.reduceLT, decide_true, decide_false]
    refine Lwp.seq (Lwp.cond rfl (fun h => by cases h) (fun _ => Lwp.exit ?_))
    simp only [go_sem, eq_self]
    refine Lwp.seq (Lwp.regI hT ?_)
    simp only [L23r7, go_sem, eq_self, Nat.reduceAdd, Nat.reduceLT, Nat.reduceLeDiff, Nat.reduceEqDiff, reduceCtorEq, decide_true, ty22, upto_len]
    refine Lwp.ret (post_val (v := .agg (ints .u8 (turned s))) ?_ ?_)
    · simp only [go_sem, eq_self, Nat.reduceLT, Nat.reduceLeDiff, Nat.reduceEqDiff, reduceCtorEq, ty22, turned, upto_full, tab_len]
    · simp only [go_sem, eq_self]

theorem turned_B16 {s : List Int} (h : B16 s) : B16 (turned s) := ⟨turned_len s, fun x hx => by
  simp only [turned, tab, List.mem_map] at hx
  obtain ⟨j, _, rfl⟩ := hx
  exact h.at _⟩
end Eng

