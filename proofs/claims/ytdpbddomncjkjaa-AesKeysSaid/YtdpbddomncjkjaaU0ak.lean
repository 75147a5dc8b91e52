/- Contracts of the program's functions, and laws over them. There is no further condition. -/
import Derived.Test.YtdpbddomncjkjaaEC
import Derived.Test.YtdpbddomncjkjaaChecked
import Derived.KernelRfl
import Derived.Test.YtdpbddomncjkjaaED
import Derived.Test.YtdpbddomncjkjaaRows
set_option linter.unusedVariables false
set_option linter.unusedSimpArgs false
set_option linter.unusedSectionVars false
set_option exponentiation.threshold 2000
namespace Eng
open Go Go.Proofs
theorem ty3 : tyOf Try.prog 3 = some ⟨.int .i64, 1, 8, [.int .i64 0], false, true, true⟩ := by kernel_rfl
theorem ty5 : tyOf Try.prog 5 = some ⟨.int .u8, 1, 1, [.int .u8 0], false, true, true⟩ := by kernel_rfl
theorem ty9 : tyOf Try.prog 9 = some ⟨.string, 1, 16, [.str ⟨#[]⟩], false, true, true⟩ := by kernel_rfl
theorem ty22 : tyOf Try.prog 22 = some ⟨.array 16 5, 16, 16, ints .u8 (List.replicate 16 0), true, true, true⟩ := by kernel_rfl
theorem ty27 : tyOf Try.prog 27 = some ⟨.slice 5, 1, 24, [.nils], false, true, false⟩ := by kernel_rfl
theorem ty38 : tyOf Try.prog 38 = some ⟨.interface #[("Error", 100)], 1, 16, [.nili], false, true, true⟩ := by kernel_rfl
theorem ty41 : tyOf Try.prog 41 = some ⟨.int .i64, 1, 8, [.int .i64 0], false, true, true⟩ := by kernel_rfl
theorem ty56 : tyOf Try.prog 56 = some ⟨.slice 22, 1, 24, [.nils], false, true, false⟩ := by kernel_rfl
theorem ty76 : tyOf Try.prog 76 = some ⟨.int .u64, 1, 8, [.int .u64 0], false, true, true⟩ := by kernel_rfl
theorem ty85 : tyOf Try.prog 85 = some ⟨.slice 27, 1, 24, [.nils], false, true, false⟩ := by kernel_rfl
theorem ty88 : tyOf Try.prog 88 = some ⟨.array 4 5, 4, 4, ints .u8 (List.replicate 4 0), true, true, true⟩ := by kernel_rfl
theorem ty89 : tyOf Try.prog 89 = some ⟨.array 60 88, 240, 240, ints .u8 (List.replicate 240 0), true, true, true⟩ := by kernel_rfl
end Eng


namespace Eng
open Go Go.Proofs
theorem hM0 : Try.prog.follows .mixedOrders = true := by kernel_rfl
theorem eq22 : eqArr Try.prog 22 = true := by kernel_rfl
def L16r0 : List AOp := [
  ⟨(some 2), .assign (.const (.bool false)), none, 0⟩]
def L16r1 : List AOp := [
  ⟨(some 11), .makeSlice 27 (.const (.int .i64 32)) (.const (.int .i64 32)), none, 0⟩,
  ⟨(some 12), .call { callee := .value (.func 47), args := #[.tmp 11], argTypes := #[27] }, none, 0⟩,
  ⟨(some 10), .move (.tmp 12), none, 0⟩,
  ⟨(some 13), .extract (.tmp 10) 0, none, 0⟩,
  ⟨(some 14), .extract (.tmp 10) 1, none, 0⟩,
  ⟨(some 3), .assign (.tmp 13), none, 0⟩,
  ⟨(some 4), .assign (.tmp 14), none, 0⟩]
def L16r2 : List AOp := [
  ⟨(some 15), .buildSlice 27 0 #[], none, 0⟩,
  ⟨(some 16), .move (.tmp 0), none, 0⟩,
  ⟨(some 17), .call { callee := .builtin .append, args := #[.tmp 15, .tmp 16], argTypes := #[27, 27] }, none, 0⟩,
  ⟨(some 5), .assign (.tmp 17), none, 0⟩]
def L16r3 : List AOp := [
  ⟨(some 19), .move (.tmp 5), none, 0⟩,
  ⟨(some 20), .call { callee := .value (.func 47), args := #[.tmp 19], argTypes := #[27] }, none, 0⟩,
  ⟨(some 18), .move (.tmp 20), none, 0⟩,
  ⟨(some 21), .extract (.tmp 18) 0, none, 0⟩,
  ⟨(some 22), .extract (.tmp 18) 1, none, 0⟩,
  ⟨(some 6), .assign (.tmp 21), none, 0⟩,
  ⟨(some 7), .assign (.tmp 22), none, 0⟩]
def L16r4 : List AOp := [
  ⟨(some 23), .move (.tmp 3), none, 0⟩,
  ⟨(some 24), .call { callee := .builtin .len, args := #[.tmp 23], argTypes := #[56] }, none, 0⟩,
  ⟨(some 25), .binOp .neq 3 (.tmp 24) (.const (.int .i64 15)) 3, none, 0⟩,
  ⟨(some 26), .move (.tmp 25), none, 0⟩,
  ⟨(some 27), .move (.tmp 4), (some (26, false)), 0⟩,
  ⟨(some 28), .binOp .neq 38 (.tmp 27) (.const .nilIface) 38, (some (26, false)), 0⟩,
  ⟨(some 29), .pick (.tmp 26) (.const (.bool true)) (.tmp 28), none, 0⟩,
  ⟨(some 30), .move (.tmp 29), none, 0⟩,
  ⟨(some 31), .move (.tmp 5), (some (30, false)), 0⟩,
  ⟨(some 32), .convert 27 9 (.tmp 31), (some (30, false)), 0⟩,
  ⟨(some 33), .move (.tmp 0), (some (30, false)), 0⟩,
  ⟨(some 34), .convert 27 9 (.tmp 33), (some (30, false)), 0⟩,
  ⟨(some 35), .binOp .neq 9 (.tmp 32) (.tmp 34) 9, (some (30, false)), 0⟩,
  ⟨(some 36), .pick (.tmp 30) (.const (.bool true)) (.tmp 35), none, 0⟩]
def L16r5 : List AOp := [
  ⟨(some 2), .assign (.const (.bool false)), none, 0⟩]
def L16r6 : List AOp := [
  ⟨(some 37), .move (.tmp 0), none, 0⟩,
  ⟨(some 38), .call { callee := .builtin .len, args := #[.tmp 37], argTypes := #[27] }, none, 0⟩,
  ⟨(some 39), .binOp .neq 3 (.tmp 38) (.const (.int .i64 32)) 3, none, 0⟩]
def L16r7 : List AOp := [
  ⟨(some 40), .move (.tmp 7), none, 0⟩,
  ⟨(some 41), .makeInterface 41 (.const (.int .i64 1)), none, 0⟩,
  ⟨(some 42), .binOp .eql 38 (.tmp 40) (.tmp 41) 38, none, 0⟩,
  ⟨(some 43), .move (.tmp 42), none, 0⟩,
  ⟨(some 44), .move (.tmp 6), (some (43, true)), 0⟩,
  ⟨(some 45), .call { callee := .builtin .len, args := #[.tmp 44], argTypes := #[56] }, (some (43, true)), 0⟩,
  ⟨(some 46), .binOp .eql 3 (.tmp 45) (.const (.int .i64 0)) 3, (some (43, true)), 0⟩,
  ⟨(some 47), .pick (.tmp 43) (.tmp 46) (.const (.bool false)), none, 0⟩,
  ⟨(some 2), .assign (.tmp 47), none, 0⟩]
def L16r8 : List AOp := [
  ⟨(some 48), .call { callee := .value (.func 49), args := #[], argTypes := #[] }, none, 0⟩,
  ⟨(some 49), .move (.tmp 0), none, 0⟩,
  ⟨(some 50), .call { callee := .value (.func 48), args := #[.tmp 48, .tmp 49], argTypes := #[27, 27] }, none, 0⟩,
  ⟨(some 8), .assign (.tmp 50), none, 0⟩]
def L16r9 : List AOp := [
  ⟨(some 51), .move (.tmp 7), none, 0⟩,
  ⟨(some 52), .binOp .neq 38 (.tmp 51) (.const .nilIface) 38, none, 0⟩,
  ⟨(some 53), .move (.tmp 52), none, 0⟩,
  ⟨(some 54), .move (.tmp 6), (some (53, false)), 0⟩,
  ⟨(some 55), .call { callee := .builtin .len, args := #[.tmp 54], argTypes := #[56] }, (some (53, false)), 0⟩,
  ⟨(some 56), .binOp .neq 3 (.tmp 55) (.const (.int .i64 15)) 3, (some (53, false)), 0⟩,
  ⟨(some 57), .pick (.tmp 53) (.const (.bool true)) (.tmp 56), none, 0⟩]
def L16r10 : List AOp := [
  ⟨(some 2), .assign (.const (.bool false)), none, 0⟩]
def L16r11 : List AOp := [
  ⟨(some 9), .assign (.const (.int .i64 0)), none, 0⟩]
def L16r12 : List AOp := [
  ⟨(some 58), .move (.tmp 9), none, 0⟩,
  ⟨(some 59), .binOp .lss 3 (.tmp 58) (.const (.int .i64 15)) 3, none, 0⟩]
def L16r14 : List AOp := [
  ⟨(some 62), .move (.tmp 6), none, 0⟩,
  ⟨(some 63), .move (.tmp 9), none, 0⟩,
  ⟨(some 64), .indexAddr 56 (.tmp 62) (.tmp 63), none, 3⟩,
  ⟨(some 65), .load 22 (.tmp 64), none, 7⟩,
  ⟨(some 66), .move (.tmp 8), none, 0⟩,
  ⟨(some 67), .move (.tmp 9), none, 0⟩,
  ⟨(some 68), .indexAddr 56 (.tmp 66) (.tmp 67), none, 48⟩,
  ⟨(some 69), .load 22 (.tmp 68), none, 112⟩,
  ⟨(some 70), .binOp .neq 22 (.tmp 65) (.tmp 69) 22, none, 1267650600228229401496703205631⟩]
def L16r15 : List AOp := [
  ⟨(some 2), .assign (.const (.bool false)), none, 0⟩]
def L16r13 : List AOp := [
  ⟨(some 60), .move (.tmp 9), none, 0⟩,
  ⟨(some 61), .binOp .add 3 (.tmp 60) (.const (.int .i64 1)) 3, none, 0⟩,
  ⟨(some 9), .assign (.tmp 61), none, 0⟩]
def L16r16 : List AOp := [
  ⟨(some 2), .assign (.const (.bool true)), none, 0⟩]
def L16 : LC := (.seq (.region L16r0) (.seq (.region L16r1) (.seq (.region L16r2) (.seq (.region L16r3) (.seq (.seq (.region L16r4) (.cond (.tmp 36) (.seq (.region L16r5) .ret) .skip)) (.seq (.seq (.region L16r6) (.cond (.tmp 39) (.seq (.region L16r7) .ret) .skip)) (.seq (.region L16r8) (.seq (.seq (.region L16r9) (.cond (.tmp 57) (.seq (.region L16r10) .ret) .skip)) (.seq (.seq (.region L16r11) (.block 0 (.loop (.seq (.seq (.region L16r12) (.cond (.tmp 59) .skip (.exit 0))) (.seq (.block 1 (.seq (.regionD L16r14) (.cond (.tmp 70) (.seq (.region L16r15) .ret) .skip))) (.region L16r13)))))) (.seq (.region L16r16) .ret))))))))))
theorem nt16 : Try.f16.ntmps = 71 := by kernel_rfl
theorem rs16 : Try.f16.results.toList = [.tmp 2] := by kernel_rfl
theorem lite16 : Try.f16.body.map (lite okDraw) = some L16 := by kernel_rfl
def L25r0 : List AOp := [
  ⟨(some 4), .assign (.const (.int .u8 0)), none, 0⟩]
def L25r1 : List AOp := [
  ⟨(some 5), .assign (.const (.int .u8 0)), none, 0⟩]
def L25r2 : List AOp := [
  ⟨(some 7), .move (.const (.int .i64 0)), none, 0⟩]
def L25r3 : List AOp := [
  ⟨(some 8), .binOp .lss 3 (.tmp 7) (.const (.int .i64 8)) 3, none, 0⟩]
def L25r4 : List AOp := [
  ⟨(some 9), .move (.tmp 7), none, 0⟩,
  ⟨(some 6), .assign (.tmp 9), none, 0⟩]
def L25r5 : List AOp := [
  ⟨(some 10), .move (.tmp 5), none, 0⟩,
  ⟨(some 11), .move (.tmp 0), none, 0⟩,
  ⟨(some 12), .move (.tmp 1), none, 0⟩,
  ⟨(some 13), .move (.tmp 6), none, 0⟩,
  ⟨(some 14), .binOp .shr 5 (.tmp 12) (.tmp 13) 3, none, 0⟩,
  ⟨(some 15), .binOp .and 5 (.tmp 14) (.const (.int .u8 1)) 5, none, 0⟩,
  ⟨(some 16), .unOp .neg 5 (.tmp 15), none, 0⟩,
  ⟨(some 17), .binOp .and 5 (.tmp 11) (.tmp 16) 5, none, 0⟩,
  ⟨(some 18), .binOp .xor 5 (.tmp 10) (.tmp 17) 5, none, 0⟩,
  ⟨(some 5), .assign (.tmp 18), none, 0⟩]
def L25r6 : List AOp := [
  ⟨(some 19), .move (.tmp 0), none, 0⟩,
  ⟨(some 20), .binOp .shl 5 (.tmp 19) (.const (.int .u64 1)) 76, none, 0⟩,
  ⟨(some 21), .move (.tmp 0), none, 0⟩,
  ⟨(some 22), .binOp .shr 5 (.tmp 21) (.const (.int .u64 7)) 76, none, 0⟩,
  ⟨(some 23), .unOp .neg 5 (.tmp 22), none, 0⟩,
  ⟨(some 24), .binOp .and 5 (.const (.int .u8 27)) (.tmp 23) 5, none, 0⟩,
  ⟨(some 25), .binOp .xor 5 (.tmp 20) (.tmp 24) 5, none, 0⟩,
  ⟨(some 0), .assign (.tmp 25), none, 0⟩]
def L25r7 : List AOp := [
  ⟨(some 26), .binOp .add 3 (.tmp 7) (.const (.int .i64 1)) 3, none, 0⟩,
  ⟨(some 7), .move (.tmp 26), none, 0⟩]
def L25r8 : List AOp := [
  ⟨(some 27), .move (.tmp 5), none, 0⟩,
  ⟨(some 4), .assign (.tmp 27), none, 0⟩]
def L25 : LC := (.seq (.region L25r0) (.seq (.region L25r1) (.seq (.seq (.region L25r2) (.block 0 (.loop (.seq (.region L25r3) (.seq (.cond (.tmp 8) .skip (.exit 0)) (.seq (.block 1 (.seq (.region L25r4) (.seq (.region L25r5) (.region L25r6)))) (.region L25r7))))))) (.seq (.region L25r8) .ret))))
theorem nt25 : Try.f25.ntmps = 28 := by kernel_rfl
theorem rs25 : Try.f25.results.toList = [.tmp 4] := by kernel_rfl
theorem lite25 : Try.f25.body.map (lite okDraw) = some L25 := by kernel_rfl
def L26r0 : List AOp := [
  ⟨(some 4), .assign (.const (.int .u8 0)), none, 0⟩]
def L26r1 : List AOp := [
  ⟨(some 5), .assign (.const (.int .i64 0)), none, 0⟩]
def L26r2 : List AOp := [
  ⟨(some 6), .assign (.const (.int .i64 0)), none, 0⟩]
def L26r3 : List AOp := [
  ⟨(some 8), .move (.tmp 6), none, 0⟩,
  ⟨(some 9), .binOp .lss 3 (.tmp 8) (.const (.int .i64 8)) 3, none, 0⟩]
def L26r5 : List AOp := [
  ⟨(some 12), .move (.tmp 1), none, 0⟩,
  ⟨(some 13), .convert 5 3 (.tmp 12), none, 0⟩,
  ⟨(some 14), .move (.tmp 6), none, 0⟩,
  ⟨(some 15), .binOp .shr 3 (.tmp 13) (.tmp 14) 3, none, 0⟩,
  ⟨(some 16), .binOp .rem 3 (.tmp 15) (.const (.int .i64 2)) 3, none, 0⟩,
  ⟨(some 17), .binOp .eql 3 (.tmp 16) (.const (.int .i64 1)) 3, none, 0⟩]
def L26r6 : List AOp := [
  ⟨(some 18), .move (.tmp 5), none, 0⟩,
  ⟨(some 19), .move (.tmp 0), none, 0⟩,
  ⟨(some 20), .convert 5 3 (.tmp 19), none, 0⟩,
  ⟨(some 21), .move (.tmp 6), none, 0⟩,
  ⟨(some 22), .binOp .shl 3 (.tmp 20) (.tmp 21) 3, none, 0⟩,
  ⟨(some 23), .binOp .xor 3 (.tmp 18) (.tmp 22) 3, none, 0⟩,
  ⟨(some 5), .assign (.tmp 23), none, 0⟩]
def L26r4 : List AOp := [
  ⟨(some 10), .move (.tmp 6), none, 0⟩,
  ⟨(some 11), .binOp .add 3 (.tmp 10) (.const (.int .i64 1)) 3, none, 0⟩,
  ⟨(some 6), .assign (.tmp 11), none, 0⟩]
def L26r7 : List AOp := [
  ⟨(some 7), .assign (.const (.int .i64 14)), none, 0⟩]
def L26r8 : List AOp := [
  ⟨(some 24), .move (.tmp 7), none, 0⟩,
  ⟨(some 25), .binOp .geq 3 (.tmp 24) (.const (.int .i64 8)) 3, none, 0⟩]
def L26r10 : List AOp := [
  ⟨(some 28), .move (.tmp 5), none, 0⟩,
  ⟨(some 29), .move (.tmp 7), none, 0⟩,
  ⟨(some 30), .binOp .shr 3 (.tmp 28) (.tmp 29) 3, none, 0⟩,
  ⟨(some 31), .binOp .rem 3 (.tmp 30) (.const (.int .i64 2)) 3, none, 0⟩,
  ⟨(some 32), .binOp .eql 3 (.tmp 31) (.const (.int .i64 1)) 3, none, 0⟩]
def L26r11 : List AOp := [
  ⟨(some 33), .move (.tmp 5), none, 0⟩,
  ⟨(some 34), .move (.tmp 7), none, 0⟩,
  ⟨(some 35), .binOp .sub 3 (.tmp 34) (.const (.int .i64 8)) 3, none, 0⟩,
  ⟨(some 36), .binOp .shl 3 (.const (.int .i64 283)) (.tmp 35) 3, none, 0⟩,
  ⟨(some 37), .binOp .xor 3 (.tmp 33) (.tmp 36) 3, none, 0⟩,
  ⟨(some 5), .assign (.tmp 37), none, 0⟩]
def L26r9 : List AOp := [
  ⟨(some 26), .move (.tmp 7), none, 0⟩,
  ⟨(some 27), .binOp .sub 3 (.tmp 26) (.const (.int .i64 1)) 3, none, 0⟩,
  ⟨(some 7), .assign (.tmp 27), none, 0⟩]
def L26r12 : List AOp := [
  ⟨(some 38), .move (.tmp 5), none, 0⟩,
  ⟨(some 39), .convert 3 5 (.tmp 38), none, 0⟩,
  ⟨(some 4), .assign (.tmp 39), none, 0⟩]
def L26 : LC := (.seq (.region L26r0) (.seq (.region L26r1) (.seq (.seq (.region L26r2) (.block 0 (.loop (.seq (.seq (.region L26r3) (.cond (.tmp 9) .skip (.exit 0))) (.seq (.block 1 (.seq (.region L26r5) (.cond (.tmp 17) (.region L26r6) .skip))) (.region L26r4)))))) (.seq (.seq (.region L26r7) (.block 2 (.loop (.seq (.seq (.region L26r8) (.cond (.tmp 25) .skip (.exit 2))) (.seq (.block 3 (.seq (.region L26r10) (.cond (.tmp 32) (.region L26r11) .skip))) (.region L26r9)))))) (.seq (.region L26r12) .ret)))))
theorem nt26 : Try.f26.ntmps = 40 := by kernel_rfl
theorem rs26 : Try.f26.results.toList = [.tmp 4] := by kernel_rfl
theorem lite26 : Try.f26.body.map (lite okDraw) = some L26 := by kernel_rfl
def L38r0 : List AOp := [
  ⟨(some 2), .assign (.const (.int .u8 0)), none, 0⟩]
def L38r1 : List AOp := [
  ⟨(some 5), .move (.tmp 0), none, 0⟩,
  ⟨(some 3), .assign (.const (.int .u8 1)), none, 0⟩,
  ⟨(some 4), .assign (.tmp 5), none, 0⟩]
def L38r2 : List AOp := [
  ⟨(some 6), .move (.const (.int .i64 0)), none, 0⟩]
def L38r3 : List AOp := [
  ⟨(some 7), .binOp .lss 3 (.tmp 6) (.const (.int .i64 7)) 3, none, 0⟩]
def L38r4 : List AOp := [
  ⟨(some 8), .move (.tmp 4), none, 0⟩,
  ⟨(some 9), .move (.tmp 4), none, 0⟩,
  ⟨(some 10), .call { callee := .value (.func 25), args := #[.tmp 8, .tmp 9], argTypes := #[5, 5] }, none, 0⟩,
  ⟨(some 4), .assign (.tmp 10), none, 0⟩]
def L38r5 : List AOp := [
  ⟨(some 11), .move (.tmp 3), none, 0⟩,
  ⟨(some 12), .move (.tmp 4), none, 0⟩,
  ⟨(some 13), .call { callee := .value (.func 25), args := #[.tmp 11, .tmp 12], argTypes := #[5, 5] }, none, 0⟩,
  ⟨(some 3), .assign (.tmp 13), none, 0⟩]
def L38r6 : List AOp := [
  ⟨(some 14), .binOp .add 3 (.tmp 6) (.const (.int .i64 1)) 3, none, 0⟩,
  ⟨(some 6), .move (.tmp 14), none, 0⟩]
def L38r7 : List AOp := [
  ⟨(some 15), .move (.tmp 3), none, 0⟩,
  ⟨(some 16), .move (.tmp 3), none, 0⟩,
  ⟨(some 17), .call { callee := .value (.func 65), args := #[.tmp 16, .const (.int .i64 1)], argTypes := #[5, 3] }, none, 0⟩,
  ⟨(some 18), .binOp .xor 5 (.tmp 15) (.tmp 17) 5, none, 0⟩,
  ⟨(some 19), .move (.tmp 3), none, 0⟩,
  ⟨(some 20), .call { callee := .value (.func 65), args := #[.tmp 19, .const (.int .i64 2)], argTypes := #[5, 3] }, none, 0⟩,
  ⟨(some 21), .binOp .xor 5 (.tmp 18) (.tmp 20) 5, none, 0⟩,
  ⟨(some 22), .move (.tmp 3), none, 0⟩,
  ⟨(some 23), .call { callee := .value (.func 65), args := #[.tmp 22, .const (.int .i64 3)], argTypes := #[5, 3] }, none, 0⟩,
  ⟨(some 24), .binOp .xor 5 (.tmp 21) (.tmp 23) 5, none, 0⟩,
  ⟨(some 25), .move (.tmp 3), none, 0⟩,
  ⟨(some 26), .call { callee := .value (.func 65), args := #[.tmp 25, .const (.int .i64 4)], argTypes := #[5, 3] }, none, 0⟩,
  ⟨(some 27), .binOp .xor 5 (.tmp 24) (.tmp 26) 5, none, 0⟩,
  ⟨(some 28), .binOp .xor 5 (.tmp 27) (.const (.int .u8 99)) 5, none, 0⟩,
  ⟨(some 2), .assign (.tmp 28), none, 0⟩]
def L38 : LC := (.seq (.region L38r0) (.seq (.region L38r1) (.seq (.seq (.region L38r2) (.block 0 (.loop (.seq (.region L38r3) (.seq (.cond (.tmp 7) .skip (.exit 0)) (.seq (.block 1 (.seq (.region L38r4) (.region L38r5))) (.region L38r6))))))) (.seq (.region L38r7) .ret))))
theorem nt38 : Try.f38.ntmps = 29 := by kernel_rfl
theorem rs38 : Try.f38.results.toList = [.tmp 2] := by kernel_rfl
theorem lite38 : Try.f38.body.map (lite okDraw) = some L38 := by kernel_rfl
def L39r0 : List AOp := [
  ⟨(some 2), .assign (.const (.int .u8 0)), none, 0⟩]
def L39r1 : List AOp := [
  ⟨(some 3), .assign (.const (.int .u8 0)), none, 0⟩]
def L39r2 : List AOp := [
  ⟨(some 4), .assign (.const (.int .i64 1)), none, 0⟩]
def L39r3 : List AOp := [
  ⟨(some 8), .move (.tmp 4), none, 0⟩,
  ⟨(some 9), .binOp .lss 3 (.tmp 8) (.const (.int .i64 256)) 3, none, 0⟩]
def L39r5 : List AOp := [
  ⟨(some 12), .move (.tmp 0), none, 0⟩,
  ⟨(some 13), .move (.tmp 4), none, 0⟩,
  ⟨(some 14), .convert 3 5 (.tmp 13), none, 0⟩,
  ⟨(some 15), .call { callee := .value (.func 26), args := #[.tmp 12, .tmp 14], argTypes := #[5, 5] }, none, 0⟩,
  ⟨(some 16), .binOp .eql 5 (.tmp 15) (.const (.int .u8 1)) 5, none, 0⟩]
def L39r6 : List AOp := [
  ⟨(some 17), .move (.tmp 4), none, 0⟩,
  ⟨(some 18), .convert 3 5 (.tmp 17), none, 0⟩,
  ⟨(some 3), .assign (.tmp 18), none, 0⟩]
def L39r4 : List AOp := [
  ⟨(some 10), .move (.tmp 4), none, 0⟩,
  ⟨(some 11), .binOp .add 3 (.tmp 10) (.const (.int .i64 1)) 3, none, 0⟩,
  ⟨(some 4), .assign (.tmp 11), none, 0⟩]
def L39r7 : List AOp := [
  ⟨(some 5), .assign (.const (.int .i64 0)), none, 0⟩]
def L39r8 : List AOp := [
  ⟨(some 6), .assign (.const (.int .i64 0)), none, 0⟩]
def L39r9 : List AOp := [
  ⟨(some 19), .move (.tmp 6), none, 0⟩,
  ⟨(some 20), .binOp .lss 3 (.tmp 19) (.const (.int .i64 8)) 3, none, 0⟩]
def L39r11 : List AOp := [
  ⟨(some 23), .move (.tmp 6), none, 0⟩,
  ⟨(some 24), .binOp .shr 3 (.const (.int .i64 99)) (.tmp 23) 3, none, 0⟩,
  ⟨(some 25), .binOp .rem 3 (.tmp 24) (.const (.int .i64 2)) 3, none, 0⟩,
  ⟨(some 7), .assign (.tmp 25), none, 0⟩]
def L39r12 : List AOp := [
  ⟨(some 26), .move (.tmp 7), none, 0⟩,
  ⟨(some 27), .move (.tmp 3), none, 0⟩,
  ⟨(some 28), .convert 5 3 (.tmp 27), none, 0⟩,
  ⟨(some 29), .move (.tmp 6), none, 0⟩,
  ⟨(some 30), .binOp .shr 3 (.tmp 28) (.tmp 29) 3, none, 0⟩,
  ⟨(some 31), .binOp .rem 3 (.tmp 30) (.const (.int .i64 2)) 3, none, 0⟩,
  ⟨(some 32), .binOp .add 3 (.tmp 26) (.tmp 31) 3, none, 0⟩,
  ⟨(some 7), .assign (.tmp 32), none, 0⟩]
def L39r13 : List AOp := [
  ⟨(some 33), .move (.tmp 7), none, 0⟩,
  ⟨(some 34), .move (.tmp 3), none, 0⟩,
  ⟨(some 35), .convert 5 3 (.tmp 34), none, 0⟩,
  ⟨(some 36), .move (.tmp 6), none, 0⟩,
  ⟨(some 37), .binOp .add 3 (.tmp 36) (.const (.int .i64 4)) 3, none, 0⟩,
  ⟨(some 38), .binOp .rem 3 (.tmp 37) (.const (.int .i64 8)) 3, none, 0⟩,
  ⟨(some 39), .binOp .shr 3 (.tmp 35) (.tmp 38) 3, none, 0⟩,
  ⟨(some 40), .binOp .rem 3 (.tmp 39) (.const (.int .i64 2)) 3, none, 0⟩,
  ⟨(some 41), .binOp .add 3 (.tmp 33) (.tmp 40) 3, none, 0⟩,
  ⟨(some 7), .assign (.tmp 41), none, 0⟩]
def L39r14 : List AOp := [
  ⟨(some 42), .move (.tmp 7), none, 0⟩,
  ⟨(some 43), .move (.tmp 3), none, 0⟩,
  ⟨(some 44), .convert 5 3 (.tmp 43), none, 0⟩,
  ⟨(some 45), .move (.tmp 6), none, 0⟩,
  ⟨(some 46), .binOp .add 3 (.tmp 45) (.const (.int .i64 5)) 3, none, 0⟩,
  ⟨(some 47), .binOp .rem 3 (.tmp 46) (.const (.int .i64 8)) 3, none, 0⟩,
  ⟨(some 48), .binOp .shr 3 (.tmp 44) (.tmp 47) 3, none, 0⟩,
  ⟨(some 49), .binOp .rem 3 (.tmp 48) (.const (.int .i64 2)) 3, none, 0⟩,
  ⟨(some 50), .binOp .add 3 (.tmp 42) (.tmp 49) 3, none, 0⟩,
  ⟨(some 7), .assign (.tmp 50), none, 0⟩]
def L39r15 : List AOp := [
  ⟨(some 51), .move (.tmp 7), none, 0⟩,
  ⟨(some 52), .move (.tmp 3), none, 0⟩,
  ⟨(some 53), .convert 5 3 (.tmp 52), none, 0⟩,
  ⟨(some 54), .move (.tmp 6), none, 0⟩,
  ⟨(some 55), .binOp .add 3 (.tmp 54) (.const (.int .i64 6)) 3, none, 0⟩,
  ⟨(some 56), .binOp .rem 3 (.tmp 55) (.const (.int .i64 8)) 3, none, 0⟩,
  ⟨(some 57), .binOp .shr 3 (.tmp 53) (.tmp 56) 3, none, 0⟩,
  ⟨(some 58), .binOp .rem 3 (.tmp 57) (.const (.int .i64 2)) 3, none, 0⟩,
  ⟨(some 59), .binOp .add 3 (.tmp 51) (.tmp 58) 3, none, 0⟩,
  ⟨(some 7), .assign (.tmp 59), none, 0⟩]
def L39r16 : List AOp := [
  ⟨(some 60), .move (.tmp 7), none, 0⟩,
  ⟨(some 61), .move (.tmp 3), none, 0⟩,
  ⟨(some 62), .convert 5 3 (.tmp 61), none, 0⟩,
  ⟨(some 63), .move (.tmp 6), none, 0⟩,
  ⟨(some 64), .binOp .add 3 (.tmp 63) (.const (.int .i64 7)) 3, none, 0⟩,
  ⟨(some 65), .binOp .rem 3 (.tmp 64) (.const (.int .i64 8)) 3, none, 0⟩,
  ⟨(some 66), .binOp .shr 3 (.tmp 62) (.tmp 65) 3, none, 0⟩,
  ⟨(some 67), .binOp .rem 3 (.tmp 66) (.const (.int .i64 2)) 3, none, 0⟩,
  ⟨(some 68), .binOp .add 3 (.tmp 60) (.tmp 67) 3, none, 0⟩,
  ⟨(some 7), .assign (.tmp 68), none, 0⟩]
def L39r17 : List AOp := [
  ⟨(some 69), .move (.tmp 5), none, 0⟩,
  ⟨(some 70), .move (.tmp 7), none, 0⟩,
  ⟨(some 71), .binOp .rem 3 (.tmp 70) (.const (.int .i64 2)) 3, none, 0⟩,
  ⟨(some 72), .move (.tmp 6), none, 0⟩,
  ⟨(some 73), .binOp .shl 3 (.tmp 71) (.tmp 72) 3, none, 0⟩,
  ⟨(some 74), .binOp .add 3 (.tmp 69) (.tmp 73) 3, none, 0⟩,
  ⟨(some 5), .assign (.tmp 74), none, 0⟩]
def L39r10 : List AOp := [
  ⟨(some 21), .move (.tmp 6), none, 0⟩,
  ⟨(some 22), .binOp .add 3 (.tmp 21) (.const (.int .i64 1)) 3, none, 0⟩,
  ⟨(some 6), .assign (.tmp 22), none, 0⟩]
def L39r18 : List AOp := [
  ⟨(some 75), .move (.tmp 5), none, 0⟩,
  ⟨(some 76), .convert 3 5 (.tmp 75), none, 0⟩,
  ⟨(some 2), .assign (.tmp 76), none, 0⟩]
def L39 : LC := (.seq (.region L39r0) (.seq (.region L39r1) (.seq (.seq (.region L39r2) (.block 0 (.loop (.seq (.seq (.region L39r3) (.cond (.tmp 9) .skip (.exit 0))) (.seq (.block 1 (.seq (.region L39r5) (.cond (.tmp 16) (.region L39r6) .skip))) (.region L39r4)))))) (.seq (.region L39r7) (.seq (.seq (.region L39r8) (.block 2 (.loop (.seq (.seq (.region L39r9) (.cond (.tmp 20) .skip (.exit 2))) (.seq (.block 3 (.seq (.region L39r11) (.seq (.region L39r12) (.seq (.region L39r13) (.seq (.region L39r14) (.seq (.region L39r15) (.seq (.region L39r16) (.region L39r17)))))))) (.region L39r10)))))) (.seq (.region L39r18) .ret))))))
theorem nt39 : Try.f39.ntmps = 77 := by kernel_rfl
theorem rs39 : Try.f39.results.toList = [.tmp 2] := by kernel_rfl
theorem lite39 : Try.f39.body.map (lite okDraw) = some L39 := by kernel_rfl
def L47r0 : List AOp := [
  ⟨(some 2), .assign (.const (.slice none 0 0)), none, 0⟩,
  ⟨(some 3), .assign (.const .nilIface), none, 0⟩]
def L47r1 : List AOp := [
  ⟨(some 13), .move (.tmp 0), none, 0⟩,
  ⟨(some 14), .call { callee := .builtin .len, args := #[.tmp 13], argTypes := #[27] }, none, 0⟩,
  ⟨(some 15), .binOp .neq 3 (.tmp 14) (.const (.int .i64 32)) 3, none, 0⟩]
def L47r2 : List AOp := [
  ⟨(some 16), .makeInterface 41 (.const (.int .i64 1)), none, 0⟩,
  ⟨(some 2), .assign (.const (.slice none 0 0)), none, 0⟩,
  ⟨(some 3), .assign (.tmp 16), none, 0⟩]
def L47r3 : List AOp := [
  ⟨(some 4), .alloc 89, none, 0⟩]
def L47r4 : List AOp := [
  ⟨(some 5), .assign (.const (.int .u8 1)), none, 0⟩]
def L47r5 : List AOp := [
  ⟨(some 17), .move (.const (.int .i64 0)), none, 0⟩]
def L47r6 : List AOp := [
  ⟨(some 18), .binOp .lss 3 (.tmp 17) (.const (.int .i64 60)) 3, none, 0⟩]
def L47r7 : List AOp := [
  ⟨(some 19), .move (.tmp 17), none, 0⟩,
  ⟨(some 6), .assign (.tmp 19), none, 0⟩]
def L47r8 : List AOp := [
  ⟨(some 20), .move (.tmp 6), none, 0⟩,
  ⟨(some 21), .binOp .lss 3 (.tmp 20) (.const (.int .i64 8)) 3, none, 0⟩]
def L47r9 : List AOp := [
  ⟨(some 22), .move (.tmp 6), none, 0⟩,
  ⟨(some 23), .move (.tmp 0), none, 0⟩,
  ⟨(some 24), .move (.tmp 6), none, 0⟩,
  ⟨(some 25), .binOp .mul 3 (.const (.int .i64 4)) (.tmp 24) 3, none, 0⟩,
  ⟨(some 26), .slice 27 (.tmp 23) (some (.tmp 25)) none none, none, 0⟩,
  ⟨(some 27), .sliceToArrayPointer 88 (.tmp 26), none, 0⟩,
  ⟨(some 28), .load 88 (.tmp 27), none, 0⟩,
  ⟨(some 29), .indexAddr 89 (.tmp 4) (.tmp 22), none, 0⟩,
  ⟨none, .store 88 (.tmp 29) (.tmp 28), none, 0⟩]
def L47r10 : List AOp := [
  ⟨(some 30), .move (.tmp 6), none, 0⟩,
  ⟨(some 31), .binOp .sub 3 (.tmp 30) (.const (.int .i64 1)) 3, none, 0⟩,
  ⟨(some 32), .indexAddr 89 (.tmp 4) (.tmp 31), none, 0⟩,
  ⟨(some 33), .load 88 (.tmp 32), none, 0⟩,
  ⟨(some 7), .alloc 88, none, 0⟩,
  ⟨none, .store 88 (.tmp 7) (.tmp 33), none, 0⟩]
def L47r11 : List AOp := [
  ⟨(some 34), .move (.tmp 6), none, 0⟩,
  ⟨(some 35), .binOp .rem 3 (.tmp 34) (.const (.int .i64 8)) 3, none, 0⟩,
  ⟨(some 36), .binOp .eql 3 (.tmp 35) (.const (.int .i64 0)) 3, none, 0⟩]
def L47r12 : List AOp := [
  ⟨(some 37), .indexAddr 88 (.tmp 7) (.const (.int .i64 1)), none, 0⟩,
  ⟨(some 38), .load 5 (.tmp 37), none, 0⟩,
  ⟨(some 39), .indexAddr 88 (.tmp 7) (.const (.int .i64 2)), none, 0⟩,
  ⟨(some 40), .load 5 (.tmp 39), none, 0⟩,
  ⟨(some 41), .indexAddr 88 (.tmp 7) (.const (.int .i64 3)), none, 0⟩,
  ⟨(some 42), .load 5 (.tmp 41), none, 0⟩,
  ⟨(some 43), .indexAddr 88 (.tmp 7) (.const (.int .i64 0)), none, 0⟩,
  ⟨(some 44), .load 5 (.tmp 43), none, 0⟩,
  ⟨(some 45), .build 88 #[(0, .tmp 38), (1, .tmp 40), (2, .tmp 42), (3, .tmp 44)], none, 0⟩,
  ⟨none, .store 88 (.tmp 7) (.tmp 45), none, 0⟩]
def L47r13 : List AOp := [
  ⟨(some 46), .move (.tmp 6), none, 0⟩,
  ⟨(some 47), .binOp .rem 3 (.tmp 46) (.const (.int .i64 4)) 3, none, 0⟩,
  ⟨(some 48), .binOp .eql 3 (.tmp 47) (.const (.int .i64 0)) 3, none, 0⟩]
def L47r14 : List AOp := [
  ⟨(some 49), .move (.const (.int .i64 0)), none, 0⟩]
def L47r15 : List AOp := [
  ⟨(some 50), .binOp .lss 3 (.tmp 49) (.const (.int .i64 4)) 3, none, 0⟩]
def L47r16 : List AOp := [
  ⟨(some 51), .move (.tmp 49), none, 0⟩,
  ⟨(some 8), .assign (.tmp 51), none, 0⟩]
def L47r17 : List AOp := [
  ⟨(some 52), .move (.tmp 8), none, 0⟩,
  ⟨(some 53), .move (.tmp 8), none, 0⟩,
  ⟨(some 54), .indexAddr 88 (.tmp 7) (.tmp 53), none, 0⟩,
  ⟨(some 55), .load 5 (.tmp 54), none, 0⟩,
  ⟨(some 56), .call { callee := .value (.func 38), args := #[.tmp 55], argTypes := #[5] }, none, 0⟩,
  ⟨(some 57), .indexAddr 88 (.tmp 7) (.tmp 52), none, 0⟩,
  ⟨none, .store 5 (.tmp 57) (.tmp 56), none, 0⟩]
def L47r18 : List AOp := [
  ⟨(some 58), .binOp .add 3 (.tmp 49) (.const (.int .i64 1)) 3, none, 0⟩,
  ⟨(some 49), .move (.tmp 58), none, 0⟩]
def L47r19 : List AOp := [
  ⟨(some 59), .move (.tmp 6), none, 0⟩,
  ⟨(some 60), .binOp .rem 3 (.tmp 59) (.const (.int .i64 8)) 3, none, 0⟩,
  ⟨(some 61), .binOp .eql 3 (.tmp 60) (.const (.int .i64 0)) 3, none, 0⟩]
def L47r20 : List AOp := [
  ⟨(some 62), .indexAddr 88 (.tmp 7) (.const (.int .i64 0)), none, 0⟩,
  ⟨(some 63), .load 5 (.tmp 62), none, 0⟩,
  ⟨(some 64), .move (.tmp 5), none, 0⟩,
  ⟨(some 65), .binOp .xor 5 (.tmp 63) (.tmp 64) 5, none, 0⟩,
  ⟨(some 66), .indexAddr 88 (.tmp 7) (.const (.int .i64 0)), none, 0⟩,
  ⟨none, .store 5 (.tmp 66) (.tmp 65), none, 0⟩]
def L47r21 : List AOp := [
  ⟨(some 67), .move (.tmp 5), none, 0⟩,
  ⟨(some 68), .call { callee := .value (.func 25), args := #[.tmp 67, .const (.int .u8 2)], argTypes := #[5, 5] }, none, 0⟩,
  ⟨(some 5), .assign (.tmp 68), none, 0⟩]
def L47r22 : List AOp := [
  ⟨(some 69), .move (.const (.int .i64 0)), none, 0⟩]
def L47r23 : List AOp := [
  ⟨(some 70), .binOp .lss 3 (.tmp 69) (.const (.int .i64 4)) 3, none, 0⟩]
def L47r24 : List AOp := [
  ⟨(some 71), .move (.tmp 69), none, 0⟩,
  ⟨(some 9), .assign (.tmp 71), none, 0⟩]
def L47r25 : List AOp := [
  ⟨(some 72), .move (.tmp 6), none, 0⟩,
  ⟨(some 73), .move (.tmp 9), none, 0⟩,
  ⟨(some 74), .move (.tmp 6), none, 0⟩,
  ⟨(some 75), .binOp .sub 3 (.tmp 74) (.const (.int .i64 8)) 3, none, 4⟩,
  ⟨(some 76), .move (.tmp 9), none, 0⟩,
  ⟨(some 77), .indexAddr 89 (.tmp 4) (.tmp 75), none, 12⟩,
  ⟨(some 78), .indexAddr 88 (.tmp 77) (.tmp 76), none, 60⟩,
  ⟨(some 79), .load 5 (.tmp 78), none, 124⟩,
  ⟨(some 80), .move (.tmp 9), none, 0⟩,
  ⟨(some 81), .indexAddr 88 (.tmp 7) (.tmp 80), none, 256⟩,
  ⟨(some 82), .load 5 (.tmp 81), none, 768⟩,
  ⟨(some 83), .binOp .xor 5 (.tmp 79) (.tmp 82) 5, none, 2044⟩,
  ⟨(some 84), .indexAddr 89 (.tmp 4) (.tmp 72), none, 1⟩,
  ⟨(some 85), .indexAddr 88 (.tmp 84) (.tmp 73), none, 1267650600228229401496703213567⟩,
  ⟨none, .store 5 (.tmp 85) (.tmp 83), none, 1267650600228229401496703221759⟩]
def L47r26 : List AOp := [
  ⟨(some 86), .binOp .add 3 (.tmp 69) (.const (.int .i64 1)) 3, none, 0⟩,
  ⟨(some 69), .move (.tmp 86), none, 0⟩]
def L47r27 : List AOp := [
  ⟨(some 87), .binOp .add 3 (.tmp 17) (.const (.int .i64 1)) 3, none, 0⟩,
  ⟨(some 17), .move (.tmp 87), none, 0⟩]
def L47r28 : List AOp := [
  ⟨(some 88), .makeSlice 56 (.const (.int .i64 15)) (.const (.int .i64 15)), none, 0⟩,
  ⟨(some 10), .assign (.tmp 88), none, 0⟩]
def L47r29 : List AOp := [
  ⟨(some 89), .move (.tmp 10), none, 0⟩,
  ⟨(some 90), .call { callee := .builtin .len, args := #[.tmp 89], argTypes := #[56] }, none, 0⟩,
  ⟨(some 91), .move (.const (.int .i64 0)), none, 0⟩]
def L47r30 : List AOp := [
  ⟨(some 92), .binOp .lss 3 (.tmp 91) (.tmp 90) 3, none, 0⟩]
def L47r31 : List AOp := [
  ⟨(some 93), .move (.tmp 91), none, 0⟩,
  ⟨(some 11), .assign (.tmp 93), none, 0⟩]
def L47r32 : List AOp := [
  ⟨(some 94), .move (.const (.int .i64 0)), none, 0⟩]
def L47r33 : List AOp := [
  ⟨(some 95), .binOp .lss 3 (.tmp 94) (.const (.int .i64 16)) 3, none, 0⟩]
def L47r34 : List AOp := [
  ⟨(some 96), .move (.tmp 94), none, 0⟩,
  ⟨(some 12), .assign (.tmp 96), none, 0⟩]
def L47r35 : List AOp := [
  ⟨(some 97), .move (.tmp 10), none, 0⟩,
  ⟨(some 98), .move (.tmp 11), none, 0⟩,
  ⟨(some 99), .move (.tmp 12), none, 0⟩,
  ⟨(some 100), .move (.tmp 11), none, 0⟩,
  ⟨(some 101), .binOp .mul 3 (.const (.int .i64 4)) (.tmp 100) 3, none, 8⟩,
  ⟨(some 102), .move (.tmp 12), none, 0⟩,
  ⟨(some 103), .binOp .quo 3 (.tmp 102) (.const (.int .i64 4)) 3, none, 32⟩,
  ⟨(some 104), .binOp .add 3 (.tmp 101) (.tmp 103) 3, none, 120⟩,
  ⟨(some 105), .move (.tmp 12), none, 0⟩,
  ⟨(some 106), .binOp .rem 3 (.tmp 105) (.const (.int .i64 4)) 3, none, 256⟩,
  ⟨(some 107), .indexAddr 89 (.tmp 4) (.tmp 104), none, 248⟩,
  ⟨(some 108), .indexAddr 88 (.tmp 107) (.tmp 106), none, 2040⟩,
  ⟨(some 109), .load 5 (.tmp 108), none, 4088⟩,
  ⟨(some 110), .indexAddr 56 (.tmp 97) (.tmp 98), none, 3⟩,
  ⟨(some 111), .indexAddr 22 (.tmp 110) (.tmp 99), none, 1267650600228229401496703221759⟩,
  ⟨none, .store 5 (.tmp 111) (.tmp 109), none, 1267650600228229401496703238143⟩]
def L47r36 : List AOp := [
  ⟨(some 112), .binOp .add 3 (.tmp 94) (.const (.int .i64 1)) 3, none, 0⟩,
  ⟨(some 94), .move (.tmp 112), none, 0⟩]
def L47r37 : List AOp := [
  ⟨(some 113), .binOp .add 3 (.tmp 91) (.const (.int .i64 1)) 3, none, 0⟩,
  ⟨(some 91), .move (.tmp 113), none, 0⟩]
def L47r38 : List AOp := [
  ⟨(some 114), .move (.tmp 10), none, 0⟩,
  ⟨(some 2), .assign (.tmp 114), none, 0⟩,
  ⟨(some 3), .assign (.const .nilIface), none, 0⟩]
def L47 : LC := (.seq (.region L47r0) (.seq (.seq (.region L47r1) (.cond (.tmp 15) (.seq (.region L47r2) .ret) .skip)) (.seq (.region L47r3) (.seq (.region L47r4) (.seq (.seq (.region L47r5) (.block 0 (.loop (.seq (.region L47r6) (.seq (.cond (.tmp 18) .skip (.exit 0)) (.seq (.block 1 (.seq (.region L47r7) (.seq (.seq (.region L47r8) (.cond (.tmp 21) (.seq (.region L47r9) (.exit 1)) .skip)) (.seq (.region L47r10) (.seq (.seq (.region L47r11) (.cond (.tmp 36) (.region L47r12) .skip)) (.seq (.seq (.region L47r13) (.cond (.tmp 48) (.seq (.region L47r14) (.block 2 (.loop (.seq (.region L47r15) (.seq (.cond (.tmp 50) .skip (.exit 2)) (.seq (.block 3 (.seq (.region L47r16) (.region L47r17))) (.region L47r18))))))) .skip)) (.seq (.seq (.region L47r19) (.cond (.tmp 61) (.seq (.region L47r20) (.region L47r21)) .skip)) (.seq (.region L47r22) (.block 4 (.loop (.seq (.region L47r23) (.seq (.cond (.tmp 70) .skip (.exit 4)) (.seq (.block 5 (.seq (.region L47r24) (.regionD L47r25))) (.region L47r26)))))))))))))) (.region L47r27))))))) (.seq (.region L47r28) (.seq (.seq (.region L47r29) (.block 6 (.loop (.seq (.region L47r30) (.seq (.cond (.tmp 92) .skip (.exit 6)) (.seq (.block 7 (.seq (.region L47r31) (.seq (.region L47r32) (.block 8 (.loop (.seq (.region L47r33) (.seq (.cond (.tmp 95) .skip (.exit 8)) (.seq (.block 9 (.seq (.region L47r34) (.regionD L47r35))) (.region L47r36))))))))) (.region L47r37))))))) (.seq (.region L47r38) .ret))))))))
theorem nt47 : Try.f47.ntmps = 115 := by kernel_rfl
theorem rs47 : Try.f47.results.toList = [.tmp 2, .tmp 3] := by kernel_rfl
theorem lite47 : Try.f47.body.map (lite okDraw) = some L47 := by kernel_rfl
def L48r0 : List AOp := [
  ⟨(some 4), .assign (.const (.slice none 0 0)), none, 0⟩]
def L48r1 : List AOp := [
  ⟨(some 5), .assign (.const (.slice none 0 0)), none, 0⟩]
def L48r2 : List AOp := [
  ⟨(some 6), .assign (.const (.int .u8 1)), none, 0⟩]
def L48r3 : List AOp := [
  ⟨(some 7), .assign (.const (.int .i64 0)), none, 0⟩]
def L48r4 : List AOp := [
  ⟨(some 15), .move (.tmp 7), none, 0⟩,
  ⟨(some 16), .binOp .lss 3 (.tmp 15) (.const (.int .i64 60)) 3, none, 0⟩]
def L48r6 : List AOp := [
  ⟨(some 19), .move (.tmp 7), none, 0⟩,
  ⟨(some 20), .binOp .lss 3 (.tmp 19) (.const (.int .i64 8)) 3, none, 0⟩]
def L48r7 : List AOp := [
  ⟨(some 21), .move (.tmp 5), none, 0⟩,
  ⟨(some 22), .move (.tmp 1), none, 0⟩,
  ⟨(some 23), .move (.tmp 7), none, 0⟩,
  ⟨(some 24), .binOp .mul 3 (.const (.int .i64 4)) (.tmp 23) 3, none, 0⟩,
  ⟨(some 25), .move (.tmp 7), none, 0⟩,
  ⟨(some 26), .binOp .mul 3 (.const (.int .i64 4)) (.tmp 25) 3, none, 0⟩,
  ⟨(some 27), .binOp .add 3 (.tmp 26) (.const (.int .i64 4)) 3, none, 0⟩,
  ⟨(some 28), .slice 27 (.tmp 22) (some (.tmp 24)) (some (.tmp 27)) none, none, 0⟩,
  ⟨(some 29), .buildSlice 85 1 #[(0, .tmp 28)], none, 0⟩,
  ⟨(some 30), .call { callee := .builtin .append, args := #[.tmp 21, .tmp 29], argTypes := #[85, 85] }, none, 0⟩,
  ⟨(some 5), .assign (.tmp 30), none, 0⟩]
def L48r8 : List AOp := [
  ⟨(some 31), .buildSlice 27 0 #[], none, 0⟩,
  ⟨(some 32), .move (.tmp 5), none, 0⟩,
  ⟨(some 33), .move (.tmp 7), none, 0⟩,
  ⟨(some 34), .binOp .sub 3 (.tmp 33) (.const (.int .i64 1)) 3, none, 0⟩,
  ⟨(some 35), .indexAddr 85 (.tmp 32) (.tmp 34), none, 0⟩,
  ⟨(some 36), .load 27 (.tmp 35), none, 0⟩,
  ⟨(some 37), .call { callee := .builtin .append, args := #[.tmp 31, .tmp 36], argTypes := #[27, 27] }, none, 0⟩,
  ⟨(some 8), .assign (.tmp 37), none, 0⟩]
def L48r9 : List AOp := [
  ⟨(some 38), .move (.tmp 7), none, 0⟩,
  ⟨(some 39), .binOp .rem 3 (.tmp 38) (.const (.int .i64 8)) 3, none, 0⟩,
  ⟨(some 40), .binOp .eql 3 (.tmp 39) (.const (.int .i64 0)) 3, none, 0⟩]
def L48r10 : List AOp := [
  ⟨(some 41), .move (.tmp 0), none, 0⟩,
  ⟨(some 42), .move (.tmp 8), none, 0⟩,
  ⟨(some 43), .indexAddr 27 (.tmp 42) (.const (.int .i64 1)), none, 2⟩,
  ⟨(some 44), .load 5 (.tmp 43), none, 6⟩,
  ⟨(some 45), .indexAddr 27 (.tmp 41) (.tmp 44), none, 15⟩,
  ⟨(some 46), .load 5 (.tmp 45), none, 31⟩,
  ⟨(some 47), .move (.tmp 6), none, 0⟩,
  ⟨(some 48), .binOp .xor 5 (.tmp 46) (.tmp 47) 5, none, 127⟩,
  ⟨(some 49), .move (.tmp 0), none, 0⟩,
  ⟨(some 50), .move (.tmp 8), none, 0⟩,
  ⟨(some 51), .indexAddr 27 (.tmp 50) (.const (.int .i64 2)), none, 512⟩,
  ⟨(some 52), .load 5 (.tmp 51), none, 1536⟩,
  ⟨(some 53), .indexAddr 27 (.tmp 49) (.tmp 52), none, 3840⟩,
  ⟨(some 54), .load 5 (.tmp 53), none, 7936⟩,
  ⟨(some 55), .move (.tmp 0), none, 0⟩,
  ⟨(some 56), .move (.tmp 8), none, 0⟩,
  ⟨(some 57), .indexAddr 27 (.tmp 56) (.const (.int .i64 3)), none, 32768⟩,
  ⟨(some 58), .load 5 (.tmp 57), none, 98304⟩,
  ⟨(some 59), .indexAddr 27 (.tmp 55) (.tmp 58), none, 245760⟩,
  ⟨(some 60), .load 5 (.tmp 59), none, 507904⟩,
  ⟨(some 61), .move (.tmp 0), none, 0⟩,
  ⟨(some 62), .move (.tmp 8), none, 0⟩,
  ⟨(some 63), .indexAddr 27 (.tmp 62) (.const (.int .i64 0)), none, 2097152⟩,
  ⟨(some 64), .load 5 (.tmp 63), none, 6291456⟩,
  ⟨(some 65), .indexAddr 27 (.tmp 61) (.tmp 64), none, 15728640⟩,
  ⟨(some 66), .load 5 (.tmp 65), none, 32505856⟩,
  ⟨(some 67), .buildSlice 27 4 #[(0, .tmp 48), (1, .tmp 54), (2, .tmp 60), (3, .tmp 66)], none, 1267650600228229401496770314239⟩,
  ⟨(some 8), .assign (.tmp 67), none, 1267650600228229401496837423103⟩]
def L48r11 : List AOp := [
  ⟨(some 68), .move (.tmp 6), none, 0⟩,
  ⟨(some 69), .call { callee := .value (.func 26), args := #[.tmp 68, .const (.int .u8 2)], argTypes := #[5, 5] }, none, 0⟩,
  ⟨(some 6), .assign (.tmp 69), none, 0⟩]
def L48r12 : List AOp := [
  ⟨(some 70), .move (.tmp 7), none, 0⟩,
  ⟨(some 71), .binOp .rem 3 (.tmp 70) (.const (.int .i64 8)) 3, none, 0⟩,
  ⟨(some 72), .binOp .eql 3 (.tmp 71) (.const (.int .i64 4)) 3, none, 0⟩]
def L48r13 : List AOp := [
  ⟨(some 73), .move (.tmp 0), none, 0⟩,
  ⟨(some 74), .move (.tmp 8), none, 0⟩,
  ⟨(some 75), .indexAddr 27 (.tmp 74) (.const (.int .i64 0)), none, 2⟩,
  ⟨(some 76), .load 5 (.tmp 75), none, 6⟩,
  ⟨(some 77), .indexAddr 27 (.tmp 73) (.tmp 76), none, 15⟩,
  ⟨(some 78), .load 5 (.tmp 77), none, 31⟩,
  ⟨(some 79), .move (.tmp 0), none, 0⟩,
  ⟨(some 80), .move (.tmp 8), none, 0⟩,
  ⟨(some 81), .indexAddr 27 (.tmp 80) (.const (.int .i64 1)), none, 128⟩,
  ⟨(some 82), .load 5 (.tmp 81), none, 384⟩,
  ⟨(some 83), .indexAddr 27 (.tmp 79) (.tmp 82), none, 960⟩,
  ⟨(some 84), .load 5 (.tmp 83), none, 1984⟩,
  ⟨(some 85), .move (.tmp 0), none, 0⟩,
  ⟨(some 86), .move (.tmp 8), none, 0⟩,
  ⟨(some 87), .indexAddr 27 (.tmp 86) (.const (.int .i64 2)), none, 8192⟩,
  ⟨(some 88), .load 5 (.tmp 87), none, 24576⟩,
  ⟨(some 89), .indexAddr 27 (.tmp 85) (.tmp 88), none, 61440⟩,
  ⟨(some 90), .load 5 (.tmp 89), none, 126976⟩,
  ⟨(some 91), .move (.tmp 0), none, 0⟩,
  ⟨(some 92), .move (.tmp 8), none, 0⟩,
  ⟨(some 93), .indexAddr 27 (.tmp 92) (.const (.int .i64 3)), none, 524288⟩,
  ⟨(some 94), .load 5 (.tmp 93), none, 1572864⟩,
  ⟨(some 95), .indexAddr 27 (.tmp 91) (.tmp 94), none, 3932160⟩,
  ⟨(some 96), .load 5 (.tmp 95), none, 8126464⟩,
  ⟨(some 97), .buildSlice 27 4 #[(0, .tmp 78), (1, .tmp 84), (2, .tmp 90), (3, .tmp 96)], none, 1267650600228229401496719982591⟩,
  ⟨(some 8), .assign (.tmp 97), none, 1267650600228229401496736759807⟩]
def L48r14 : List AOp := [
  ⟨(some 9), .assign (.const (.slice none 0 0)), none, 0⟩]
def L48r15 : List AOp := [
  ⟨(some 10), .assign (.const (.int .i64 0)), none, 0⟩]
def L48r16 : List AOp := [
  ⟨(some 98), .move (.tmp 10), none, 0⟩,
  ⟨(some 99), .binOp .lss 3 (.tmp 98) (.const (.int .i64 4)) 3, none, 0⟩]
def L48r18 : List AOp := [
  ⟨(some 102), .move (.tmp 9), none, 0⟩,
  ⟨(some 103), .move (.tmp 8), none, 0⟩,
  ⟨(some 104), .move (.tmp 10), none, 0⟩,
  ⟨(some 105), .indexAddr 27 (.tmp 103) (.tmp 104), none, 6⟩,
  ⟨(some 106), .load 5 (.tmp 105), none, 14⟩,
  ⟨(some 107), .move (.tmp 5), none, 0⟩,
  ⟨(some 108), .move (.tmp 7), none, 0⟩,
  ⟨(some 109), .binOp .sub 3 (.tmp 108) (.const (.int .i64 8)) 3, none, 64⟩,
  ⟨(some 110), .indexAddr 85 (.tmp 107) (.tmp 109), none, 224⟩,
  ⟨(some 111), .load 27 (.tmp 110), none, 480⟩,
  ⟨(some 112), .move (.tmp 10), none, 0⟩,
  ⟨(some 113), .indexAddr 27 (.tmp 111) (.tmp 112), none, 2016⟩,
  ⟨(some 114), .load 5 (.tmp 113), none, 4064⟩,
  ⟨(some 115), .binOp .xor 5 (.tmp 106) (.tmp 114) 5, none, 8190⟩,
  ⟨(some 116), .buildSlice 27 1 #[(0, .tmp 115)], none, 16382⟩,
  ⟨(some 117), .call { callee := .builtin .append, args := #[.tmp 102, .tmp 116], argTypes := #[27, 27] }, none, 1267650600228229401496703238143⟩,
  ⟨(some 9), .assign (.tmp 117), none, 1267650600228229401496703270911⟩]
def L48r17 : List AOp := [
  ⟨(some 100), .move (.tmp 10), none, 0⟩,
  ⟨(some 101), .binOp .add 3 (.tmp 100) (.const (.int .i64 1)) 3, none, 0⟩,
  ⟨(some 10), .assign (.tmp 101), none, 0⟩]
def L48r19 : List AOp := [
  ⟨(some 118), .move (.tmp 5), none, 0⟩,
  ⟨(some 119), .move (.tmp 9), none, 0⟩,
  ⟨(some 120), .buildSlice 85 1 #[(0, .tmp 119)], none, 0⟩,
  ⟨(some 121), .call { callee := .builtin .append, args := #[.tmp 118, .tmp 120], argTypes := #[85, 85] }, none, 0⟩,
  ⟨(some 5), .assign (.tmp 121), none, 0⟩]
def L48r5 : List AOp := [
  ⟨(some 17), .move (.tmp 7), none, 0⟩,
  ⟨(some 18), .binOp .add 3 (.tmp 17) (.const (.int .i64 1)) 3, none, 0⟩,
  ⟨(some 7), .assign (.tmp 18), none, 0⟩]
def L48r20 : List AOp := [
  ⟨(some 11), .assign (.const (.slice none 0 0)), none, 0⟩]
def L48r21 : List AOp := [
  ⟨(some 12), .assign (.const (.int .i64 0)), none, 0⟩]
def L48r22 : List AOp := [
  ⟨(some 122), .move (.tmp 12), none, 0⟩,
  ⟨(some 123), .binOp .lss 3 (.tmp 122) (.const (.int .i64 15)) 3, none, 0⟩]
def L48r24 : List AOp := [
  ⟨(some 13), .alloc 22, none, 0⟩]
def L48r25 : List AOp := [
  ⟨(some 14), .assign (.const (.int .i64 0)), none, 0⟩]
def L48r26 : List AOp := [
  ⟨(some 126), .move (.tmp 14), none, 0⟩,
  ⟨(some 127), .binOp .lss 3 (.tmp 126) (.const (.int .i64 16)) 3, none, 0⟩]
def L48r28 : List AOp := [
  ⟨(some 130), .move (.tmp 14), none, 0⟩,
  ⟨(some 131), .move (.tmp 5), none, 0⟩,
  ⟨(some 132), .move (.tmp 12), none, 0⟩,
  ⟨(some 133), .binOp .mul 3 (.const (.int .i64 4)) (.tmp 132) 3, none, 0⟩,
  ⟨(some 134), .move (.tmp 14), none, 0⟩,
  ⟨(some 135), .binOp .quo 3 (.tmp 134) (.const (.int .i64 4)) 3, none, 0⟩,
  ⟨(some 136), .binOp .add 3 (.tmp 133) (.tmp 135) 3, none, 0⟩,
  ⟨(some 137), .indexAddr 85 (.tmp 131) (.tmp 136), none, 0⟩,
  ⟨(some 138), .load 27 (.tmp 137), none, 0⟩,
  ⟨(some 139), .move (.tmp 14), none, 0⟩,
  ⟨(some 140), .binOp .rem 3 (.tmp 139) (.const (.int .i64 4)) 3, none, 0⟩,
  ⟨(some 141), .indexAddr 27 (.tmp 138) (.tmp 140), none, 0⟩,
  ⟨(some 142), .load 5 (.tmp 141), none, 0⟩,
  ⟨(some 143), .indexAddr 22 (.tmp 13) (.tmp 130), none, 0⟩,
  ⟨none, .store 5 (.tmp 143) (.tmp 142), none, 0⟩]
def L48r27 : List AOp := [
  ⟨(some 128), .move (.tmp 14), none, 0⟩,
  ⟨(some 129), .binOp .add 3 (.tmp 128) (.const (.int .i64 1)) 3, none, 0⟩,
  ⟨(some 14), .assign (.tmp 129), none, 0⟩]
def L48r29 : List AOp := [
  ⟨(some 144), .move (.tmp 11), none, 0⟩,
  ⟨(some 145), .load 22 (.tmp 13), none, 0⟩,
  ⟨(some 146), .buildSlice 56 1 #[(0, .tmp 145)], none, 0⟩,
  ⟨(some 147), .call { callee := .builtin .append, args := #[.tmp 144, .tmp 146], argTypes := #[56, 56] }, none, 0⟩,
  ⟨(some 11), .assign (.tmp 147), none, 0⟩]
def L48r23 : List AOp := [
  ⟨(some 124), .move (.tmp 12), none, 0⟩,
  ⟨(some 125), .binOp .add 3 (.tmp 124) (.const (.int .i64 1)) 3, none, 0⟩,
  ⟨(some 12), .assign (.tmp 125), none, 0⟩]
def L48r30 : List AOp := [
  ⟨(some 148), .move (.tmp 11), none, 0⟩,
  ⟨(some 4), .assign (.tmp 148), none, 0⟩]
def L48 : LC := (.seq (.region L48r0) (.seq (.region L48r1) (.seq (.region L48r2) (.seq (.seq (.region L48r3) (.block 0 (.loop (.seq (.seq (.region L48r4) (.cond (.tmp 16) .skip (.exit 0))) (.seq (.block 1 (.seq (.seq (.region L48r6) (.cond (.tmp 20) (.seq (.region L48r7) (.exit 1)) .skip)) (.seq (.region L48r8) (.seq (.seq (.region L48r9) (.cond (.tmp 40) (.seq (.regionD L48r10) (.region L48r11)) .skip)) (.seq (.seq (.region L48r12) (.cond (.tmp 72) (.regionD L48r13) .skip)) (.seq (.region L48r14) (.seq (.seq (.region L48r15) (.block 2 (.loop (.seq (.seq (.region L48r16) (.cond (.tmp 99) .skip (.exit 2))) (.seq (.block 3 (.regionD L48r18)) (.region L48r17)))))) (.region L48r19)))))))) (.region L48r5)))))) (.seq (.region L48r20) (.seq (.seq (.region L48r21) (.block 4 (.loop (.seq (.seq (.region L48r22) (.cond (.tmp 123) .skip (.exit 4))) (.seq (.block 5 (.seq (.region L48r24) (.seq (.seq (.region L48r25) (.block 6 (.loop (.seq (.seq (.region L48r26) (.cond (.tmp 127) .skip (.exit 6))) (.seq (.block 7 (.region L48r28)) (.region L48r27)))))) (.region L48r29)))) (.region L48r23)))))) (.seq (.region L48r30) .ret)))))))
theorem nt48 : Try.f48.ntmps = 149 := by kernel_rfl
theorem rs48 : Try.f48.results.toList = [.tmp 4] := by kernel_rfl
theorem lite48 : Try.f48.body.map (lite okDraw) = some L48 := by kernel_rfl
def L49r0 : List AOp := [
  ⟨(some 0), .assign (.const (.slice none 0 0)), none, 0⟩]
def L49r1 : List AOp := [
  ⟨(some 1), .assign (.const (.slice none 0 0)), none, 0⟩]
def L49r2 : List AOp := [
  ⟨(some 2), .assign (.const (.int .i64 0)), none, 0⟩]
def L49r3 : List AOp := [
  ⟨(some 3), .move (.tmp 2), none, 0⟩,
  ⟨(some 4), .binOp .lss 3 (.tmp 3) (.const (.int .i64 256)) 3, none, 0⟩]
def L49r5 : List AOp := [
  ⟨(some 7), .move (.tmp 1), none, 0⟩,
  ⟨(some 8), .move (.tmp 2), none, 0⟩,
  ⟨(some 9), .convert 3 5 (.tmp 8), none, 0⟩,
  ⟨(some 10), .call { callee := .value (.func 39), args := #[.tmp 9], argTypes := #[5] }, none, 0⟩,
  ⟨(some 11), .buildSlice 27 1 #[(0, .tmp 10)], none, 0⟩,
  ⟨(some 12), .call { callee := .builtin .append, args := #[.tmp 7, .tmp 11], argTypes := #[27, 27] }, none, 0⟩,
  ⟨(some 1), .assign (.tmp 12), none, 0⟩]
def L49r4 : List AOp := [
  ⟨(some 5), .move (.tmp 2), none, 0⟩,
  ⟨(some 6), .binOp .add 3 (.tmp 5) (.const (.int .i64 1)) 3, none, 0⟩,
  ⟨(some 2), .assign (.tmp 6), none, 0⟩]
def L49r6 : List AOp := [
  ⟨(some 13), .move (.tmp 1), none, 0⟩,
  ⟨(some 0), .assign (.tmp 13), none, 0⟩]
def L49 : LC := (.seq (.region L49r0) (.seq (.region L49r1) (.seq (.seq (.region L49r2) (.block 0 (.loop (.seq (.seq (.region L49r3) (.cond (.tmp 4) .skip (.exit 0))) (.seq (.block 1 (.region L49r5)) (.region L49r4)))))) (.seq (.region L49r6) .ret))))
theorem nt49 : Try.f49.ntmps = 14 := by kernel_rfl
theorem rs49 : Try.f49.results.toList = [.tmp 0] := by kernel_rfl
theorem lite49 : Try.f49.body.map (lite okDraw) = some L49 := by kernel_rfl
def L65r0 : List AOp := [
  ⟨(some 4), .assign (.const (.int .u8 0)), none, 0⟩]
def L65r1 : List AOp := [
  ⟨(some 6), .move (.tmp 1), none, 0⟩,
  ⟨(some 7), .convert 3 76 (.tmp 6), none, 0⟩,
  ⟨(some 8), .binOp .and 76 (.tmp 7) (.const (.int .u64 7)) 76, none, 0⟩,
  ⟨(some 5), .assign (.tmp 8), none, 0⟩]
def L65r2 : List AOp := [
  ⟨(some 9), .move (.tmp 0), none, 0⟩,
  ⟨(some 10), .move (.tmp 5), none, 0⟩,
  ⟨(some 11), .binOp .shl 5 (.tmp 9) (.tmp 10) 76, none, 0⟩,
  ⟨(some 12), .move (.tmp 0), none, 0⟩,
  ⟨(some 13), .move (.tmp 5), none, 0⟩,
  ⟨(some 14), .binOp .sub 76 (.const (.int .u64 8)) (.tmp 13) 76, none, 0⟩,
  ⟨(some 15), .binOp .shr 5 (.tmp 12) (.tmp 14) 76, none, 0⟩,
  ⟨(some 16), .binOp .or 5 (.tmp 11) (.tmp 15) 5, none, 0⟩,
  ⟨(some 4), .assign (.tmp 16), none, 0⟩]
def L65 : LC := (.seq (.region L65r0) (.seq (.region L65r1) (.seq (.region L65r2) .ret)))
theorem nt65 : Try.f65.ntmps = 17 := by kernel_rfl
theorem rs65 : Try.f65.results.toList = [.tmp 4] := by kernel_rfl
theorem lite65 : Try.f65.body.map (lite okDraw) = some L65 := by kernel_rfl
end Eng


namespace Eng
open Go Go.Proofs Go.ChangeShapes Go.WideShapes Go.ChangeAt Go.RowKit
def B16 (a : List Int) : Prop := a.length = 16 ∧ ∀ x ∈ a, 0 ≤ x ∧ x < 256
def U8 (n : Int) : Prop := 0 ≤ n ∧ n < 256
theorem B16.at {a : List Int} (h : B16 a) (j : Nat) : U8 (a.getD j 0) := by
  rcases Nat.lt_or_ge j a.length with hj | hj
  · rw [List.getD_eq_getElem?_getD, List.getElem?_eq_getElem hj, Option.getD_some]
    exact h.2 _ (List.getElem_mem hj)
  · rw [List.getD_eq_getElem?_getD, List.getElem?_eq_none hj]
    exact ⟨by decide, by decide⟩
theorem own : ownKnob Try.prog.godebug = none := by kernel_rfl
theorem laidOut : laidOutB Try.prog = true := by kernel_rfl
theorem U8_of {x : Int} (h : IntKind.u8.min ≤ x ∧ x ≤ IntKind.u8.max) : U8 x := by
  have h0 : IntKind.u8.min = 0 := by decide
  have h1 : IntKind.u8.max = 255 := by decide
  unfold U8; omega
theorem U8L_of {xs : List Int} (h : ∀ x ∈ xs, IntKind.u8.min ≤ x ∧ x ≤ IntKind.u8.max) : U8L xs := fun x hx => U8_of (h x hx)
theorem co5 : Try.prog.cellsOf 5 = 1 := by kernel_rfl
end Eng


namespace Eng
open Go
/- Bytes as bit vectors. -/
theorem w8_nat (v : BitVec 8) : IntKind.u8.wrap (v.toNat : Int) = (v.toNat : Int) := wrap_u8 (by omega) (by have := v.isLt; omega)
theorem ofInt8_toNat {x : Int} (h0 : 0 ≤ x) (h1 : x < 256) : (BitVec.ofInt 8 x).toNat = x.toNat := ofInt_toNat h0 (by omega)
theorem ofInt8_bv (v : BitVec 8) : BitVec.ofInt 8 (v.toNat : Int) = v := by
  apply BitVec.eq_of_toNat_eq
  rw [ofInt8_toNat (by omega) (by have := v.isLt; omega)]; simp
theorem bv8_ofInt {x : Int} (h0 : 0 ≤ x) (h1 : x < 256) : ((BitVec.ofInt 8 x).toNat : Int) = x := by
  rw [ofInt8_toNat h0 h1]; omega
theorem andZ_u8 (a b : Int) : andZ .u8 a b = ((BitVec.ofInt 8 a &&& BitVec.ofInt 8 b).toNat : Int) := w8_nat _
theorem orZ_u8 (a b : Int) : orZ .u8 a b = ((BitVec.ofInt 8 a ||| BitVec.ofInt 8 b).toNat : Int) := w8_nat _
theorem xorZ_u8 (a b : Int) : xorZ .u8 a b = ((BitVec.ofInt 8 a ^^^ BitVec.ofInt 8 b).toNat : Int) := w8_nat _
theorem xorZ_u8_bv (a b : BitVec 8) : xorZ .u8 (a.toNat : Int) (b.toNat : Int) = ((a ^^^ b).toNat : Int) := by rw [xorZ_u8, ofInt8_bv, ofInt8_bv]
theorem andZ_u8_bv (a b : BitVec 8) : andZ .u8 (a.toNat : Int) (b.toNat : Int) = ((a &&& b).toNat : Int) := by rw [andZ_u8, ofInt8_bv, ofInt8_bv]
theorem negZ_u8_bv (a : BitVec 8) : IntKind.u8.wrap (0 - (a.toNat : Int)) = ((-a).toNat : Int) := by
  rw [wrap_u8_mod, BitVec.toNat_neg]
  have := a.isLt
  omega
theorem shlZ_u8_bv (a : BitVec 8) (n : Nat) (hn : n < 8) : shlZ .u8 (a.toNat : Int) (n : Int) = ((a <<< n).toNat : Int) := by
  have h : shlZ .u8 (a.toNat : Int) (n : Int) = IntKind.u8.wrap ((a.toNat : Int) * 2 ^ (min (n : Int).toNat 8)) := rfl
  rw [h, wrap_u8_mod, BitVec.toNat_shiftLeft, Nat.shiftLeft_eq, Int.toNat_natCast, Nat.min_eq_left (by omega), Int.natCast_emod, Int.natCast_mul, Int.natCast_pow]
  rfl
theorem shrZ_u8_bv (a : BitVec 8) (n : Nat) (hn : n < 8) : shrZ .u8 (a.toNat : Int) (n : Int) = ((a >>> n).toNat : Int) := by
  have h : shrZ .u8 (a.toNat : Int) (n : Int) = (a.toNat : Int).fdiv (2 ^ (min (n : Int).toNat 8)) := rfl
  rw [h, BitVec.toNat_ushiftRight, Nat.shiftRight_eq_div_pow, Int.toNat_natCast, Nat.min_eq_left (by omega), Int.fdiv_eq_ediv_of_nonneg _ (by exact Int.le_of_lt (Int.pow_pos (by decide))), Int.natCast_ediv, Int.natCast_pow]
  rfl
end Eng


namespace Eng
open Go
set_option linter.unusedSimpArgs false
/-! Products of bytes: plain laws. -/
/-- One doubling in the field of bytes. -/
def xt (v : BitVec 8) : BitVec 8 := (v <<< 1) ^^^ (27#8 &&& -(v >>> 7))
def xtn (v : BitVec 8) : Nat → BitVec 8
  | 0 => v
  | i + 1 => xt (xtn v i)
def prodN (a b : BitVec 8) : Nat → BitVec 8
  | 0 => 0#8
  | i + 1 => prodN a b i ^^^ (xtn a i &&& -((b >>> i) &&& 1#8))
def prod (a b : BitVec 8) : BitVec 8 := prodN a b 8

theorem mask_bit (b : BitVec 8) (i : Nat) : -((b >>> i) &&& 1#8) = if b.getLsbD i then BitVec.allOnes 8 else 0#8 := by
  have h : (b >>> i) &&& 1#8 = if b.getLsbD i then 1#8 else 0#8 := by
    apply BitVec.eq_of_toNat_eq
    rw [BitVec.toNat_and, show (1#8).toNat = 1 from rfl, Nat.and_one_is_mod, BitVec.toNat_ushiftRight, Nat.shiftRight_eq_div_pow]
    have e : b.getLsbD i = decide (b.toNat / 2 ^ i % 2 = 1) := Nat.testBit_eq_decide_div_mod_eq
    rw [e]
    by_cases hh : b.toNat / 2 ^ i % 2 = 1
    · simp [hh]
    · have : b.toNat / 2 ^ i % 2 = 0 := by omega
      simp [this]
  rw [h]
  split <;> rfl
theorem prodN_succ (a b : BitVec 8) (i : Nat) : prodN a b (i + 1) = if b.getLsbD i then prodN a b i ^^^ xtn a i else prodN a b i := by
  rw [prodN, mask_bit]
  split
  · rw [BitVec.and_allOnes]
  · rw [BitVec.and_zero, BitVec.xor_zero]
theorem xt_if (v : BitVec 8) : xt v = if v.getLsbD 7 then (v <<< 1) ^^^ 27#8 else v <<< 1 := by
  have : ∀ n, n < 256 → (xt (BitVec.ofNat 8 n) == if (BitVec.ofNat 8 n).getLsbD 7 then ((BitVec.ofNat 8 n) <<< 1) ^^^ 27#8 else (BitVec.ofNat 8 n) <<< 1) = true := by decide +kernel
  have h := this v.toNat v.isLt
  rw [BitVec.ofNat_toNat, BitVec.setWidth_eq] at h
  exact eq_of_beq h
theorem xt_xor (x y : BitVec 8) : xt (x ^^^ y) = xt x ^^^ xt y := by
  rw [xt_if, xt_if, xt_if, BitVec.getLsbD_xor, BitVec.shiftLeft_xor_distrib]
  generalize x <<< 1 = p
  generalize y <<< 1 = q
  cases x.getLsbD 7 <;> cases y.getLsbD 7 <;> simp only [Bool.false_xor, Bool.xor_false, Bool.true_xor, Bool.not_true, if_true, if_false, Bool.false_eq_true]
  · ac_rfl
  · ac_rfl
  · rw [show p ^^^ 27#8 ^^^ (q ^^^ 27#8) = (p ^^^ q) ^^^ (27#8 ^^^ 27#8) by ac_rfl, BitVec.xor_self, BitVec.xor_zero]
theorem xtn_xor (x y : BitVec 8) : ∀ i, xtn (x ^^^ y) i = xtn x i ^^^ xtn y i
  | 0 => rfl
  | i + 1 => by rw [xtn, xtn, xtn, xtn_xor x y i, xt_xor]
theorem prodN_xor (x y b : BitVec 8) : ∀ i, prodN (x ^^^ y) b i = prodN x b i ^^^ prodN y b i
  | 0 => by simp [prodN]
  | i + 1 => by
    rw [prodN_succ, prodN_succ, prodN_succ, prodN_xor x y b i, xtn_xor]
    split
    · ac_rfl
    · rfl
theorem tblE : ∀ n, n < 256 → ∀ i, i < 8 → (prodN (1#8 <<< i) (BitVec.ofNat 8 n) 8 == xtn (BitVec.ofNat 8 n) i) = true := by decide +kernel
theorem prod_unit (b : BitVec 8) (i : Nat) (hi : i < 8) : prodN (1#8 <<< i) b 8 = xtn b i := by
  have := tblE b.toNat b.isLt i hi
  rw [BitVec.ofNat_toNat, BitVec.setWidth_eq] at this
  exact eq_of_beq this
theorem prodN_zero (b : BitVec 8) : prodN 0#8 b 8 = 0#8 := by
  have h := prodN_xor 0#8 0#8 b 8
  simpa only [BitVec.xor_self] using h
theorem prodN_zero' (b : BitVec 8) : ∀ n, prodN 0#8 b n = 0#8
  | 0 => rfl
  | n + 1 => by
    have hx : ∀ i, xtn 0#8 i = 0#8 := fun i => by
      induction i with
      | zero => rfl
      | succ i ih => rw [xtn, ih]; decide
    rw [prodN_succ, prodN_zero' b n, hx]; simp
theorem prodN_xt (a b : BitVec 8) : ∀ n, prodN (xt a) b n = xt (prodN a b n)
  | 0 => by rw [prodN, prodN]; decide
  | n + 1 => by
    have e : ∀ i, xtn (xt a) i = xt (xtn a i) := fun i => by
      induction i with
      | zero => rfl
      | succ i ih => rw [xtn, ih, xtn]
    rw [prodN_succ, prodN_succ, prodN_xt a b n, e]
    split
    · rw [xt_xor]
    · rfl
theorem prodN_xtn (a b : BitVec 8) (n : Nat) : ∀ i, prodN (xtn a i) b n = xtn (prodN a b n) i
  | 0 => rfl
  | i + 1 => by rw [xtn, prodN_xt, prodN_xtn a b n i, xtn]
theorem prodN_comm' (a b c : BitVec 8) (m : Nat) : ∀ n, prodN (prodN c b m) a n = prodN (prodN c a n) b m
  | 0 => by rw [prodN, prodN, prodN_zero']
  | n + 1 => by
    rw [prodN_succ, prodN_comm' a b c m n, prodN_succ]
    split
    · rw [prodN_xor, prodN_xtn]
    · rfl
/-- (c b) a = (c a) b. -/
theorem prod_swap (a b c : BitVec 8) : prod (prod c b) a = prod (prod c a) b := prodN_comm' a b c 8 8
theorem prod_one (b : BitVec 8) : prod 1#8 b = b := prod_unit b 0 (by decide)
/-! Substitutes. -/
def invS (a : BitVec 8) : Nat → BitVec 8 × BitVec 8
  | 0 => (1#8, a)
  | n + 1 => (prod (invS a n).1 (prod (invS a n).2 (invS a n).2), prod (invS a n).2 (invS a n).2)
def inv (a : BitVec 8) : BitVec 8 := (invS a 7).1
theorem inv_tbl : ∀ n, n < 256 → (n == 0 || prod (BitVec.ofNat 8 n) (inv (BitVec.ofNat 8 n)) == 1#8) = true := by decide +kernel
theorem inv_spec (a : BitVec 8) (h : a ≠ 0#8) : prod a (inv a) = 1#8 := by
  have := inv_tbl a.toNat a.isLt
  rw [BitVec.ofNat_toNat, BitVec.setWidth_eq] at this
  simp only [Bool.or_eq_true, beq_iff_eq] at this
  rcases this with h0 | h1
  · exact absurd (BitVec.eq_of_toNat_eq (by simpa using h0)) h
  · exact h1
theorem inv_only (a i : BitVec 8) : prod a i = 1#8 ↔ a ≠ 0#8 ∧ i = inv a := by
  constructor
  · intro h
    have ha : a ≠ 0#8 := by
      rintro rfl
      rw [show prod 0#8 i = 0#8 from prodN_zero i] at h
      exact absurd h (by decide)
    refine ⟨ha, ?_⟩
    have e := prod_swap (inv a) i a
    rw [h, inv_spec a ha, prod_one, prod_one] at e
    exact e.symm
  · rintro ⟨h, rfl⟩
    exact inv_spec a h
theorem inv_zero : inv 0#8 = 0#8 := by decide
/-- The inverse that is found by trying the numbers below k. -/
def found (a : BitVec 8) (k : Nat) : BitVec 8 := if (inv a).toNat < k then inv a else 0#8
theorem found_one (a : BitVec 8) : found a 1 = 0#8 := by
  unfold found
  split
  · exact BitVec.eq_of_toNat_eq (by simp; omega)
  · rfl
theorem found_all (a : BitVec 8) : found a 256 = inv a := by
  unfold found
  rw [if_pos (inv a).isLt]
theorem found_hit (a : BitVec 8) {k : Nat} (h1 : k < 256) (h : prod a (BitVec.ofNat 8 k) = 1#8) : BitVec.ofNat 8 k = found a (k + 1) := by
  have e := ((inv_only a _).1 h).2
  unfold found
  rw [← e, if_pos (by simp; omega)]
theorem found_miss (a : BitVec 8) {k : Nat} (h0 : 0 < k) (h1 : k < 256) (h : prod a (BitVec.ofNat 8 k) ≠ 1#8) : found a k = found a (k + 1) := by
  have e : (inv a).toNat ≠ k := by
    intro e
    have e2 : inv a = BitVec.ofNat 8 k := BitVec.eq_of_toNat_eq (by simp; omega)
    by_cases ha : a = 0#8
    · subst ha
      rw [inv_zero] at e
      simp at e; omega
    · exact h (by rw [← e2]; exact inv_spec a ha)
  unfold found
  by_cases hk : (inv a).toNat < k
  · rw [if_pos hk, if_pos (by omega)]
  · rw [if_neg hk, if_neg (by omega)]
def sboxI (v : BitVec 8) : BitVec 8 := v ^^^ v.rotateLeft 1 ^^^ v.rotateLeft 2 ^^^ v.rotateLeft 3 ^^^ v.rotateLeft 4 ^^^ 99#8
def sbox (a : BitVec 8) : BitVec 8 := sboxI (inv a)
/-- A bit of the substitute, as the document has it. -/
def sbit (n i : Nat) : Nat := (99 / 2 ^ i % 2 + n / 2 ^ i % 2 + n / 2 ^ ((i + 4) % 8) % 2 + n / 2 ^ ((i + 5) % 8) % 2 + n / 2 ^ ((i + 6) % 8) % 2 + n / 2 ^ ((i + 7) % 8) % 2) % 2
def sbits (n : Nat) : Nat → Nat
  | 0 => 0
  | i + 1 => sbits n i + sbit n i * 2 ^ i
theorem sbits_tbl : ∀ n, n < 256 → (sbits n 8 == (sboxI (BitVec.ofNat 8 n)).toNat) = true := by decide +kernel
theorem sbits_eq (v : BitVec 8) : sbits v.toNat 8 = (sboxI v).toNat := by
  have := sbits_tbl v.toNat v.isLt
  rw [BitVec.ofNat_toNat, BitVec.setWidth_eq] at this
  exact eq_of_beq this
theorem sbits_lt (n : Nat) : ∀ i, sbits n i < 2 ^ i
  | 0 => by simp [sbits]
  | i + 1 => by
    have h1 := sbits_lt n i
    have h2 : sbit n i ≤ 1 := by unfold sbit; omega
    rw [sbits, Nat.pow_succ]
    have : sbit n i * 2 ^ i ≤ 1 * 2 ^ i := Nat.mul_le_mul_right _ h2
    omega
end Eng


namespace Eng
open Go

def D32 (l : List Int) : Prop := ∀ x ∈ l, 0 ≤ x ∧ x < 4294967296
theorem D32.at {l : List Int} (h : D32 l) (i : Nat) : 0 ≤ l.getD i 0 ∧ l.getD i 0 < 4294967296 := by
  rcases Nat.lt_or_ge i l.length with hj | hj
  · rw [List.getD_eq_getElem?_getD, List.getElem?_eq_getElem hj, Option.getD_some]
    exact h _ (List.getElem_mem hj)
  · rw [List.getD_eq_getElem?_getD, List.getElem?_eq_none hj]
    exact ⟨by decide, by decide⟩
end Eng


namespace Eng
open Go Go.Proofs
set_option linter.unusedSimpArgs false
set_option linter.unusedVariables false
noncomputable def S25 : List AV → Option Ret := nz (sumOf (fun p : BitVec 8 × BitVec 8 => match p with | (a, b) => True) (fun p : BitVec 8 × BitVec 8 => match p with | (a, b) => [.int .u8 (a.toNat : Nat), .int .u8 (b.toNat : Nat)]) (fun p : BitVec 8 × BitVec 8 => match p with | (a, b) => ⟨.int .u8 ((prod a b).toNat : Nat), none⟩))
theorem S25_eq (a : BitVec 8) (b : BitVec 8)  : S25 [.int .u8 (a.toNat : Nat), .int .u8 (b.toNat : Nat)] = some ⟨.int .u8 ((prod a b).toNat : Nat), none⟩ :=
  sumOf_eq (dom := (fun p : BitVec 8 × BitVec 8 => match p with | (a, b) => True)) (enc := (fun p : BitVec 8 × BitVec 8 => match p with | (a, b) => [.int .u8 (a.toNat : Nat), .int .u8 (b.toNat : Nat)])) (out := (fun p : BitVec 8 × BitVec 8 => match p with | (a, b) => ⟨.int .u8 ((prod a b).toNat : Nat), none⟩)) (a, b) trivial (fun y _ e => by
    obtain ⟨y0, y1⟩ := y
    simp only [List.cons.injEq, AV.int.injEq, Int.ofNat_inj, BitVec.toNat_inj, true_and, and_true] at e
    first | with_reducible rfl | simp only [e] | rfl)
theorem S25_inv {args : List AV} {r : Ret} (h : sumOf (fun p : BitVec 8 × BitVec 8 => match p with | (a, b) => True) (fun p : BitVec 8 × BitVec 8 => match p with | (a, b) => [.int .u8 (a.toNat : Nat), .int .u8 (b.toNat : Nat)]) (fun p : BitVec 8 × BitVec 8 => match p with | (a, b) => ⟨.int .u8 ((prod a b).toNat : Nat), none⟩) args = some r) : ∃ (a : BitVec 8) (b : BitVec 8), (True) ∧ args = [.int .u8 (a.toNat : Nat), .int .u8 (b.toNat : Nat)] ∧ r = ⟨.int .u8 ((prod a b).toNat : Nat), none⟩ := by
  obtain ⟨x, h1, h2, h3⟩ := sumOf_inv h
  obtain ⟨a, b⟩ := x
  exact ⟨a, b, h1, h2.symm, h3⟩


def St25 (a b : BitVec 8) (i : Nat) : AState := { nt := 28, env := [(0, .int .u8 ((xtn a i).toNat : Nat)), (1, .int .u8 (b.toNat : Nat)), (5, .int .u8 ((prodN a b i).toNat : Nat)), (7, .int .i64 i)], mem := [], next := 20 }

theorem and_one8 (v : BitVec 8) : andZ .u8 (v.toNat : Int) 1 = ((v &&& 1#8).toNat : Int) := andZ_u8_bv v 1#8
theorem and_278 (v : BitVec 8) : andZ .u8 27 (v.toNat : Int) = ((27#8 &&& v).toNat : Int) := andZ_u8_bv 27#8 v
theorem shl_one8 (v : BitVec 8) : shlZ .u8 (v.toNat : Int) 1 = ((v <<< 1).toNat : Int) := shlZ_u8_bv v 1 (by decide)
theorem shr_seven8 (v : BitVec 8) : shrZ .u8 (v.toNat : Int) 7 = ((v >>> 7).toNat : Int) := shrZ_u8_bv v 7 (by decide)

set_option maxRecDepth 100000 in
theorem snd25 : SndE Try.prog NoG 25 S25 := by
  refine snd_nz (snd_by [] [] Try.func25 (by kernel_rfl) lite25 nt25 rs25 trivial trivial (fun hT args r h => ?_))
  obtain ⟨a, b, _, rfl, rfl⟩ := S25_inv h
  clear h
  have hM := hM0
  refine ⟨Nat.le_of_ble_eq_true rfl, fun F => ?_⟩
  unfold L25
  refine Lwp.seq (Lwp.regI hT ?_)
  simp only [L25r0, go_sem, eq_self, Nat.reduceLT, decide_true]
  refine Lwp.seq (Lwp.regI hT ?_)
  simp only [L25r1, go_sem, eq_self, Nat.reduceAdd, Nat.reduceLT, decide_true]
  refine Lwp.seq ?_
  refine Lwp.seq (Lwp.regI hT ?_)
  simp only [L25r2, go_sem, eq_self, Nat.reduceAdd, Nat.reduceLT, decide_true]
  refine Lwp.block (Lwp.range (St25 a b) 8 ?_ (fun i hi => ?_) ?_)
  · refine weak_of rfl ?_ ?_ ?_
    · (simp only [go_sem, eq_self, Nat.reduceEqDiff, reduceCtorEq, St25, xtn, prodN]; try rfl)
    · (simp only [go_sem, St25, xtn, prodN]; try rfl)
    · (simp only [go_sem, eq_self, St25, xtn, prodN]; try rfl)
  · have h1 : (i : Int) < 8 := by omega
    have h2 : ¬ (i : Int) < 0 := by omega
    have h4 := wrap_succ hi (by decide)
    have e1 := shrZ_u8_bv b i hi
    unfold St25
    refine Lwp.seq (Lwp.regI hT ?_)
    simp only [L25r3, go_sem, eq_self, Nat.reduceAdd, Nat.reduceLT, Nat.reduceEqDiff, reduceCtorEq, decide_true, h1]
    refine Lwp.seq (Lwp.cond rfl (fun _ => Lwp.skip ?_) (fun h => by cases h))
    refine Lwp.seq (Lwp.block ?_)
    refine Lwp.seq (Lwp.regI hT ?_)
    simp only [L25r4, go_sem, eq_self, Nat.reduceAdd, Nat.reduceLT, Nat.reduceEqDiff, reduceCtorEq, decide_true]
    refine Lwp.seq (Lwp.regI hT ?_)
    simp only [L25r5, go_sem, eq_self, Nat.reduceAdd, Nat.reduceLT, Nat.reduceEqDiff, reduceCtorEq, decide_true, h2, e1, and_one8, negZ_u8_bv, andZ_u8_bv, xorZ_u8_bv]
    refine Lwp.regI hT ?_
    simp only [L25r6, go_sem, eq_self, Nat.reduceAdd, Nat.reduceLT, Nat.reduceEqDiff, Int.reduceLT, reduceCtorEq, decide_true, shl_one8, shr_seven8, negZ_u8_bv, and_278, xorZ_u8_bv]
    refine Lwp.regI hT ?_
    simp only [L25r7, go_sem, eq_self, Nat.reduceAdd, Nat.reduceLT, Nat.reduceEqDiff, reduceCtorEq, decide_true, h4]
    refine weak_of rfl ?_ ?_ ?_
    · (simp only [go_sem, eq_self, Nat.reduceEqDiff, reduceCtorEq, xtn, xt, prodN]; try rfl)
    · (simp only [go_sem]; try rfl)
    · (simp only [go_sem, eq_self]; try rfl)
  · unfold St25
    refine Lwp.seq (Lwp.regI hT ?_)
    simp only [L25r3, go_sem, eq_self, Nat.reduceAdd, Nat.reduceLT, Nat.reduceEqDiff, Int.reduceLT, reduceCtorEq, decide_true, decide_false]
    refine Lwp.seq (Lwp.cond rfl (fun h => by cases h) (fun _ => Lwp.exit ?_))
    simp only [go_sem, eq_self]
    refine Lwp.seq (Lwp.regI hT ?_)
    simp only [L25r8, go_sem, eq_self, Nat.reduceAdd, Nat.reduceLT, Nat.reduceEqDiff, reduceCtorEq, decide_true]
    refine Lwp.ret (post_val (v := .int .u8 ((prod a b).toNat : Nat)) ?_ ?_)
    · simp only [go_sem, eq_self, Nat.reduceEqDiff, reduceCtorEq, prod]
    · simp only [go_sem, eq_self]
end Eng


namespace Eng
open Go Go.Proofs
set_option linter.unusedSimpArgs false
set_option linter.unusedVariables false
def clN (a b : BitVec 8) : Nat → BitVec 16
  | 0 => 0#16
  | i + 1 => if b.getLsbD i then clN a b i ^^^ (a.setWidth 16 <<< i) else clN a b i
def rdN (p : BitVec 16) : Nat → BitVec 16
  | 0 => p
  | k + 1 => if (rdN p k).getLsbD (14 - k) then rdN p k ^^^ (283#16 <<< (6 - k)) else rdN p k

theorem i64_16 (v : BitVec 16) : IntKind.i64.wrap (v.toNat : Int) = (v.toNat : Int) := wrap_i64 (by omega) (by have := v.isLt; omega)
theorem xorZ_i64_bv (p q : BitVec 16) : xorZ .i64 (p.toNat : Int) (q.toNat : Int) = ((p ^^^ q).toNat : Int) := by
  have h : xorZ .i64 (p.toNat : Int) (q.toNat : Int) = IntKind.i64.wrap ((BitVec.ofInt 64 (p.toNat : Int) ^^^ BitVec.ofInt 64 (q.toNat : Int)).toNat : Int) := rfl
  have h1 := p.isLt
  have h2 := q.isLt
  rw [h, BitVec.toNat_xor, ofInt_toNat (by omega) (by omega), ofInt_toNat (by omega) (by omega), Int.toNat_natCast, Int.toNat_natCast, ← BitVec.toNat_xor, i64_16]
theorem shrZ_i64_bit (n i : Nat) (hi : i < 64) : (((shrZ .i64 (n : Int) (i : Int)).tmod 2) == 1) = n.testBit i := by
  have h : shrZ .i64 (n : Int) (i : Int) = (n : Int).fdiv (2 ^ (min (i : Int).toNat 64)) := rfl
  rw [h, Int.toNat_natCast, Nat.min_eq_left (by omega), Int.fdiv_eq_ediv_of_nonneg _ (Int.le_of_lt (Int.pow_pos (by decide)))]
  rw [show (n : Int) / 2 ^ i = ((n / 2 ^ i : Nat) : Int) by rw [Int.natCast_ediv, Int.natCast_pow]; rfl, Int.tmod_eq_emod_of_nonneg (Int.natCast_nonneg _), Nat.testBit_eq_decide_div_mod_eq]
  rw [Bool.eq_iff_iff]
  simp only [beq_iff_eq, decide_eq_true_eq]
  omega
theorem shlZ_i64_nat (n i : Nat) (hi : i < 64) (h : n * 2 ^ i < 9223372036854775808) : shlZ .i64 (n : Int) (i : Int) = ((n * 2 ^ i : Nat) : Int) := by
  have e : shlZ .i64 (n : Int) (i : Int) = IntKind.i64.wrap ((n : Int) * 2 ^ (min (i : Int).toNat 64)) := rfl
  rw [e, Int.toNat_natCast, Nat.min_eq_left (by omega), show (n : Int) * 2 ^ i = ((n * 2 ^ i : Nat) : Int) by rw [Int.natCast_mul, Int.natCast_pow]; rfl, wrap_i64 (by omega) (by omega)]
theorem shl8_16 (a : BitVec 8) (i : Nat) (hi : i < 8) : shlZ .i64 (a.toNat : Int) (i : Int) = ((a.setWidth 16 <<< i).toNat : Int) := by
  have h := a.isLt
  have hp : 2 ^ i ≤ 2 ^ 7 := Nat.pow_le_pow_right (by decide) (by omega)
  have hm : a.toNat * 2 ^ i ≤ 255 * 2 ^ 7 := Nat.mul_le_mul (by omega) hp
  rw [shlZ_i64_nat _ _ (by omega) (by omega), BitVec.toNat_shiftLeft, BitVec.toNat_setWidth, Nat.shiftLeft_eq, Nat.mod_eq_of_lt (show a.toNat < 2 ^ 16 by omega), Nat.mod_eq_of_lt (by omega)]
theorem shl283 (j : Nat) (hj : j ≤ 6) : shlZ .i64 283 (j : Int) = ((283#16 <<< j).toNat : Int) := by
  have h := shlZ_i64_nat 283 j (by omega) (by have : 2 ^ j ≤ 2 ^ 6 := Nat.pow_le_pow_right (by decide) hj; omega)
  have hp : 2 ^ j ≤ 2 ^ 6 := Nat.pow_le_pow_right (by decide) hj
  rw [show (283 : Int) = ((283 : Nat) : Int) from rfl, h, BitVec.toNat_shiftLeft, Nat.shiftLeft_eq, show (283#16).toNat = 283 from rfl, Nat.mod_eq_of_lt (by omega)]

def refP (a b : BitVec 8) : BitVec 8 := (rdN (clN a b 8) 7).setWidth 8
noncomputable def S26 : List AV → Option Ret := nz (sumOf (fun p : BitVec 8 × BitVec 8 => match p with | (a, b) => True) (fun p : BitVec 8 × BitVec 8 => match p with | (a, b) => [.int .u8 (a.toNat : Nat), .int .u8 (b.toNat : Nat)]) (fun p : BitVec 8 × BitVec 8 => match p with | (a, b) => ⟨.int .u8 ((refP a b).toNat : Nat), none⟩))
theorem S26_eq (a : BitVec 8) (b : BitVec 8)  : S26 [.int .u8 (a.toNat : Nat), .int .u8 (b.toNat : Nat)] = some ⟨.int .u8 ((refP a b).toNat : Nat), none⟩ :=
  sumOf_eq (dom := (fun p : BitVec 8 × BitVec 8 => match p with | (a, b) => True)) (enc := (fun p : BitVec 8 × BitVec 8 => match p with | (a, b) => [.int .u8 (a.toNat : Nat), .int .u8 (b.toNat : Nat)])) (out := (fun p : BitVec 8 × BitVec 8 => match p with | (a, b) => ⟨.int .u8 ((refP a b).toNat : Nat), none⟩)) (a, b) trivial (fun y _ e => by
    obtain ⟨y0, y1⟩ := y
    simp only [List.cons.injEq, AV.int.injEq, Int.ofNat_inj, BitVec.toNat_inj, true_and, and_true] at e
    first | with_reducible rfl | simp only [e] | rfl)
theorem S26_inv {args : List AV} {r : Ret} (h : sumOf (fun p : BitVec 8 × BitVec 8 => match p with | (a, b) => True) (fun p : BitVec 8 × BitVec 8 => match p with | (a, b) => [.int .u8 (a.toNat : Nat), .int .u8 (b.toNat : Nat)]) (fun p : BitVec 8 × BitVec 8 => match p with | (a, b) => ⟨.int .u8 ((refP a b).toNat : Nat), none⟩) args = some r) : ∃ (a : BitVec 8) (b : BitVec 8), (True) ∧ args = [.int .u8 (a.toNat : Nat), .int .u8 (b.toNat : Nat)] ∧ r = ⟨.int .u8 ((refP a b).toNat : Nat), none⟩ := by
  obtain ⟨x, h1, h2, h3⟩ := sumOf_inv h
  obtain ⟨a, b⟩ := x
  exact ⟨a, b, h1, h2.symm, h3⟩


def St26 (a b : BitVec 8) (i : Nat) : AState := { nt := 40, env := [(0, .int .u8 (a.toNat : Nat)), (1, .int .u8 (b.toNat : Nat)), (5, .int .i64 ((clN a b i).toNat : Nat)), (6, .int .i64 i)], mem := [], next := 20 }
def St26r (p : BitVec 16) (k : Nat) : AState := { nt := 40, env := [(5, .int .i64 ((rdN p k).toNat : Nat)), (7, .int .i64 (14 - k : Nat))], mem := [], next := 20 }

theorem i64_8 (v : BitVec 8) : IntKind.i64.wrap (v.toNat : Int) = (v.toNat : Int) := wrap_i64 (by omega) (by have := v.isLt; omega)

set_option maxRecDepth 100000 in
theorem snd26 : SndE Try.prog NoG 26 S26 := by
  refine snd_nz (snd_by [] [] Try.func26 (by kernel_rfl) lite26 nt26 rs26 trivial trivial (fun hT args r h => ?_))
  obtain ⟨a, b, _, rfl, rfl⟩ := S26_inv h
  clear h
  have hM := hM0
  refine ⟨Nat.le_of_ble_eq_true rfl, fun F => ?_⟩
  unfold L26
  refine Lwp.seq (Lwp.regI hT ?_)
  simp only [L26r0, go_sem, eq_self, Nat.reduceLT, decide_true]
  refine Lwp.seq (Lwp.regI hT ?_)
  simp only [L26r1, go_sem, eq_self, Nat.reduceAdd, Nat.reduceLT, decide_true]
  refine Lwp.seq (Lwp.seq (Lwp.region hT ?_))
  simp only [L26r2, go_sem, eq_self, Nat.reduceAdd, Nat.reduceLT]
  refine Lwp.block (Lwp.range (St26 a b) 8 ?_ (fun i hi => ?_) ?_)
  · refine weak_of rfl ?_ ?_ ?_
    · (simp only [go_sem, eq_self, Nat.reduceEqDiff, reduceCtorEq, St26, clN]; try rfl)
    · (simp only [go_sem, St26, clN]; try rfl)
    · (simp only [go_sem, eq_self, St26, clN]; try rfl)
  · have h1 : (i : Int) < 8 := by omega
    have h2 : ¬ (i : Int) < 0 := by omega
    have h4 := wrap_succ hi (by decide)
    have e1 : (((shrZ .i64 (b.toNat : Int) (i : Int)).tmod 2) == 1) = b.getLsbD i := shrZ_i64_bit b.toNat i (by omega)
    have e2 := shl8_16 a i hi
    refine Lwp.seq (Lwp.seq (Lwp.region hT ?_))
    simp only [L26r3, St26, go_sem, eq_self, Nat.reduceAdd, Nat.reduceLT, Nat.reduceEqDiff, reduceCtorEq, decide_true, h1]
    refine Lwp.cond rfl (fun _ => Lwp.skip ?_) (fun h => by cases h)
    simp only [go_sem]
    refine Lwp.seq (Lwp.block (Lwp.seq (Lwp.region hT ?_)))
    simp only [L26r5, go_sem, eq_self, Nat.reduceAdd, Nat.reduceLT, Nat.reduceEqDiff, Int.reduceEq, reduceCtorEq, ty3, ty5, h2, i64_8, e1]
    by_cases hb : b.getLsbD i = true
    · rw [hb]
      refine Lwp.cond rfl (fun _ => ?_) (fun h => by cases h)
      refine Lwp.regI hT ?_
      simp only [L26r6, go_sem, eq_self, Nat.reduceAdd, Nat.reduceLT, Nat.reduceEqDiff, reduceCtorEq, decide_true, ty3, ty5, h2, i64_8, e2, xorZ_i64_bv]
      refine Lwp.regI hT ?_
      simp only [L26r4, go_sem, eq_self, Nat.reduceAdd, Nat.reduceLT, Nat.reduceEqDiff, reduceCtorEq, decide_true, h4]
      have hs : clN a b (i + 1) = clN a b i ^^^ (a.setWidth 16 <<< i) := by rw [clN, if_pos]; exact hb
      refine weak_of rfl ?_ ?_ ?_
      · (simp only [go_sem, eq_self, Nat.reduceEqDiff, reduceCtorEq, hs]; try rfl)
      · (simp only [go_sem]; try rfl)
      · (simp only [go_sem, eq_self]; try rfl)
    · rw [Bool.not_eq_true] at hb
      rw [hb]
      refine Lwp.cond rfl (fun h => by cases h) (fun _ => Lwp.skip ?_)
      simp only [go_sem]
      refine Lwp.regI hT ?_
      simp only [L26r4, go_sem, eq_self, Nat.reduceAdd, Nat.reduceLT, Nat.reduceEqDiff, reduceCtorEq, decide_true, h4]
      have hs : clN a b (i + 1) = clN a b i := by rw [clN, if_neg]; show ¬ b.getLsbD i = true; rw [hb]; decide
      refine weak_of rfl ?_ ?_ ?_
      · (simp only [go_sem, eq_self, Nat.reduceEqDiff, reduceCtorEq, hs]; try rfl)
      · (simp only [go_sem]; try rfl)
      · (simp only [go_sem, eq_self]; try rfl)
  · refine Lwp.seq (Lwp.seq (Lwp.region hT ?_))
    simp only [L26r3, St26, go_sem, eq_self, Nat.reduceAdd, Nat.reduceLT, Nat.reduceEqDiff, Int.reduceLT, reduceCtorEq, decide_false]
    refine Lwp.cond rfl (fun h => by cases h) (fun _ => Lwp.exit ?_)
    simp only [go_sem, eq_self]
    refine Lwp.seq (Lwp.seq (Lwp.region hT ?_))
    simp only [L26r7, go_sem, eq_self, Nat.reduceAdd, Nat.reduceLT]
    refine Lwp.block (Lwp.range (St26r (clN a b 8)) 7 ?_ (fun k hk => ?_) ?_)
    · refine weak_of rfl ?_ ?_ ?_
      · (simp only [go_sem, eq_self, Nat.reduceSub, Nat.reduceEqDiff, reduceCtorEq, St26r, rdN]; try rfl)
      · (simp only [go_sem, Nat.reduceSub, St26r, rdN]; try rfl)
      · (simp only [go_sem, eq_self, Nat.reduceSub, St26r, rdN]; try rfl)
    · have g1 : ((14 - k : Nat) : Int) ≥ 8 := by omega
      have g2 : ¬ ((14 - k : Nat) : Int) < 0 := by omega
      have g3 : IntKind.i64.wrap (((14 - k : Nat) : Int) - 1) = ((14 - (k + 1) : Nat) : Int) := by rw [wrap_i64 (by omega) (by omega)]; omega
      have g4 : IntKind.i64.wrap (((14 - k : Nat) : Int) - 8) = ((6 - k : Nat) : Int) := by rw [wrap_i64 (by omega) (by omega)]; omega
      have g5 : ¬ ((6 - k : Nat) : Int) < 0 := by omega
      have e1 : (((shrZ .i64 ((rdN (clN a b 8) k).toNat : Int) ((14 - k : Nat) : Int)).tmod 2) == 1) = (rdN (clN a b 8) k).getLsbD (14 - k) := shrZ_i64_bit (rdN (clN a b 8) k).toNat (14 - k) (by omega)
      have e2 := shl283 (6 - k) (by omega)
      refine Lwp.seq (Lwp.seq (Lwp.region hT ?_))
      simp only [L26r8, St26r, go_sem, eq_self, Nat.reduceAdd, Nat.reduceLT, Nat.reduceEqDiff, decide_true, g1]
      refine Lwp.cond rfl (fun _ => Lwp.skip ?_) (fun h => by cases h)
      simp only [go_sem]
      refine Lwp.seq (Lwp.block (Lwp.seq (Lwp.region hT ?_)))
      simp only [L26r10, go_sem, eq_self, Nat.reduceAdd, Nat.reduceLT, Nat.reduceEqDiff, Int.reduceEq, g2, e1]
      by_cases hb : (rdN (clN a b 8) k).getLsbD (14 - k) = true
      · rw [hb]
        refine Lwp.cond rfl (fun _ => ?_) (fun h => by cases h)
        refine Lwp.regI hT ?_
        simp only [L26r11, go_sem, eq_self, Nat.reduceAdd, Nat.reduceLT, Nat.reduceEqDiff, decide_true, g4, g5, e2, xorZ_i64_bv]
        refine Lwp.regI hT ?_
        simp only [L26r9, go_sem, eq_self, Nat.reduceAdd, Nat.reduceLT, Nat.reduceEqDiff, decide_true, g3]
        have hs : rdN (clN a b 8) (k + 1) = rdN (clN a b 8) k ^^^ (283#16 <<< (6 - k)) := by rw [rdN, if_pos]; exact hb
        refine weak_of rfl ?_ ?_ ?_
        · (simp only [go_sem, eq_self, Nat.reduceEqDiff, hs]; try rfl)
        · (simp only [go_sem]; try rfl)
        · (simp only [go_sem, eq_self]; try rfl)
      · rw [Bool.not_eq_true] at hb
        rw [hb]
        refine Lwp.cond rfl (fun h => by cases h) (fun _ => Lwp.skip ?_)
        simp only [go_sem]
        refine Lwp.regI hT ?_
        simp only [L26r9, go_sem, eq_self, Nat.reduceAdd, Nat.reduceLT, Nat.reduceEqDiff, decide_true, g3]
        have hs : rdN (clN a b 8) (k + 1) = rdN (clN a b 8) k := by rw [rdN, if_neg]; show ¬ (rdN (clN a b 8) k).getLsbD (14 - k) = true; rw [hb]; decide
        refine weak_of rfl ?_ ?_ ?_
        · (simp only [go_sem, eq_self, Nat.reduceEqDiff, hs]; try rfl)
        · (simp only [go_sem]; try rfl)
        · (simp only [go_sem, eq_self]; try rfl)
    · refine Lwp.seq (Lwp.seq (Lwp.region hT ?_))
      simp only [L26r8, St26r, go_sem, eq_self, Nat.reduceAdd, Nat.reduceSub, Nat.reduceLT, Nat.reduceEqDiff, Int.reduceGE, decide_false]
      refine Lwp.cond rfl (fun h => by cases h) (fun _ => Lwp.exit ?_)
      simp only [go_sem, eq_self]
      refine Lwp.seq (Lwp.regI hT ?_)
      simp only [L26r12, go_sem, eq_self, Nat.reduceAdd, Nat.reduceLT, Nat.reduceEqDiff, decide_true, ty3, ty5]
      refine Lwp.ret (post_val (v := .int .u8 ((refP a b).toNat : Nat)) ?_ ?_)
      · simp only [go_sem, eq_self, Nat.reduceEqDiff, Nat.reducePow, refP, BitVec.toNat_setWidth, wrap_u8_mod]
        rfl
      · simp only [go_sem, eq_self]
end Eng


namespace Eng
open Go Go.Proofs
set_option linter.unusedSimpArgs false
set_option linter.unusedVariables false
theorem rdN_xor (p q : BitVec 16) : ∀ k, rdN (p ^^^ q) k = rdN p k ^^^ rdN q k
  | 0 => rfl
  | k + 1 => by
    simp only [rdN, rdN_xor p q k, BitVec.getLsbD_xor]
    generalize rdN p k = x
    generalize rdN q k = y
    generalize 283#16 <<< (6 - k) = m
    cases x.getLsbD (14 - k) <;> cases y.getLsbD (14 - k) <;> simp only [Bool.false_xor, Bool.xor_false, Bool.true_xor, Bool.not_true, if_true, if_false, Bool.false_eq_true]
    · ac_rfl
    · ac_rfl
    · rw [show x ^^^ m ^^^ (y ^^^ m) = (x ^^^ y) ^^^ (m ^^^ m) by ac_rfl, BitVec.xor_self, BitVec.xor_zero]
theorem tblR : ∀ n, n < 256 → ∀ i, i < 8 → ((rdN ((BitVec.ofNat 8 n).setWidth 16 <<< i) 7).setWidth 8 == xtn (BitVec.ofNat 8 n) i) = true := by decide +kernel
theorem rd_bit (a : BitVec 8) (i : Nat) (hi : i < 8) : (rdN (a.setWidth 16 <<< i) 7).setWidth 8 = xtn a i := by
  have := tblR a.toNat a.isLt i hi
  rw [BitVec.ofNat_toNat, BitVec.setWidth_eq] at this
  exact eq_of_beq this
theorem rdN_zero : rdN 0#16 7 = 0#16 := by decide
theorem ref_steps (a b : BitVec 8) : ∀ i, i ≤ 8 → (rdN (clN a b i) 7).setWidth 8 = prodN a b i
  | 0, _ => by rw [clN, rdN_zero, prodN]; rfl
  | i + 1, h => by
    rw [prodN_succ, clN]
    split
    · rw [rdN_xor, BitVec.setWidth_xor, ref_steps a b i (by omega), rd_bit a i (by omega)]
    · exact ref_steps a b i (by omega)
theorem ref_prod (a b : BitVec 8) : refP a b = prod a b := ref_steps a b 8 (Nat.le_refl _)

end Eng


namespace Eng
open Go Go.Proofs
set_option linter.unusedSimpArgs false
set_option linter.unusedVariables false
/-! States of 16 bytes. -/
abbrev St := Nat → BitVec 8
def bl (S : St) : List Int := tab 16 (fun j => ((S j).toNat : Int))
def sb (s : List Int) : St := fun j => BitVec.ofInt 8 (s.getD j 0)
def mixC (a b c d : BitVec 8) : BitVec 8 := prod 2#8 a ^^^ prod 3#8 b ^^^ c ^^^ d
def mixS (S : St) : St := fun j => mixC (S (4 * (j / 4) + j % 4)) (S (4 * (j / 4) + (j % 4 + 1) % 4)) (S (4 * (j / 4) + (j % 4 + 2) % 4)) (S (4 * (j / 4) + (j % 4 + 3) % 4))
def mixed (s : List Int) : List Int := bl (mixS (sb s))
end Eng


namespace Eng
open Go Go.Proofs
set_option linter.unusedSimpArgs false
set_option linter.unusedVariables false
theorem orZ_u8_bv (a b : BitVec 8) : orZ .u8 (a.toNat : Int) (b.toNat : Int) = ((a ||| b).toNat : Int) := by rw [orZ_u8, ofInt8_bv, ofInt8_bv]
end Eng


namespace Eng
open Go Go.Proofs
set_option linter.unusedSimpArgs false
set_option linter.unusedVariables false
theorem tab_succ (n : Nat) (f : Nat → Int) : tab (n + 1) f = tab n f ++ [f n] := by simp [tab, List.range_succ]
theorem shrZ_i64 (x n : Nat) (hn : n < 64) : shrZ .i64 (x : Int) (n : Int) = ((x / 2 ^ n : Nat) : Int) := by
  have h : shrZ .i64 (x : Int) (n : Int) = (x : Int).fdiv (2 ^ (min (n : Int).toNat 64)) := rfl
  rw [h, Int.toNat_natCast, Nat.min_eq_left (by omega), Int.fdiv_eq_ediv_of_nonneg _ (Int.le_of_lt (Int.pow_pos (by decide))), Int.natCast_ediv, Int.natCast_pow]
  rfl
def Bnd (l : List Int) (m : Int) : Prop := ∀ n, 0 ≤ l.getD n 0 ∧ l.getD n 0 ≤ m
theorem Bnd.mono {l : List Int} {m k : Int} (h : Bnd l m) (hk : m ≤ k) : Bnd l k := fun n => ⟨(h n).1, Int.le_trans (h n).2 hk⟩
end Eng


namespace Eng
open Go Go.Proofs
set_option linter.unusedSimpArgs false
set_option linter.unusedVariables false
theorem and7_tbl : ∀ k : Nat, k < 8 → andZ .u64 (k : Int) 7 = (k : Int) := by decide +kernel

noncomputable def S65 : List AV → Option Ret := nz (sumOf (fun p : BitVec 8 × Nat => match p with | (x, k) => (0 < k) ∧ (k < 8)) (fun p : BitVec 8 × Nat => match p with | (x, k) => [.int .u8 (x.toNat : Nat), .int .i64 k]) (fun p : BitVec 8 × Nat => match p with | (x, k) => ⟨.int .u8 ((x.rotateLeft k).toNat : Nat), none⟩))
theorem S65_eq (x : BitVec 8) (k : Nat) (h0 : 0 < k) (h1 : k < 8) : S65 [.int .u8 (x.toNat : Nat), .int .i64 k] = some ⟨.int .u8 ((x.rotateLeft k).toNat : Nat), none⟩ :=
  sumOf_eq (dom := (fun p : BitVec 8 × Nat => match p with | (x, k) => (0 < k) ∧ (k < 8))) (enc := (fun p : BitVec 8 × Nat => match p with | (x, k) => [.int .u8 (x.toNat : Nat), .int .i64 k])) (out := (fun p : BitVec 8 × Nat => match p with | (x, k) => ⟨.int .u8 ((x.rotateLeft k).toNat : Nat), none⟩)) (x, k) ⟨h0, h1⟩ (fun y _ e => by
    obtain ⟨y0, y1⟩ := y
    simp only [List.cons.injEq, AV.int.injEq, Int.ofNat_inj, BitVec.toNat_inj, true_and, and_true] at e
    first | with_reducible rfl | simp only [e] | rfl)
theorem S65_inv {args : List AV} {r : Ret} (h : sumOf (fun p : BitVec 8 × Nat => match p with | (x, k) => (0 < k) ∧ (k < 8)) (fun p : BitVec 8 × Nat => match p with | (x, k) => [.int .u8 (x.toNat : Nat), .int .i64 k]) (fun p : BitVec 8 × Nat => match p with | (x, k) => ⟨.int .u8 ((x.rotateLeft k).toNat : Nat), none⟩) args = some r) : ∃ (x : BitVec 8) (k : Nat), ((0 < k) ∧ (k < 8)) ∧ args = [.int .u8 (x.toNat : Nat), .int .i64 k] ∧ r = ⟨.int .u8 ((x.rotateLeft k).toNat : Nat), none⟩ := by
  obtain ⟨x, h1, h2, h3⟩ := sumOf_inv h
  obtain ⟨x, k⟩ := x
  exact ⟨x, k, h1, h2.symm, h3⟩


set_option maxRecDepth 100000 in
theorem snd65 : SndE Try.prog NoG 65 S65 := by
  refine snd_nz (snd_by [] [] Try.func65 (by kernel_rfl) lite65 nt65 rs65 trivial trivial (fun hT args r h => ?_))
  obtain ⟨x, k, ⟨hd0, hd1⟩, rfl, rfl⟩ := S65_inv h
  clear h
  have hM := hM0
  refine ⟨Nat.le_of_ble_eq_true rfl, fun F => ?_⟩
  unfold L65
  have e1 : IntKind.u64.wrap (k : Int) = k := wrap_u64 (by omega) (by omega)
  have e2 := and7_tbl k hd1
  have e3 : ¬ (k : Int) < 0 := by omega
  have e4 : IntKind.u64.wrap (8 - (k : Int)) = ((8 - k : Nat) : Int) := by rw [wrap_u64 (by omega) (by omega)]; omega
  have e5 : ¬ ((8 - k : Nat) : Int) < 0 := by omega
  have e6 := shlZ_u8_bv x k hd1
  have e7 := shrZ_u8_bv x (8 - k) (by omega)
  have e8 := orZ_u8_bv (x <<< k) (x >>> (8 - k))
  have e9 : x <<< k ||| x >>> (8 - k) = x.rotateLeft k := by
    rw [BitVec.rotateLeft_eq_rotateLeftAux_of_lt hd1]; rfl
  rw [e9] at e8
  generalize 8 - k = m at *
  refine Lwp.seq (Lwp.regI hT ?_)
  simp only [L65r0, go_sem, eq_self, Nat.reduceLT, decide_true]
  refine Lwp.seq (Lwp.regI hT ?_)
  simp only [L65r1, go_sem, eq_self, Nat.reduceAdd, Nat.reduceLT, Nat.reduceEqDiff, reduceCtorEq, decide_true, ty3, ty76, e1, e2]
  refine Lwp.seq (Lwp.regI hT ?_)
  simp only [L65r2, go_sem, eq_self, Nat.reduceAdd, Nat.reduceLT, Nat.reduceEqDiff, reduceCtorEq, decide_true, e3, e4, e5, e6, e7, e8]
  refine Lwp.ret (post_val (v := .int .u8 ((x.rotateLeft k).toNat : Nat)) ?_ ?_)
  · simp only [go_sem, eq_self, Nat.reduceEqDiff, reduceCtorEq]
  · simp only [go_sem, eq_self]

noncomputable def S38 : List AV → Option Ret := nz (sumOf (fun p : BitVec 8 => match p with | a => True) (fun p : BitVec 8 => match p with | a => [.int .u8 (a.toNat : Nat)]) (fun p : BitVec 8 => match p with | a => ⟨.int .u8 ((sbox a).toNat : Nat), none⟩))
theorem S38_eq (a : BitVec 8)  : S38 [.int .u8 (a.toNat : Nat)] = some ⟨.int .u8 ((sbox a).toNat : Nat), none⟩ :=
  sumOf_eq (dom := (fun p : BitVec 8 => match p with | a => True)) (enc := (fun p : BitVec 8 => match p with | a => [.int .u8 (a.toNat : Nat)])) (out := (fun p : BitVec 8 => match p with | a => ⟨.int .u8 ((sbox a).toNat : Nat), none⟩)) a trivial (fun y _ e => by
    simp only [List.cons.injEq, AV.int.injEq, Int.ofNat_inj, BitVec.toNat_inj, true_and, and_true] at e
    first | with_reducible rfl | simp only [e] | rfl)
theorem S38_inv {args : List AV} {r : Ret} (h : sumOf (fun p : BitVec 8 => match p with | a => True) (fun p : BitVec 8 => match p with | a => [.int .u8 (a.toNat : Nat)]) (fun p : BitVec 8 => match p with | a => ⟨.int .u8 ((sbox a).toNat : Nat), none⟩) args = some r) : ∃ (a : BitVec 8), (True) ∧ args = [.int .u8 (a.toNat : Nat)] ∧ r = ⟨.int .u8 ((sbox a).toNat : Nat), none⟩ := by
  obtain ⟨x, h1, h2, h3⟩ := sumOf_inv h
  exact ⟨x, h1, h2.symm, h3⟩


theorem xor99 (v : BitVec 8) : xorZ .u8 (v.toNat : Int) 99 = ((v ^^^ 99#8).toNat : Int) := xorZ_u8_bv v 99#8

set_option maxRecDepth 100000 in
theorem snd38 : SndE Try.prog NoG 38 S38 := by
  refine snd_nz (snd_by [(25, S25), (65, S65)] [] Try.func38 (by kernel_rfl) lite38 nt38 rs38 ⟨snd25, snd65, trivial⟩ trivial (fun hT args r h => ?_))
  obtain ⟨a, _, rfl, rfl⟩ := S38_inv h
  clear h
  have hM := hM0
  refine ⟨Nat.le_of_ble_eq_true rfl, fun F => ?_⟩
  unfold L38
  refine Lwp.seq (Lwp.regI hT ?_)
  simp only [L38r0, go_sem, eq_self, Nat.reduceLT, decide_true]
  refine Lwp.seq (Lwp.regI hT ?_)
  simp only [L38r1, go_sem, eq_self, Nat.reduceAdd, Nat.reduceLT, Nat.reduceEqDiff, reduceCtorEq, decide_true]
  refine Lwp.seq ?_
  refine Lwp.seq (Lwp.regI hT ?_)
  simp only [L38r2, go_sem, eq_self, Nat.reduceAdd, Nat.reduceLT, decide_true]
  refine Lwp.block (Lwp.range (fun n => { nt := 29, env := [(3, .int .u8 ((invS a n).1.toNat : Nat)), (4, .int .u8 ((invS a n).2.toNat : Nat)), (6, .int .i64 n)], mem := [], next := 0 }) 7 ?_ (fun n hn => ?_) ?_)
  · refine weak_of rfl ?_ ?_ ?_
    · (simp only [go_sem, eq_self, Nat.reduceEqDiff, reduceCtorEq, invS]; try rfl)
    · (simp only [go_sem]; try rfl)
    · (simp only [go_sem, eq_self]; try rfl)
  · have h1 : (n : Int) < 7 := by omega
    have h4 := wrap_succ hn (by decide)
    have f1 := S25_eq (invS a n).2 (invS a n).2
    have f2 := S25_eq (invS a n).1 (prod (invS a n).2 (invS a n).2)
    refine Lwp.seq (Lwp.regI hT ?_)
    simp only [L38r3, go_sem, eq_self, Nat.reduceLT, Nat.reduceEqDiff, decide_true, h1]
    refine Lwp.seq (Lwp.cond rfl (fun _ => Lwp.skip ?_) (fun h => by cases h))
    simp only [go_sem]
    refine Lwp.seq (Lwp.block ?_)
    refine Lwp.seq (Lwp.regI hT ?_)
    simp only [L38r4, go_sem, eq_self, Nat.reduceAdd, Nat.reduceLT, Nat.reduceEqDiff, decide_true, f1]
    refine Lwp.regI hT ?_
    simp only [L38r5, go_sem, eq_self, Nat.reduceAdd, Nat.reduceLT, Nat.reduceEqDiff, decide_true, f2]
    refine Lwp.regI hT ?_
    simp only [L38r6, go_sem, eq_self, Nat.reduceAdd, Nat.reduceLT, Nat.reduceEqDiff, decide_true, h4]
    refine weak_of rfl ?_ ?_ ?_
    · (simp only [go_sem, eq_self, Nat.reduceEqDiff, invS]; try rfl)
    · (simp only [go_sem]; try rfl)
    · (simp only [go_sem, eq_self]; try rfl)
  · refine Lwp.seq (Lwp.regI hT ?_)
    simp only [L38r3, go_sem, eq_self, Nat.reduceLT, Nat.reduceEqDiff, Int.reduceLT, decide_true, decide_false]
    refine Lwp.seq (Lwp.cond rfl (fun h => by cases h) (fun _ => Lwp.exit ?_))
    simp only [go_sem, eq_self]
    have e : sbox a = (invS a 7).1 ^^^ (invS a 7).1.rotateLeft 1 ^^^ (invS a 7).1.rotateLeft 2 ^^^ (invS a 7).1.rotateLeft 3 ^^^ (invS a 7).1.rotateLeft 4 ^^^ 99#8 := rfl
    generalize (invS a 7).1 = v at *
    have f1 : S65 [.int .u8 (v.toNat : Nat), .int .i64 1] = some ⟨.int .u8 ((v.rotateLeft 1).toNat : Nat), none⟩ := S65_eq v 1 (by decide) (by decide)
    have f2 : S65 [.int .u8 (v.toNat : Nat), .int .i64 2] = some ⟨.int .u8 ((v.rotateLeft 2).toNat : Nat), none⟩ := S65_eq v 2 (by decide) (by decide)
    have f3 : S65 [.int .u8 (v.toNat : Nat), .int .i64 3] = some ⟨.int .u8 ((v.rotateLeft 3).toNat : Nat), none⟩ := S65_eq v 3 (by decide) (by decide)
    have f4 : S65 [.int .u8 (v.toNat : Nat), .int .i64 4] = some ⟨.int .u8 ((v.rotateLeft 4).toNat : Nat), none⟩ := S65_eq v 4 (by decide) (by decide)
    refine Lwp.seq (Lwp.regI hT ?_)
    simp only [L38r7, go_sem, eq_self, Nat.reduceAdd, Nat.reduceLT, Nat.reduceEqDiff, decide_true, f1, f2, f3, f4, xorZ_u8_bv, xor99]
    refine Lwp.ret (post_val (v := .int .u8 ((sbox a).toNat : Nat)) ?_ ?_)
    · simp only [go_sem, eq_self, Nat.reduceEqDiff, e]
    · simp only [go_sem, eq_self]

theorem nat_tmod2 (x : Nat) : (x : Int).tmod 2 = ((x % 2 : Nat) : Int) := by rw [Int.tmod_eq_emod_of_nonneg (Int.natCast_nonneg _)]; omega
theorem nat_tmod8 (x : Nat) : (x : Int).tmod 8 = ((x % 8 : Nat) : Int) := by rw [Int.tmod_eq_emod_of_nonneg (Int.natCast_nonneg _)]; omega

noncomputable def S39 : List AV → Option Ret := nz (sumOf (fun p : BitVec 8 => match p with | a => True) (fun p : BitVec 8 => match p with | a => [.int .u8 (a.toNat : Nat)]) (fun p : BitVec 8 => match p with | a => ⟨.int .u8 ((sbox a).toNat : Nat), none⟩))
theorem S39_eq (a : BitVec 8)  : S39 [.int .u8 (a.toNat : Nat)] = some ⟨.int .u8 ((sbox a).toNat : Nat), none⟩ :=
  sumOf_eq (dom := (fun p : BitVec 8 => match p with | a => True)) (enc := (fun p : BitVec 8 => match p with | a => [.int .u8 (a.toNat : Nat)])) (out := (fun p : BitVec 8 => match p with | a => ⟨.int .u8 ((sbox a).toNat : Nat), none⟩)) a trivial (fun y _ e => by
    simp only [List.cons.injEq, AV.int.injEq, Int.ofNat_inj, BitVec.toNat_inj, true_and, and_true] at e
    first | with_reducible rfl | simp only [e] | rfl)
theorem S39_inv {args : List AV} {r : Ret} (h : sumOf (fun p : BitVec 8 => match p with | a => True) (fun p : BitVec 8 => match p with | a => [.int .u8 (a.toNat : Nat)]) (fun p : BitVec 8 => match p with | a => ⟨.int .u8 ((sbox a).toNat : Nat), none⟩) args = some r) : ∃ (a : BitVec 8), (True) ∧ args = [.int .u8 (a.toNat : Nat)] ∧ r = ⟨.int .u8 ((sbox a).toNat : Nat), none⟩ := by
  obtain ⟨x, h1, h2, h3⟩ := sumOf_inv h
  exact ⟨x, h1, h2.symm, h3⟩


set_option maxRecDepth 100000 in
theorem snd39 : SndE Try.prog NoG 39 S39 := by
  refine snd_nz (snd_by [(26, S26)] [] Try.func39 (by kernel_rfl) lite39 nt39 rs39 ⟨snd26, trivial⟩ trivial (fun hT args r h => ?_))
  obtain ⟨a, _, rfl, rfl⟩ := S39_inv h
  clear h
  have hM := hM0
  refine ⟨Nat.le_of_ble_eq_true rfl, fun F => ?_⟩
  unfold L39
  refine Lwp.seq (Lwp.regI hT ?_)
  simp only [L39r0, go_sem, eq_self, Nat.reduceLT, decide_true]
  refine Lwp.seq (Lwp.regI hT ?_)
  simp only [L39r1, go_sem, eq_self, Nat.reduceAdd, Nat.reduceLT, decide_true]
  refine Lwp.seq ?_
  refine Lwp.seq (Lwp.regI hT ?_)
  simp only [L39r2, go_sem, eq_self, Nat.reduceAdd, Nat.reduceLT, decide_true]
  refine Lwp.block (Lwp.whl (fun k : Nat => { nt := 77, env := [(0, .int .u8 (a.toNat : Nat)), (3, .int .u8 ((found a k).toNat : Nat)), (4, .int .i64 k)], mem := [], next := 0 }) (fun k => 1 ≤ k ∧ k ≤ 256) (fun k => 256 - k) 1 ⟨by decide, by decide⟩ ?_ ?_)
  · have e := found_one a
    refine weak_of rfl ?_ ?_ ?_
    · (simp only [go_sem, eq_self, Nat.reduceEqDiff, reduceCtorEq, e]; try rfl)
    · (simp only [go_sem]; try rfl)
    · (simp only [go_sem, eq_self]; try rfl)
  · rintro k ⟨k0, k1⟩
    refine Lwp.seq ?_
    by_cases hk : k < 256
    · have h1 : (k : Int) < 256 := by omega
      have h4 : IntKind.i64.wrap ((k : Int) + 1) = ((k + 1 : Nat) : Int) := wrap_succ hk (by decide)
      have e1 : IntKind.u8.wrap (k : Int) = ((BitVec.ofNat 8 k).toNat : Int) := by
        rw [wrap_u8 (by omega) (by omega)]; simp; omega
      have f1 := S26_eq a (BitVec.ofNat 8 k)
      rw [ref_prod] at f1
      refine Lwp.seq (Lwp.regI hT ?_)
      simp only [L39r3, go_sem, eq_self, Nat.reduceAdd, Nat.reduceLT, Nat.reduceEqDiff, reduceCtorEq, decide_true, h1]
      refine Lwp.cond rfl (fun _ => Lwp.skip ?_) (fun h => by cases h)
      simp only [go_sem]
      refine Lwp.seq (Lwp.block ?_)
      by_cases hp : prod a (BitVec.ofNat 8 k) = 1#8
      · have b1 : (((prod a (BitVec.ofNat 8 k)).toNat : Int) == 1) = true := by rw [hp]; rfl
        refine Lwp.seq (Lwp.regI hT ?_)
        simp only [L39r5, go_sem, eq_self, Nat.reduceAdd, Nat.reduceLT, Nat.reduceEqDiff, reduceCtorEq, decide_true, ty3, ty5, e1, f1, b1]
        refine Lwp.cond rfl (fun _ => ?_) (fun h => by cases h)
        refine Lwp.regI hT ?_
        simp only [L39r6, go_sem, eq_self, Nat.reduceAdd, Nat.reduceLT, Nat.reduceEqDiff, reduceCtorEq, decide_true, ty3, ty5, e1]
        refine Lwp.regI hT ?_
        simp only [L39r4, go_sem, eq_self, Nat.reduceAdd, Nat.reduceLT, Nat.reduceEqDiff, reduceCtorEq, decide_true, h4]
        have e2 := found_hit a hk hp
        refine ⟨k + 1, ⟨by omega, by omega⟩, by omega, ?_⟩
        refine weak_of rfl ?_ ?_ ?_
        · (simp only [go_sem, eq_self, Nat.reduceEqDiff, reduceCtorEq, e2]; try rfl)
        · (simp only [go_sem]; try rfl)
        · (simp only [go_sem, eq_self]; try rfl)
      · have b1 : (((prod a (BitVec.ofNat 8 k)).toNat : Int) == 1) = false := by
          rw [Bool.eq_false_iff]
          intro h
          have h2 : (prod a (BitVec.ofNat 8 k)).toNat = 1 := by have := eq_of_beq h; omega
          exact hp (BitVec.eq_of_toNat_eq h2)
        refine Lwp.seq (Lwp.regI hT ?_)
        simp only [L39r5, go_sem, eq_self, Nat.reduceAdd, Nat.reduceLT, Nat.reduceEqDiff, reduceCtorEq, decide_true, ty3, ty5, e1, f1, b1]
        refine Lwp.cond rfl (fun h => by cases h) (fun _ => Lwp.skip ?_)
        simp only [go_sem]
        refine Lwp.regI hT ?_
        simp only [L39r4, go_sem, eq_self, Nat.reduceAdd, Nat.reduceLT, Nat.reduceEqDiff, reduceCtorEq, decide_true, h4]
        have e2 := found_miss a k0 hk hp
        refine ⟨k + 1, ⟨by omega, by omega⟩, by omega, ?_⟩
        refine weak_of rfl ?_ ?_ ?_
        · (simp only [go_sem, eq_self, Nat.reduceEqDiff, reduceCtorEq, e2]; try rfl)
        · (simp only [go_sem]; try rfl)
        · (simp only [go_sem, eq_self]; try rfl)
    · have hk2 : k = 256 := by omega
      subst hk2
      refine Lwp.seq (Lwp.regI hT ?_)
      simp only [L39r3, go_sem, eq_self, Nat.reduceAdd, Nat.reduceSub, Nat.reduceLT, Nat.reduceEqDiff, Int.reduceLT, reduceCtorEq, decide_true, decide_false]
      refine Lwp.cond rfl (fun h => by cases h) (fun _ => Lwp.exit ?_)
      simp only [go_sem, eq_self]
      rw [found_all]
      have hv : sboxI (inv a) = sbox a := rfl
      have hb := sbits_eq (inv a)
      rw [hv] at hb
      have hlt := (inv a).isLt
      have w1 := i64_8 (inv a)
      generalize (inv a).toNat = n at *
      refine Lwp.seq (Lwp.regI hT ?_)
      simp only [L39r7, go_sem, eq_self, Nat.reduceAdd, Nat.reduceLT, decide_true]
      refine Lwp.seq ?_
      refine Lwp.seq (Lwp.regI hT ?_)
      simp only [L39r8, go_sem, eq_self, Nat.reduceAdd, Nat.reduceLT, decide_true]
      refine Lwp.block (Lwp.range (fun i => { nt := 77, env := [(3, .int .u8 (n : Nat)), (5, .int .i64 (sbits n i : Nat)), (6, .int .i64 i)], mem := [], next := 0 }) 8 ?_ (fun i hi => ?_) ?_)
      · refine weak_of rfl ?_ ?_ ?_
        · (simp only [go_sem, eq_self, Nat.reduceEqDiff, reduceCtorEq, sbits]; try rfl)
        · (simp only [go_sem]; try rfl)
        · (simp only [go_sem, eq_self]; try rfl)
      · have h1 : (i : Int) < 8 := by omega
        have h4 := wrap_succ hi (by decide)
        have z : ¬ (i : Int) < 0 := by omega
        have s0 : shrZ .i64 99 (i : Int) = ((99 / 2 ^ i : Nat) : Int) := shrZ_i64 99 i (by omega)
        have s1 := shrZ_i64 n i (by omega)
        have a4 : IntKind.i64.wrap ((i : Int) + 4) = ((i + 4 : Nat) : Int) := by rw [wrap_i64 (by omega) (by omega)]; omega
        have a5 : IntKind.i64.wrap ((i : Int) + 5) = ((i + 5 : Nat) : Int) := by rw [wrap_i64 (by omega) (by omega)]; omega
        have a6 : IntKind.i64.wrap ((i : Int) + 6) = ((i + 6 : Nat) : Int) := by rw [wrap_i64 (by omega) (by omega)]; omega
        have a7 : IntKind.i64.wrap ((i : Int) + 7) = ((i + 7 : Nat) : Int) := by rw [wrap_i64 (by omega) (by omega)]; omega
        have s4 := shrZ_i64 n ((i + 4) % 8) (by omega)
        have s5 := shrZ_i64 n ((i + 5) % 8) (by omega)
        have s6 := shrZ_i64 n ((i + 6) % 8) (by omega)
        have s7 := shrZ_i64 n ((i + 7) % 8) (by omega)
        have z4 : ¬ (((i + 4) % 8 : Nat) : Int) < 0 := by omega
        have z5 : ¬ (((i + 5) % 8 : Nat) : Int) < 0 := by omega
        have z6 : ¬ (((i + 6) % 8 : Nat) : Int) < 0 := by omega
        have z7 : ¬ (((i + 7) % 8 : Nat) : Int) < 0 := by omega
        have hs : sbits n (i + 1) = sbits n i + sbit n i * 2 ^ i := rfl
        have hsl := sbits_lt n (i + 1)
        have hp : (2 : Nat) ^ (i + 1) ≤ 2 ^ 8 := Nat.pow_le_pow_right (by decide) (by omega)
        have t0 := nat_tmod2 (99 / 2 ^ i)
        have t1 := nat_tmod2 (n / 2 ^ i)
        have t4 := nat_tmod2 (n / 2 ^ ((i + 4) % 8))
        have t5 := nat_tmod2 (n / 2 ^ ((i + 5) % 8))
        have t6 := nat_tmod2 (n / 2 ^ ((i + 6) % 8))
        have t7 := nat_tmod2 (n / 2 ^ ((i + 7) % 8))
        have l0 : 99 / 2 ^ i % 2 < 2 := Nat.mod_lt _ (by decide)
        have l1 : n / 2 ^ i % 2 < 2 := Nat.mod_lt _ (by decide)
        have l4 : n / 2 ^ ((i + 4) % 8) % 2 < 2 := Nat.mod_lt _ (by decide)
        have l5 : n / 2 ^ ((i + 5) % 8) % 2 < 2 := Nat.mod_lt _ (by decide)
        have l6 : n / 2 ^ ((i + 6) % 8) % 2 < 2 := Nat.mod_lt _ (by decide)
        have l7 : n / 2 ^ ((i + 7) % 8) % 2 < 2 := Nat.mod_lt _ (by decide)
        have m4 := nat_tmod8 (i + 4)
        have m5 := nat_tmod8 (i + 5)
        have m6 := nat_tmod8 (i + 6)
        have m7 := nat_tmod8 (i + 7)
        unfold sbit at hs
        generalize 99 / 2 ^ i % 2 = q0 at *
        generalize n / 2 ^ i % 2 = q1 at *
        generalize n / 2 ^ ((i + 4) % 8) % 2 = q4 at *
        generalize n / 2 ^ ((i + 5) % 8) % 2 = q5 at *
        generalize n / 2 ^ ((i + 6) % 8) % 2 = q6 at *
        generalize n / 2 ^ ((i + 7) % 8) % 2 = q7 at *
        have r1 : IntKind.i64.wrap ((q0 : Int) + (q1 : Int)) = ((q0 + q1 : Nat) : Int) := by rw [wrap_i64 (by omega) (by omega)]; omega
        have r4 : IntKind.i64.wrap (((q0 + q1 : Nat) : Int) + (q4 : Int)) = ((q0 + q1 + q4 : Nat) : Int) := by rw [wrap_i64 (by omega) (by omega)]; omega
        have r5 : IntKind.i64.wrap (((q0 + q1 + q4 : Nat) : Int) + (q5 : Int)) = ((q0 + q1 + q4 + q5 : Nat) : Int) := by rw [wrap_i64 (by omega) (by omega)]; omega
        have r6 : IntKind.i64.wrap (((q0 + q1 + q4 + q5 : Nat) : Int) + (q6 : Int)) = ((q0 + q1 + q4 + q5 + q6 : Nat) : Int) := by rw [wrap_i64 (by omega) (by omega)]; omega
        have r7 : IntKind.i64.wrap (((q0 + q1 + q4 + q5 + q6 : Nat) : Int) + (q7 : Int)) = ((q0 + q1 + q4 + q5 + q6 + q7 : Nat) : Int) := by rw [wrap_i64 (by omega) (by omega)]; omega
        have t8 := nat_tmod2 (q0 + q1 + q4 + q5 + q6 + q7)
        have l8 : (q0 + q1 + q4 + q5 + q6 + q7) % 2 < 2 := Nat.mod_lt _ (by decide)
        generalize (q0 + q1 + q4 + q5 + q6 + q7) % 2 = q8 at *
        have hm : q8 * 2 ^ i ≤ 1 * 2 ^ i := Nat.mul_le_mul_right _ (by omega)
        rw [Nat.pow_succ] at hp
        have r8 : shlZ .i64 (q8 : Int) (i : Int) = ((q8 * 2 ^ i : Nat) : Int) := by
          have h : shlZ .i64 (q8 : Int) (i : Int) = IntKind.i64.wrap ((q8 : Int) * 2 ^ (min (i : Int).toNat 64)) := rfl
          have e : (q8 : Int) * 2 ^ i = ((q8 * 2 ^ i : Nat) : Int) := by simp
          rw [h, Int.toNat_natCast, Nat.min_eq_left (by omega), e, wrap_i64 (by omega) (by omega)]
        have r9 : IntKind.i64.wrap ((sbits n i : Int) + ((q8 * 2 ^ i : Nat) : Int)) = ((sbits n (i + 1) : Nat) : Int) := by
          rw [hs, wrap_i64 (by omega) (by omega)]; omega
        generalize sbits n (i + 1) = big at *
        generalize sbits n i = sm at *
        generalize q8 * 2 ^ i = sh at *
        generalize n / 2 ^ ((i + 4) % 8) = v4 at *
        generalize n / 2 ^ ((i + 5) % 8) = v5 at *
        generalize n / 2 ^ ((i + 6) % 8) = v6 at *
        generalize n / 2 ^ ((i + 7) % 8) = v7 at *
        generalize n / 2 ^ i = v1 at *
        generalize 99 / 2 ^ i = v0 at *
        generalize (i + 4) % 8 = j4 at *
        generalize (i + 5) % 8 = j5 at *
        generalize (i + 6) % 8 = j6 at *
        generalize (i + 7) % 8 = j7 at *
        refine Lwp.seq ?_
        refine Lwp.seq (Lwp.regI hT ?_)
        simp only [L39r9, go_sem, eq_self, Nat.reduceAdd, Nat.reduceLT, Nat.reduceEqDiff, decide_true, h1]
        refine Lwp.cond rfl (fun _ => Lwp.skip ?_) (fun h => by cases h)
        simp only [go_sem]
        refine Lwp.seq (Lwp.block ?_)
        refine Lwp.seq (Lwp.regI hT ?_)
        simp only [L39r11, go_sem, eq_self, Nat.reduceAdd, Nat.reduceLT, Nat.reduceEqDiff, Int.reduceEq, decide_true, z, s0, t0]
        refine Lwp.seq (Lwp.regI hT ?_)
        simp only [L39r12, go_sem, eq_self, Nat.reduceAdd, Nat.reduceLT, Nat.reduceEqDiff, Int.reduceEq, decide_true, ty3, ty5, z, s1, t1, w1, r1]
        refine Lwp.seq (Lwp.regI hT ?_)
        simp only [L39r13, go_sem, eq_self, Nat.reduceAdd, Nat.reduceLT, Nat.reduceEqDiff, Int.reduceEq, decide_true, ty3, ty5, a4, m4, z4, s4, t4, w1, r4]
        refine Lwp.seq (Lwp.regI hT ?_)
        simp only [L39r14, go_sem, eq_self, Nat.reduceAdd, Nat.reduceLT, Nat.reduceEqDiff, Int.reduceEq, decide_true, ty3, ty5, a5, m5, z5, s5, t5, w1, r5]
        refine Lwp.seq (Lwp.regI hT ?_)
        simp only [L39r15, go_sem, eq_self, Nat.reduceAdd, Nat.reduceLT, Nat.reduceEqDiff, Int.reduceEq, decide_true, ty3, ty5, a6, m6, z6, s6, t6, w1, r6]
        refine Lwp.seq (Lwp.regI hT ?_)
        simp only [L39r16, go_sem, eq_self, Nat.reduceAdd, Nat.reduceLT, Nat.reduceEqDiff, Int.reduceEq, decide_true, ty3, ty5, a7, m7, z7, s7, t7, w1, r7]
        refine Lwp.regI hT ?_
        simp only [L39r17, go_sem, eq_self, Nat.reduceAdd, Nat.reduceLT, Nat.reduceEqDiff, Int.reduceEq, decide_true, t8, z, r8, r9]
        refine Lwp.regI hT ?_
        simp only [L39r10, go_sem, eq_self, Nat.reduceAdd, Nat.reduceLT, Nat.reduceEqDiff, decide_true, h4]
        refine weak_of rfl ?_ ?_ ?_
        · (simp only [go_sem, eq_self, Nat.reduceEqDiff]; try rfl)
        · (simp only [go_sem]; try rfl)
        · (simp only [go_sem, eq_self]; try rfl)
      · refine Lwp.seq ?_
        refine Lwp.seq (Lwp.regI hT ?_)
        simp only [L39r9, go_sem, eq_self, Nat.reduceAdd, Nat.reduceLT, Nat.reduceEqDiff, Int.reduceLT, decide_true, decide_false]
        refine Lwp.cond rfl (fun h => by cases h) (fun _ => Lwp.exit ?_)
        simp only [go_sem, eq_self]
        have w2 : IntKind.u8.wrap ((sbits n 8 : Nat) : Int) = ((sbox a).toNat : Int) := by rw [hb]; exact w8_nat _
        refine Lwp.seq (Lwp.regI hT ?_)
        simp only [L39r18, go_sem, eq_self, Nat.reduceAdd, Nat.reduceLT, Nat.reduceEqDiff, decide_true, ty3, ty5, w2]
        refine Lwp.ret (post_val (v := .int .u8 ((sbox a).toNat : Nat)) ?_ ?_)
        · simp only [go_sem, eq_self, Nat.reduceEqDiff]
        · simp only [go_sem, eq_self]

end Eng


namespace Eng
open Go Go.Proofs
set_option linter.unusedSimpArgs false
set_option linter.unusedVariables false
def tI (i : Nat) : Nat := (i + 4 * (i % 4)) % 16
def turned (s : List Int) : List Int := tab 16 (fun i => s.getD (tI i) 0)
end Eng


namespace Eng
open Go Go.Proofs
set_option linter.unusedSimpArgs false
set_option linter.unusedVariables false

/-! The key schedule and a block's code, plainly. -/
def sbI (x : Int) : Int := ((sbox (BitVec.ofInt 8 x)).toNat : Int)
theorem xI_U8 (a c : Int) : 0 ≤ xorZ .u8 a c ∧ xorZ .u8 a c < 256 := by
  rw [xorZ_u8]
  have := (BitVec.ofInt 8 a ^^^ BitVec.ofInt 8 c).isLt
  omega
theorem xI_comm (a b : Int) : xorZ .u8 a b = xorZ .u8 b a := by rw [xorZ_u8, xorZ_u8, BitVec.xor_comm]
theorem tab_U8 (n : Nat) (f : Nat → Int) (h : ∀ j, j < n → 0 ≤ f j ∧ f j < 256) : U8L (tab n f) := fun x hx => by
  obtain ⟨j, hj, rfl⟩ := List.mem_map.1 hx
  exact h j (List.mem_range.1 hj)
theorem U8L.atD {l : List Int} (h : U8L l) (j : Nat) : 0 ≤ l.getD j 0 ∧ l.getD j 0 < 256 := by
  rcases Nat.lt_or_ge j l.length with hj | hj
  · rw [List.getD_eq_getElem?_getD, List.getElem?_eq_getElem hj, Option.getD_some]
    exact h _ (List.getElem_mem hj)
  · rw [List.getD_eq_getElem?_getD, List.getElem?_eq_none hj]
    exact ⟨by decide, by decide⟩
def pw : Nat → BitVec 8
  | 0 => 1#8
  | n + 1 => prod (pw n) 2#8
def xor4 (a b : List Int) : List Int := tab 4 (fun k => xorZ .u8 (a.getD k 0) (b.getD k 0))
def turn4 (t : List Int) : List Int := [t.getD 1 0, t.getD 2 0, t.getD 3 0, t.getD 0 0]
def sub4 (t : List Int) : List Int := tab 4 (fun k => sbI (t.getD k 0))
def pow4 (n : Nat) (t : List Int) : List Int := t.set 0 (xorZ .u8 (t.getD 0 0) ((pw n).toNat : Int))
def tmpW (i : Nat) (t : List Int) : List Int := if i % 8 = 0 then pow4 (i / 8 - 1) (sub4 (turn4 t)) else if i % 8 = 4 then sub4 t else t
def nxt (key : List Int) (i : Nat) (W : List (List Int)) : List Int := if i < 8 then (key.drop (4 * i)).take 4 else xor4 (W.getD (i - 8) []) (tmpW i (W.getD (i - 1) []))
def ws (key : List Int) : Nat → List (List Int)
  | 0 => []
  | i + 1 => ws key i ++ [nxt key i (ws key i)]
def wd (key : List Int) (i : Nat) : List Int := nxt key i (ws key i)
theorem ws_len (key : List Int) : ∀ i, (ws key i).length = i
  | 0 => rfl
  | i + 1 => by rw [ws, List.length_append, ws_len key i]; rfl
theorem ws_getD (key : List Int) {a : Nat} : ∀ {i : Nat}, a < i → (ws key i).getD a [] = wd key a
  | 0, h => absurd h (Nat.not_lt_zero _)
  | i + 1, h => by
    rw [ws, List.getD_eq_getElem?_getD]
    rcases Nat.lt_or_ge a i with h2 | h2
    · rw [List.getElem?_append_left (by rw [ws_len]; exact h2), ← List.getD_eq_getElem?_getD]
      exact ws_getD key h2
    · have e : a = i := by omega
      subst e
      rw [List.getElem?_append_right (by rw [ws_len]; exact Nat.le_refl _), ws_len, Nat.sub_self]
      rfl
theorem wd_lo (key : List Int) {i : Nat} (h : i < 8) : wd key i = (key.drop (4 * i)).take 4 := by unfold wd nxt; rw [if_pos h]
theorem wd_hi (key : List Int) {i : Nat} (h : 8 ≤ i) : wd key i = xor4 (wd key (i - 8)) (tmpW i (wd key (i - 1))) := by
  show nxt key i (ws key i) = _
  unfold nxt
  rw [if_neg (by omega), ws_getD key (by omega), ws_getD key (by omega)]
theorem xor4_len (a b : List Int) : (xor4 a b).length = 4 := tab_len _ _
theorem xor4_U8 (a b : List Int) : U8L (xor4 a b) := tab_U8 _ _ fun _ _ => xI_U8 _ _
theorem wd_len {key : List Int} (hk : key.length = 32) (i : Nat) : (wd key i).length = 4 := by
  rcases Nat.lt_or_ge i 8 with h | h
  · rw [wd_lo key h, List.length_take, List.length_drop]; omega
  · rw [wd_hi key h, xor4_len]
theorem wd_U8 {key : List Int} (hk : U8L key) (i : Nat) : U8L (wd key i) := by
  rcases Nat.lt_or_ge i 8 with h | h
  · rw [wd_lo key h]
    exact fun x hx => hk x (List.mem_of_mem_drop (List.mem_of_mem_take hx))
  · rw [wd_hi key h]; exact xor4_U8 _ _
theorem sub4_len (t : List Int) : (sub4 t).length = 4 := tab_len _ _
theorem pow4_len (n : Nat) (t : List Int) : (pow4 n t).length = t.length := by unfold pow4; rw [List.length_set]
theorem tmpW_len (i : Nat) {t : List Int} (h : t.length = 4) : (tmpW i t).length = 4 := by
  unfold tmpW
  split
  · rw [pow4_len, sub4_len]
  · split
    · rw [sub4_len]
    · exact h
/-- A byte of the words, and as many of them as there are so far. -/
def wv (key : List Int) (j : Nat) : Int := (wd key (j / 4)).getD (j % 4) 0
def wfl (key : List Int) (n : Nat) : List Int := tab 240 (fun j => if j < n then wv key j else 0)
theorem wv_at (key : List Int) {a k : Nat} (h : k < 4) : wv key (4 * a + k) = (wd key a).getD k 0 := by
  unfold wv
  rw [show (4 * a + k) / 4 = a by omega, show (4 * a + k) % 4 = k by omega]
theorem wfl_len (key : List Int) (n : Nat) : (wfl key n).length = 240 := tab_len _ _
theorem wfl_zero (key : List Int) : wfl key 0 = List.replicate 240 0 := by
  rw [rep_tab]; exact tab_ext fun j _ => by rw [if_neg (Nat.not_lt_zero _)]
theorem wfl_at (key : List Int) {n j : Nat} (h : j < n) (h2 : n ≤ 240) : (wfl key n).getD j 0 = wv key j := by
  unfold wfl; rw [tab_getD _ _ (by omega), if_pos h]
theorem wfl_set (key : List Int) {n : Nat} (v : Int) (hv : v = wv key n) : (wfl key n).set n v = wfl key (n + 1) := tab_set _ _ _ _ _ fun j hj => by
  by_cases e : j = n
  · subst e; rw [if_pos (by omega), if_pos rfl, hv]
  · rw [if_neg e]
    by_cases h : j < n
    · rw [if_pos h, if_pos (by omega)]
    · rw [if_neg h, if_neg (by omega)]
theorem take_tab (n : Nat) (f : Nat → Int) (o m : Nat) (h : o + m ≤ n) : ((tab n f).drop o).take m = tab m (fun k => f (o + k)) := by
  refine eq_tab (by rw [List.length_take, List.length_drop, tab_len]; omega) fun k hk => ?_
  rw [List.getD_eq_getElem?_getD, List.getElem?_take_of_lt hk, List.getElem?_drop, ← List.getD_eq_getElem?_getD, tab_getD _ _ (by omega)]
theorem wfl_word {key : List Int} (hk : key.length = 32) {n a : Nat} (h : 4 * a + 4 ≤ n) (h2 : n ≤ 240) : ((wfl key n).drop (4 * a)).take 4 = wd key a := by
  unfold wfl
  rw [take_tab _ _ _ _ (by omega)]
  refine (eq_tab (wd_len hk a) fun k hk2 => ?_).symm
  rw [if_pos (by omega), wv_at key hk2]
theorem wfl_put {key : List Int} (hk : key.length = 32) {i : Nat} (h : i < 60) : (wfl key (4 * i)).take (4 * i) ++ wd key i ++ (wfl key (4 * i)).drop (4 * i + 4) = wfl key (4 * (i + 1)) := by
  have hw := wd_len hk i
  have hl := wfl_len key (4 * i)
  refine eq_tab (by rw [List.length_append, List.length_append, List.length_take, List.length_drop]; omega) fun j hj => ?_
  rw [List.getD_eq_getElem?_getD]
  by_cases c1 : j < 4 * i
  · rw [List.getElem?_append_left (by rw [List.length_append, List.length_take]; omega), List.getElem?_append_left (by rw [List.length_take]; omega), List.getElem?_take_of_lt c1, ← List.getD_eq_getElem?_getD, wfl_at key c1 (by omega), if_pos (by omega)]
  · by_cases c2 : j < 4 * i + 4
    · rw [List.getElem?_append_left (by rw [List.length_append, List.length_take]; omega), List.getElem?_append_right (by rw [List.length_take]; omega), List.length_take, show min (4 * i) (wfl key (4 * i)).length = 4 * i by omega, ← List.getD_eq_getElem?_getD, if_pos (by omega)]
      obtain ⟨k, rfl⟩ : ∃ k, j = 4 * i + k := ⟨j - 4 * i, by omega⟩
      rw [wv_at key (by omega), Nat.add_sub_cancel_left]
    · rw [List.getElem?_append_right (by rw [List.length_append, List.length_take]; omega), List.length_append, List.length_take, show min (4 * i) (wfl key (4 * i)).length = 4 * i by omega, hw, List.getElem?_drop, ← List.getD_eq_getElem?_getD, show 4 * i + 4 + (j - (4 * i + 4)) = j by omega]
      unfold wfl
      rw [tab_getD _ _ (by omega), if_neg (by omega), if_neg (by omega)]
/-- A round key. -/
def rk (key : List Int) (i : Nat) : List Int := tab 16 (fun k => wv key (16 * i + k))
theorem rk_len (key : List Int) (i : Nat) : (rk key i).length = 16 := tab_len _ _
theorem wfl_rk (key : List Int) {i : Nat} (h : i < 15) : ((wfl key 240).drop (16 * i)).take 16 = rk key i := by
  unfold wfl
  rw [take_tab _ _ _ _ (by omega)]
  exact tab_ext fun k hk => by rw [if_pos (by omega)]
def plusB (s k : List Int) : List Int := tab 16 (fun j => xorZ .u8 (s.getD j 0) (k.getD j 0))
def subB (s : List Int) : List Int := tab 16 (fun j => sbI (s.getD j 0))
def midB (i : Nat) (s : List Int) : List Int := if i < 14 then mixed (turned (subB s)) else turned (subB s)
def encS (key b : List Int) : Nat → List Int
  | 0 => plusB b (rk key 0)
  | i + 1 => plusB (midB (i + 1) (encS key b i)) (rk key (i + 1))
def enc (key b : List Int) : List Int := encS key b 14
/-! The examples: the key of noughts. -/
def zk : List Int := List.replicate 32 0
end Eng


namespace Eng
open Go Go.Proofs
set_option linter.unusedSimpArgs false
set_option linter.unusedVariables false
theorem U8L.at {l : List Int} (h : U8L l) (i : Nat) : 0 ≤ l.getD i 0 ∧ l.getD i 0 < 256 := by
  rcases Nat.lt_or_ge i l.length with hi | hi
  · rw [List.getD_eq_getElem?_getD, List.getElem?_eq_getElem hi, Option.getD_some]
    exact h _ (List.getElem_mem hi)
  · rw [List.getD_eq_getElem?_getD, List.getElem?_eq_none hi]
    exact ⟨by decide, by decide⟩
end Eng


namespace Eng
open Go Go.Proofs
set_option linter.unusedSimpArgs false
set_option linter.unusedVariables false
set_option maxHeartbeats 4000000
/-! Of bytes as whole numbers. -/
theorem S38_I {x : Int} (h : U8 x) : S38 [.int .u8 x] = some ⟨.int .u8 (sbI x), none⟩ := by
  have h1 := S38_eq (BitVec.ofInt 8 x)
  rw [bv8_ofInt h.1 h.2] at h1
  exact h1
theorem S39_I {x : Int} (h : U8 x) : S39 [.int .u8 x] = some ⟨.int .u8 (sbI x), none⟩ := by
  have h1 := S39_eq (BitVec.ofInt 8 x)
  rw [bv8_ofInt h.1 h.2] at h1
  exact h1
theorem S25_pw (n : Nat) : S25 [.int .u8 ((pw n).toNat : Int), .int .u8 2] = some ⟨.int .u8 ((pw (n + 1)).toNat : Int), none⟩ := S25_eq (pw n) 2#8
theorem S26_pw (n : Nat) : S26 [.int .u8 ((pw n).toNat : Int), .int .u8 2] = some ⟨.int .u8 ((pw (n + 1)).toNat : Int), none⟩ := by
  have h := S26_eq (pw n) 2#8
  rw [ref_prod] at h
  exact h
theorem Lwp.seqW {T : Tab} {F : Fr} {okD : Array Oper → Bool} {Q : AE → AState → Prop} {st : AState} {x y : LC} (st2 : AState) (h1 : Lwp okD T F x (AE.then (fun st' => Weak T F st' st2) Q) st) (h2 : Lwp okD T F y Q st2) : Lwp okD T F (.seq x y) Q st := by
  refine Lwp.seq (Lwp.mono (fun e st' h => ?_) h1)
  cases e with
  | normal => exact Lwp.weaken h h2
  | exit i => exact h
  | ret => exact h

end Eng


namespace Eng
open Go Go.Proofs
set_option linter.unusedSimpArgs false
set_option linter.unusedVariables false
set_option maxHeartbeats 4000000
/-! The round keys, as the program makes them. -/
def kyV (key : List Int) : AV := if key.length = 32 then .slc 15 (ints .u8 (wfl key 240)) else .nils
def kyE (key : List Int) : AV := if key.length = 32 then .nili else .iface 41 (.int .i64 1)
theorem kyV_ok {key : List Int} (h : key.length = 32) : kyV key = .slc 15 (ints .u8 (wfl key 240)) := if_pos h
theorem kyE_ok {key : List Int} (h : key.length = 32) : kyE key = .nili := if_pos h
theorem kyV_bad {key : List Int} (h : key.length ≠ 32) : kyV key = .nils := if_neg h
theorem kyE_bad {key : List Int} (h : key.length ≠ 32) : kyE key = .iface 41 (.int .i64 1) := if_neg h
def KyH (key : List Int) (i : Nat) : AState := { nt := 115, env := [(0, .slc 32 (ints .u8 key)), (2, .nils), (3, .nili), (4, .own 5 0), (5, .int .u8 ((pw ((i - 1) / 8)).toNat : Int)), (17, .int .i64 i)], mem := [(5, ints .u8 (wfl key (4 * i)))], next := 100 }
def KyT (key t : List Int) (i p : Nat) : AState := { nt := 115, env := [(0, .slc 32 (ints .u8 key)), (2, .nils), (3, .nili), (4, .own 5 0), (5, .int .u8 ((pw p).toNat : Int)), (6, .int .i64 i), (7, .own 109 0), (17, .int .i64 i)], mem := [(109, ints .u8 t), (5, ints .u8 (wfl key (4 * i)))], next := 200 }
def KyU (key t : List Int) (i p k : Nat) : AState := { nt := 115, env := [(0, .slc 32 (ints .u8 key)), (2, .nils), (3, .nili), (4, .own 5 0), (5, .int .u8 ((pw p).toNat : Int)), (6, .int .i64 i), (7, .own 109 0), (17, .int .i64 i), (49, .int .i64 k)], mem := [(109, ints .u8 t), (5, ints .u8 (wfl key (4 * i)))], next := 200 }
def KyW (key t : List Int) (i p k : Nat) : AState := { nt := 115, env := [(0, .slc 32 (ints .u8 key)), (2, .nils), (3, .nili), (4, .own 5 0), (5, .int .u8 ((pw p).toNat : Int)), (6, .int .i64 i), (7, .own 109 0), (17, .int .i64 i), (69, .int .i64 k)], mem := [(109, ints .u8 t), (5, ints .u8 (wfl key (4 * i + k)))], next := 200 }
def KyO (key : List Int) (i : Nat) : AState := { nt := 115, env := [(3, .nili), (4, .own 5 0), (10, .osl 101 0 15 16), (90, .int .i64 15), (91, .int .i64 i)], mem := [(101, ints .u8 (wfl key (16 * i))), (5, ints .u8 (wfl key 240))], next := 300 }
def KyP (key : List Int) (i k : Nat) : AState := { nt := 115, env := [(3, .nili), (4, .own 5 0), (10, .osl 101 0 15 16), (11, .int .i64 i), (90, .int .i64 15), (91, .int .i64 i), (94, .int .i64 k)], mem := [(101, ints .u8 (wfl key (16 * i + k))), (5, ints .u8 (wfl key 240))], next := 300 }
def subP (t : List Int) (n : Nat) : List Int := tab 4 (fun j => if j < n then sbI (t.getD j 0) else t.getD j 0)
theorem subP_len (t : List Int) (n : Nat) : (subP t n).length = 4 := tab_len _ _
theorem subP_zero {t : List Int} (h : t.length = 4) : subP t 0 = t := (eq_tab h fun j _ => by simp).symm
theorem subP_full (t : List Int) : subP t 4 = sub4 t := tab_ext fun j hj => by rw [if_pos hj]
theorem subP_at (t : List Int) {n : Nat} (h : n < 4) : (subP t n).getD n 0 = t.getD n 0 := by unfold subP; rw [tab_getD _ _ h, if_neg (Nat.lt_irrefl _)]
theorem subP_set (t : List Int) (n : Nat) : (subP t n).set n (sbI (t.getD n 0)) = subP t (n + 1) := tab_set _ _ _ _ _ fun j _ => by
  by_cases h : j = n
  · subst h; simp
  · by_cases h2 : j < n
    · simp [h, h2, show j < n + 1 by omega]
    · simp [h, h2, show ¬ j < n + 1 by omega]
theorem zz16 : zerosA (ints .u8 (List.replicate 16 0)) 15 = ints .u8 (List.replicate 240 0) := by kernel_rfl
theorem tm8 (i : Nat) : (i : Int).tmod 8 = ((i % 8 : Nat) : Int) := by rw [Int.tmod_eq_emod_of_nonneg (by omega)]; omega
theorem tm4 (i : Nat) : (i : Int).tmod 4 = ((i % 4 : Nat) : Int) := by rw [Int.tmod_eq_emod_of_nonneg (by omega)]; omega
theorem td4 (i : Nat) : (i : Int).tdiv 4 = ((i / 4 : Nat) : Int) := by rw [Int.tdiv_eq_ediv_of_nonneg (by omega)]; omega
theorem beq_zero_of {r : Nat} (h : r = 0) : (((r : Nat) : Int) == 0) = true := by subst h; rfl
theorem beq_zero_not {r : Nat} (h : r ≠ 0) : (((r : Nat) : Int) == 0) = false := by simp; omega

noncomputable def S47 : List AV → Option Ret := nz (sumOf (fun p : List Int => match p with | key => (U8L key) ∧ (key.length ≤ 9223372036854775807)) (fun p : List Int => match p with | key => [.slc key.length (ints .u8 key)]) (fun p : List Int => match p with | key => ⟨.tup [kyV key, kyE key], none⟩))
theorem S47_eq (key : List Int) (h0 : U8L key) (h1 : key.length ≤ 9223372036854775807) : S47 [.slc key.length (ints .u8 key)] = some ⟨.tup [kyV key, kyE key], none⟩ :=
  sumOf_eq (dom := (fun p : List Int => match p with | key => (U8L key) ∧ (key.length ≤ 9223372036854775807))) (enc := (fun p : List Int => match p with | key => [.slc key.length (ints .u8 key)])) (out := (fun p : List Int => match p with | key => ⟨.tup [kyV key, kyE key], none⟩)) key ⟨h0, h1⟩ (fun y _ e => by
    simp only [List.cons.injEq, AV.slc.injEq, ints_injEq, and_true] at e
    first | with_reducible rfl | simp only [e] | rfl)
theorem S47_inv {args : List AV} {r : Ret} (h : sumOf (fun p : List Int => match p with | key => (U8L key) ∧ (key.length ≤ 9223372036854775807)) (fun p : List Int => match p with | key => [.slc key.length (ints .u8 key)]) (fun p : List Int => match p with | key => ⟨.tup [kyV key, kyE key], none⟩) args = some r) : ∃ (key : List Int), ((U8L key) ∧ (key.length ≤ 9223372036854775807)) ∧ args = [.slc key.length (ints .u8 key)] ∧ r = ⟨.tup [kyV key, kyE key], none⟩ := by
  obtain ⟨x, h1, h2, h3⟩ := sumOf_inv h
  exact ⟨x, h1, h2.symm, h3⟩

set_option maxRecDepth 100000 in
theorem snd47 : SndE Try.prog NoG 47 S47 := by
  refine snd_nz (snd_by [(25, S25), (38, S38)] [] Try.func47 (by kernel_rfl) lite47 nt47 rs47 ⟨snd25, snd38, trivial⟩ trivial (fun hT args r h => ?_))
  obtain ⟨key, ⟨hd0, hd1⟩, rfl, rfl⟩ := S47_inv h
  clear h
  have hM := hM0
  refine ⟨Nat.le_of_ble_eq_true rfl, fun F => ?_⟩
  unfold L47
  refine Lwp.seq (Lwp.regI hT ?_)
  simp only [L47r0, go_sem, eq_self, Nat.reduceAdd, Nat.reduceLT, decide_true]
  refine Lwp.seq ?_
  by_cases hl : key.length = 32
  · rw [kyV_ok hl, kyE_ok hl]
    have hw0 := wfl_zero key
    have hu0 := hd0
    have p0 : ((pw ((0 - 1) / 8)).toNat : Int) = 1 := by decide
    refine Lwp.seq (Lwp.regI hT ?_)
    simp only [L47r1, go_sem, eq_self, Nat.reduceAdd, Nat.reduceLT, Nat.reduceEqDiff, Int.reduceBNe, reduceCtorEq, decide_true, ty27, hl]
    refine Lwp.cond rfl (fun h => by cases h) (fun _ => Lwp.skip ?_)
    simp only [go_sem]
    refine Lwp.seq (Lwp.regI hT ?_)
    simp only [L47r3, go_sem, eq_self, Nat.reduceAdd, Nat.reduceLT, decide_true, ty89]
    refine Lwp.seq (Lwp.regI hT ?_)
    simp only [L47r4, go_sem, eq_self, Nat.reduceAdd, Nat.reduceLT, decide_true]
    refine Lwp.seq ?_
    refine Lwp.seq (Lwp.regI hT ?_)
    simp only [L47r5, go_sem, eq_self, Nat.reduceAdd, Nat.reduceLT, decide_true]
    refine Lwp.block (Lwp.range (KyH key) 60 ?_ (fun i hi => ?_) ?_)
    · refine weak_of rfl ?_ ?_ ?_
      · (simp only [go_sem, eq_self, Nat.reduceSub, Nat.reduceEqDiff, Nat.reduceDiv, reduceCtorEq, KyH, Nat.mul_zero, hw0, p0]; try rfl)
      · (simp only [go_sem, eq_self, Nat.reduceSub, Nat.reduceDiv, KyH, Nat.mul_zero, hw0, p0]; try rfl)
      · (simp only [go_sem, eq_self, Nat.reduceSub, Nat.reduceDiv, KyH, Nat.mul_zero, hw0, p0]; try rfl)
    · have h1 : (i : Int) < 60 := by omega
      have h4 := wrap_succ hi (by decide)
      have i0 : (0 : Int) ≤ (i : Int) := by omega
      have wl := wfl_len key (4 * i)
      unfold KyH
      refine Lwp.seq (Lwp.regI hT ?_)
      simp only [L47r6, go_sem, eq_self, Nat.reduceAdd, Nat.reduceLT, Nat.reduceEqDiff, reduceCtorEq, decide_true, h1]
      refine Lwp.seq (Lwp.cond rfl (fun _ => Lwp.skip ?_) (fun h => by cases h))
      simp only [go_sem]
      refine Lwp.seq (Lwp.block ?_)
      refine Lwp.seq (Lwp.regI hT ?_)
      simp only [L47r7, go_sem, eq_self, Nat.reduceAdd, Nat.reduceLT, Nat.reduceEqDiff, reduceCtorEq, decide_true]
      refine Lwp.seq ?_
      by_cases h8 : i < 8
      · have c1 : (i : Int) < 8 := by omega
        have e1 : IntKind.i64.wrap (4 * (i : Int)) = ((4 * i : Nat) : Int) := by rw [wrap_i64 (by omega) (by omega)]; omega
        have c2 : (0 : Int) ≤ ((4 * i : Nat) : Int) := by omega
        have c3 : ((4 * i : Nat) : Int) ≤ 32 := by omega
        have c4 : 4 ≤ 32 - 4 * i := by omega
        have c5 : 0 < 32 - 4 * i := by omega
        have c6 : i * 4 + 4 ≤ 240 := by omega
        have dl : (key.drop (4 * i)).length = 32 - 4 * i := by rw [List.length_drop, hl]
        have s1 : sub (ints .u8 key) (4 * i) (32 - 4 * i) = ints .u8 (key.drop (4 * i)) := by rw [ints_sub, List.take_of_length_le (by omega)]
        have s2 : sub (ints .u8 (key.drop (4 * i))) 0 4 = ints .u8 (wd key i) := by rw [ints_sub, List.drop_zero, wd_lo key h8]
        have wdl := wd_len hl i
        have s3 : setAt (ints .u8 (wfl key (4 * i))) (i * 4) (ints .u8 (wd key i)) = ints .u8 (wfl key (4 * (i + 1))) := by
          rw [ints_setAt _ _ _ _ (by omega), Nat.mul_comm i 4, wdl, wfl_put hl hi]
        have pe : pw ((i + 1 - 1) / 8) = pw ((i - 1) / 8) := by rw [show (i + 1 - 1) / 8 = (i - 1) / 8 by omega]
        generalize wfl key (4 * (i + 1)) = w2 at *
        generalize wfl key (4 * i) = w1 at *
        refine Lwp.seq (Lwp.regI hT ?_)
        simp only [L47r8, go_sem, eq_self, Nat.reduceAdd, Nat.reduceLT, Nat.reduceEqDiff, reduceCtorEq, decide_true, c1]
        refine Lwp.cond rfl (fun _ => ?_) (fun h => by cases h)
        refine Lwp.seq (Lwp.regI hT ?_)
        simp only [L47r9, go_sem, eq_self, Nat.reduceAdd, Nat.reduceLT, Nat.reduceEqDiff, reduceCtorEq, decide_true, Bool.false_eq_true, ty5, ty27, ty88, ty89, e1, c2, c3, c4, c5, c6, hl, dl, wl, wdl, s1, s2, s3, h1, i0, sliceA, boundA, arrayPtrA, Nat.mul_one]
        refine Lwp.exit ?_
        simp only [go_sem, eq_self, reduceCtorEq]
        refine Lwp.regI hT ?_
        simp only [L47r27, go_sem, eq_self, Nat.reduceAdd, Nat.reduceLT, Nat.reduceEqDiff, reduceCtorEq, decide_true, h4]
        refine weak_of rfl ?_ ?_ ?_
        · (simp only [go_sem, eq_self, Nat.reduceEqDiff, reduceCtorEq, pe]; try rfl)
        · (simp only [go_sem, eq_self]; try rfl)
        · (simp only [go_sem, eq_self]; try rfl)
      · have c1 : ¬ (i : Int) < 8 := by omega
        have e1 : IntKind.i64.wrap ((i : Int) - 1) = ((i - 1 : Nat) : Int) := by rw [wrap_i64 (by omega) (by omega)]; omega
        have c2 : (0 : Int) ≤ ((i - 1 : Nat) : Int) := by omega
        have c3 : ((i - 1 : Nat) : Int) < 60 := by omega
        have c4 : (i - 1) * 4 + 4 ≤ 240 := by omega
        have s1 : sub (ints .u8 (wfl key (4 * i))) ((i - 1) * 4) 4 = ints .u8 (wd key (i - 1)) := by
          rw [ints_sub, Nat.mul_comm (i - 1) 4, wfl_word hl (by omega) (by omega)]
        have tl := wd_len hl (i - 1)
        have tu := wd_U8 hu0 (i - 1)
        have hi8 := wd_hi key (show 8 ≤ i by omega)
        refine Lwp.seq (Lwp.regI hT ?_)
        simp only [L47r8, go_sem, eq_self, Nat.reduceAdd, Nat.reduceLT, Nat.reduceEqDiff, reduceCtorEq, decide_true, decide_false, c1]
        refine Lwp.cond rfl (fun h => by cases h) (fun _ => Lwp.skip ?_)
        simp only [go_sem]
        refine Lwp.seqW (KyT key (wd key (i - 1)) i ((i - 1) / 8)) ?_ ?_
        · unfold KyT
          generalize wd key (i - 1) = t at *
          generalize wfl key (4 * i) = w1 at *
          refine Lwp.regI hT ?_
          simp only [L47r10, go_sem, eq_self, Nat.reduceAdd, Nat.reduceLT, Nat.reduceLeDiff, Nat.reduceEqDiff, reduceCtorEq, decide_true, ty88, ty89, e1, c2, c3, c4, wl, tl, s1]
          refine weak_of rfl ?_ ?_ ?_
          · (simp only [go_sem, eq_self, Nat.reduceEqDiff, reduceCtorEq]; try rfl)
          · (simp only [go_sem, eq_self, Nat.reduceEqDiff]; try rfl)
          · (simp only [go_sem, eq_self, Nat.reduceEqDiff]; try rfl)
        · generalize hT0 : wd key (i - 1) = t0 at *
          have m8 := tm8 i
          have m4 := tm4 i
          refine Lwp.seqW (KyT key (if i % 8 = 0 then turn4 t0 else t0) i ((i - 1) / 8)) ?_ ?_
          · unfold KyT
            by_cases hz : i % 8 = 0
            · have b1 := beq_zero_of hz
              rw [if_pos hz]
              have st4 : setAt (ints .u8 t0) 0 [.int .u8 (t0.getD 1 0), .int .u8 (t0.getD 2 0), .int .u8 (t0.getD 3 0), .int .u8 (t0.getD 0 0)] = ints .u8 (turn4 t0) := ints_setAt0 .u8 t0 (turn4 t0) (by rw [tl]; rfl)
              refine Lwp.seq (Lwp.regI hT ?_)
              simp only [L47r11, go_sem, eq_self, Nat.reduceAdd, Nat.reduceLT, Nat.reduceEqDiff, Int.reduceEq, reduceCtorEq, decide_true, m8, b1]
              refine Lwp.cond rfl (fun _ => ?_) (fun h => by cases h)
              refine Lwp.regI hT ?_
              simp only [L47r12, go_sem, eq_self, Nat.reduceAdd, Nat.reduceLT, Nat.reduceLeDiff, Nat.reduceEqDiff, Int.reduceLT, Int.reduceLE, Int.reduceToNat, reduceCtorEq, decide_true, Bool.false_eq_true, ty5, ty88, tl]
              refine weak_of rfl ?_ ?_ ?_
              · (simp only [go_sem, eq_self, Nat.reduceEqDiff, reduceCtorEq]; try rfl)
              · (simp only [go_sem, eq_self, Nat.reduceEqDiff]; try rfl)
              · (simp only [go_sem, eq_self, Nat.reduceEqDiff]; try rfl)
            · have b1 := beq_zero_not hz
              rw [if_neg hz]
              refine Lwp.seq (Lwp.regI hT ?_)
              simp only [L47r11, go_sem, eq_self, Nat.reduceAdd, Nat.reduceLT, Nat.reduceEqDiff, Int.reduceEq, reduceCtorEq, decide_true, m8, b1]
              refine Lwp.cond rfl (fun h => by cases h) (fun _ => Lwp.skip ?_)
              simp only [go_sem]
              refine weak_of rfl ?_ ?_ ?_
              · (simp only [go_sem, eq_self, Nat.reduceEqDiff, reduceCtorEq]; try rfl)
              · (simp only [go_sem, eq_self, Nat.reduceEqDiff]; try rfl)
              · (simp only [go_sem, eq_self, Nat.reduceEqDiff]; try rfl)
          · have tl1 : (if i % 8 = 0 then turn4 t0 else t0).length = 4 := by
              split
              · rfl
              · exact tl
            have tu1 : U8L (if i % 8 = 0 then turn4 t0 else t0) := by
              split
              · intro x hx
                simp only [turn4, List.mem_cons, List.not_mem_nil, or_false] at hx
                rcases hx with rfl | rfl | rfl | rfl <;> exact tu.atD _
              · exact tu
            generalize hT1 : (if i % 8 = 0 then turn4 t0 else t0) = t1 at *
            refine Lwp.seqW (KyT key (if i % 4 = 0 then sub4 t1 else t1) i ((i - 1) / 8)) ?_ ?_
            · unfold KyT
              by_cases hz : i % 4 = 0
              · have b1 := beq_zero_of hz
                rw [if_pos hz]
                have z1 := subP_zero tl1
                have z2 := subP_full t1
                refine Lwp.seq (Lwp.regI hT ?_)
                simp only [L47r13, go_sem, eq_self, Nat.reduceAdd, Nat.reduceLT, Nat.reduceEqDiff, Int.reduceEq, reduceCtorEq, decide_true, m4, b1]
                refine Lwp.cond rfl (fun _ => ?_) (fun h => by cases h)
                refine Lwp.seq (Lwp.regI hT ?_)
                simp only [L47r14, go_sem, eq_self, Nat.reduceAdd, Nat.reduceLT, decide_true]
                refine Lwp.block (Lwp.range (fun k => KyU key (subP t1 k) i ((i - 1) / 8) k) 4 ?_ (fun k hk => ?_) ?_)
                · refine weak_of rfl ?_ ?_ ?_
                  · (simp only [go_sem, eq_self, Nat.reduceEqDiff, reduceCtorEq, KyU, z1]; try rfl)
                  · (simp only [go_sem, eq_self, Nat.reduceEqDiff, KyU, z1]; try rfl)
                  · (simp only [go_sem, eq_self, Nat.reduceEqDiff, KyU, z1]; try rfl)
                · have g1 : (k : Int) < 4 := by omega
                  have g2 : (0 : Int) ≤ (k : Int) := by omega
                  have g3 : k ≤ 3 := by omega
                  have g4 := wrap_succ hk (by decide)
                  have g5 := subP_len t1 k
                  have g6 := subP_at t1 hk
                  have g7 := subP_set t1 k
                  have f38 := S38_I (tu1.atD k)
                  unfold KyU
                  refine Lwp.seq (Lwp.regI hT ?_)
                  simp only [L47r15, go_sem, eq_self, Nat.reduceAdd, Nat.reduceLT, Nat.reduceEqDiff, reduceCtorEq, decide_true, g1]
                  refine Lwp.seq (Lwp.cond rfl (fun _ => Lwp.skip ?_) (fun h => by cases h))
                  simp only [go_sem]
                  refine Lwp.seq (Lwp.block ?_)
                  refine Lwp.seq (Lwp.regI hT ?_)
                  simp only [L47r16, go_sem, eq_self, Nat.reduceAdd, Nat.reduceLT, Nat.reduceEqDiff, reduceCtorEq, decide_true]
                  refine Lwp.regI hT ?_
                  simp only [L47r17, go_sem, eq_self, Nat.reduceAdd, Nat.reduceLT, Nat.reduceLeDiff, Nat.reduceEqDiff, reduceCtorEq, decide_true, Bool.false_eq_true, ty5, ty88, g1, g2, g3, g5, g6, g7, hk, f38, Nat.mul_one, Nat.zero_add]
                  refine Lwp.regI hT ?_
                  simp only [L47r18, go_sem, eq_self, Nat.reduceAdd, Nat.reduceLT, Nat.reduceEqDiff, reduceCtorEq, decide_true, g4]
                  refine weak_of rfl ?_ ?_ ?_
                  · (simp only [go_sem, eq_self, Nat.reduceEqDiff, reduceCtorEq]; try rfl)
                  · (simp only [go_sem, eq_self, Nat.reduceEqDiff]; try rfl)
                  · (simp only [go_sem, eq_self, Nat.reduceEqDiff]; try rfl)
                · unfold KyU
                  refine Lwp.seq (Lwp.regI hT ?_)
                  simp only [L47r15, go_sem, eq_self, Nat.reduceAdd, Nat.reduceLT, Nat.reduceEqDiff, Int.reduceLT, reduceCtorEq, decide_true, decide_false]
                  refine Lwp.seq (Lwp.cond rfl (fun h => by cases h) (fun _ => Lwp.exit ?_))
                  simp only [go_sem, eq_self, Nat.reduceEqDiff, reduceCtorEq]
                  refine weak_of rfl ?_ ?_ ?_
                  · (simp only [go_sem, eq_self, Nat.reduceEqDiff, reduceCtorEq]; try rfl)
                  · (simp only [go_sem, eq_self, Nat.reduceEqDiff, z2]; try rfl)
                  · (simp only [go_sem, eq_self, Nat.reduceEqDiff]; try rfl)
              · have b1 := beq_zero_not hz
                rw [if_neg hz]
                refine Lwp.seq (Lwp.regI hT ?_)
                simp only [L47r13, go_sem, eq_self, Nat.reduceAdd, Nat.reduceLT, Nat.reduceEqDiff, Int.reduceEq, reduceCtorEq, decide_true, m4, b1]
                refine Lwp.cond rfl (fun h => by cases h) (fun _ => Lwp.skip ?_)
                simp only [go_sem]
                refine weak_of rfl ?_ ?_ ?_
                · (simp only [go_sem, eq_self, Nat.reduceEqDiff, reduceCtorEq]; try rfl)
                · (simp only [go_sem, eq_self, Nat.reduceEqDiff]; try rfl)
                · (simp only [go_sem, eq_self, Nat.reduceEqDiff]; try rfl)
            · have tl2 : (if i % 4 = 0 then sub4 t1 else t1).length = 4 := by
                split
                · exact sub4_len _
                · exact tl1
              have hT3 : tmpW i t0 = if i % 8 = 0 then pow4 ((i - 1) / 8) (if i % 4 = 0 then sub4 t1 else t1) else (if i % 4 = 0 then sub4 t1 else t1) := by
                unfold tmpW
                by_cases hz : i % 8 = 0
                · rw [if_pos hz, if_pos hz, if_pos (by omega), ← hT1, if_pos hz, show i / 8 - 1 = (i - 1) / 8 by omega]
                · rw [if_neg hz, if_neg hz, ← hT1, if_neg hz]
                  by_cases hy : i % 8 = 4
                  · rw [if_pos hy, if_pos (by omega)]
                  · rw [if_neg hy, if_neg (by omega)]
              generalize (if i % 4 = 0 then sub4 t1 else t1) = t2 at *
              refine Lwp.seqW (KyT key (tmpW i t0) i ((i + 1 - 1) / 8)) ?_ ?_
              · unfold KyT
                by_cases hz : i % 8 = 0
                · have b1 := beq_zero_of hz
                  rw [hT3, if_pos hz]
                  have f25 := S25_pw ((i - 1) / 8)
                  have pe : (i - 1) / 8 + 1 = (i + 1 - 1) / 8 := by omega
                  rw [pe] at f25
                  have q1 : t2.set 0 (xorZ .u8 (t2.getD 0 0) ((pw ((i - 1) / 8)).toNat : Int)) = pow4 ((i - 1) / 8) t2 := rfl
                  refine Lwp.seq (Lwp.regI hT ?_)
                  simp only [L47r19, go_sem, eq_self, Nat.reduceAdd, Nat.reduceLT, Nat.reduceEqDiff, Int.reduceEq, reduceCtorEq, decide_true, m8, b1]
                  refine Lwp.cond rfl (fun _ => ?_) (fun h => by cases h)
                  refine Lwp.seq (Lwp.regI hT ?_)
                  simp only [L47r20, go_sem, eq_self, Nat.reduceAdd, Nat.reduceLT, Nat.reduceLeDiff, Nat.reduceEqDiff, Int.reduceLT, Int.reduceLE, Int.reduceToNat, reduceCtorEq, decide_true, Bool.false_eq_true, ty5, ty88, tl2, q1]
                  refine Lwp.regI hT ?_
                  simp only [L47r21, go_sem, eq_self, Nat.reduceAdd, Nat.reduceLT, Nat.reduceEqDiff, reduceCtorEq, decide_true, f25]
                  refine weak_of rfl ?_ ?_ ?_
                  · (simp only [go_sem, eq_self, Nat.reduceEqDiff, reduceCtorEq]; try rfl)
                  · (simp only [go_sem, eq_self, Nat.reduceEqDiff]; try rfl)
                  · (simp only [go_sem, eq_self, Nat.reduceEqDiff]; try rfl)
                · have b1 := beq_zero_not hz
                  rw [hT3, if_neg hz]
                  have pe : (i + 1 - 1) / 8 = (i - 1) / 8 := by omega
                  rw [pe]
                  refine Lwp.seq (Lwp.regI hT ?_)
                  simp only [L47r19, go_sem, eq_self, Nat.reduceAdd, Nat.reduceLT, Nat.reduceEqDiff, Int.reduceEq, reduceCtorEq, decide_true, m8, b1]
                  refine Lwp.cond rfl (fun h => by cases h) (fun _ => Lwp.skip ?_)
                  simp only [go_sem]
                  refine weak_of rfl ?_ ?_ ?_
                  · (simp only [go_sem, eq_self, Nat.reduceEqDiff, reduceCtorEq]; try rfl)
                  · (simp only [go_sem, eq_self, Nat.reduceEqDiff]; try rfl)
                  · (simp only [go_sem, eq_self, Nat.reduceEqDiff]; try rfl)
              · have tl3 : (tmpW i t0).length = 4 := tmpW_len i tl
                have wdi : wd key i = xor4 (wd key (i - 8)) (tmpW i t0) := hi8
                clear hT3 hT1
                generalize tmpW i t0 = t3 at *
                unfold KyT
                refine Lwp.seq (Lwp.regI hT ?_)
                simp only [L47r22, go_sem, eq_self, Nat.reduceAdd, Nat.reduceLT, decide_true]
                refine Lwp.block (Lwp.range (KyW key t3 i ((i + 1 - 1) / 8)) 4 ?_ (fun k hk => ?_) ?_)
                · refine weak_of rfl ?_ ?_ ?_
                  · (simp only [go_sem, eq_self, Nat.reduceEqDiff, reduceCtorEq, KyW, Nat.add_zero]; try rfl)
                  · (simp only [go_sem, eq_self, Nat.reduceEqDiff, KyW, Nat.add_zero]; try rfl)
                  · (simp only [go_sem, eq_self, Nat.reduceEqDiff, KyW, Nat.add_zero]; try rfl)
                · have g1 : (k : Int) < 4 := by omega
                  have g2 : (0 : Int) ≤ (k : Int) := by omega
                  have g3 : k ≤ 3 := by omega
                  have g4 := wrap_succ hk (by decide)
                  have e8 : IntKind.i64.wrap ((i : Int) - 8) = ((i - 8 : Nat) : Int) := by rw [wrap_i64 (by omega) (by omega)]; omega
                  have d1 : (0 : Int) ≤ ((i - 8 : Nat) : Int) := by omega
                  have d2 : ((i - 8 : Nat) : Int) < 60 := by omega
                  have d3 : (i - 8) * 4 + k < 240 := by omega
                  have d4 : i * 4 + k + 1 ≤ 240 := by omega
                  have d5 : i * 4 + k < 240 := by omega
                  have wl2 := wfl_len key (4 * i + k)
                  have r1 : (wfl key (4 * i + k)).getD ((i - 8) * 4 + k) 0 = (wd key (i - 8)).getD k 0 := by
                    rw [wfl_at key (by omega) (by omega), Nat.mul_comm (i - 8) 4, wv_at key hk]
                  have r2 : (wfl key (4 * i + k)).set (i * 4 + k) (xorZ .u8 ((wd key (i - 8)).getD k 0) (t3.getD k 0)) = wfl key (4 * i + (k + 1)) := by
                    rw [Nat.mul_comm i 4]
                    refine wfl_set key _ ?_
                    rw [wv_at key hk, wdi]
                    unfold xor4
                    rw [tab_getD _ _ hk]
                  generalize hw2 : wfl key (4 * i + (k + 1)) = w2 at *
                  generalize hw1 : wfl key (4 * i + k) = w1 at *
                  generalize wd key (i - 8) = t8 at *
                  unfold KyW
                  rw [hw1]
                  refine Lwp.seq (Lwp.regI hT ?_)
                  simp only [L47r23, go_sem, eq_self, Nat.reduceAdd, Nat.reduceLT, Nat.reduceEqDiff, reduceCtorEq, decide_true, g1]
                  refine Lwp.seq (Lwp.cond rfl (fun _ => Lwp.skip ?_) (fun h => by cases h))
                  simp only [go_sem]
                  refine Lwp.seq (Lwp.block ?_)
                  refine Lwp.seq (Lwp.regI hT ?_)
                  simp only [L47r24, go_sem, eq_self, Nat.reduceAdd, Nat.reduceLT, Nat.reduceEqDiff, reduceCtorEq, decide_true]
                  refine Lwp.regD hT hM ?_
                  simp only [L47r25, go_sem, eq_self, Nat.reduceAdd, Nat.reduceSub, Nat.reduceLT, Nat.reduceLeDiff, Nat.reduceEqDiff, Nat.reduceDiv, Nat.reduceMod, Nat.reducePow, reduceCtorEq, decide_true, decide_false, Bool.false_eq_true, ty5, ty88, ty89, g1, g2, g3, hk, e8, d1, d2, d3, d4, i0, h1, wl2, tl3, r1, r2, Nat.mul_one, Nat.zero_add]
                  refine Lwp.regI hT ?_
                  simp only [L47r26, go_sem, eq_self, Nat.reduceAdd, Nat.reduceLT, Nat.reduceEqDiff, reduceCtorEq, decide_true, g4]
                  refine weak_of rfl ?_ ?_ ?_
                  · (simp only [go_sem, eq_self, Nat.reduceEqDiff, reduceCtorEq]; try rfl)
                  · (simp only [go_sem, eq_self, Nat.reduceEqDiff, hw2]; try rfl)
                  · (simp only [go_sem, eq_self, Nat.reduceEqDiff, hw2]; try rfl)
                · unfold KyW
                  refine Lwp.seq (Lwp.regI hT ?_)
                  simp only [L47r23, go_sem, eq_self, Nat.reduceAdd, Nat.reduceLT, Nat.reduceEqDiff, Int.reduceLT, reduceCtorEq, decide_true, decide_false]
                  refine Lwp.seq (Lwp.cond rfl (fun h => by cases h) (fun _ => Lwp.exit ?_))
                  simp only [go_sem, eq_self, Nat.reduceEqDiff, reduceCtorEq]
                  have e9 : 4 * i + 4 = 4 * (i + 1) := by omega
                  refine Lwp.regI hT ?_
                  simp only [L47r27, go_sem, eq_self, Nat.reduceAdd, Nat.reduceLT, Nat.reduceEqDiff, reduceCtorEq, decide_true, h4]
                  refine weak_of rfl ?_ ?_ ?_
                  · (simp only [go_sem, eq_self, Nat.reduceEqDiff, reduceCtorEq]; try rfl)
                  · (simp only [go_sem, eq_self, Nat.reduceEqDiff, e9]; try rfl)
                  · (simp only [go_sem, eq_self]; try rfl)
    · unfold KyH
      have z15 := zz16
      have wl240 := wfl_len key 240
      have sw : sub (ints .u8 (wfl key 240)) 0 240 = ints .u8 (wfl key 240) := sub_whole (by rw [ints_len, wl240])
      refine Lwp.seq (Lwp.regI hT ?_)
      simp only [L47r6, go_sem, eq_self, Nat.reduceAdd, Nat.reduceMul, Nat.reduceSub, Nat.reduceLT, Nat.reduceEqDiff, Nat.reduceDiv, Int.reduceLT, reduceCtorEq, decide_true, decide_false]
      refine Lwp.seq (Lwp.cond rfl (fun h => by cases h) (fun _ => Lwp.exit ?_))
      simp only [go_sem, eq_self]
      refine Lwp.seq (Lwp.regI hT ?_)
      simp only [L47r28, go_sem, eq_self, Nat.reduceAdd, Nat.reduceLT, Nat.reduceEqDiff, Int.reduceLE, Int.reduceToNat, Int.reduceMul, reduceCtorEq, decide_true, ty22, ty56, ↓zz16, zz16]
      refine Lwp.seq ?_
      refine Lwp.seq (Lwp.regI hT ?_)
      simp only [L47r29, go_sem, eq_self, Nat.reduceAdd, Nat.reduceLT, Nat.reduceEqDiff, reduceCtorEq, decide_true, ty56]
      refine Lwp.block (Lwp.range (KyO key) 15 ?_ (fun i hi => ?_) ?_)
      · refine weak_of rfl ?_ ?_ ?_
        · (simp only [go_sem, eq_self, Nat.reduceEqDiff, reduceCtorEq, KyO, Nat.mul_zero, hw0]; try rfl)
        · (simp only [go_sem, eq_self, Nat.reduceEqDiff, KyO, Nat.mul_zero, hw0]; try rfl)
        · (simp only [go_sem, eq_self, Nat.reduceEqDiff, KyO, Nat.mul_zero, hw0]; try rfl)
      · have h1 : (i : Int) < 15 := by omega
        have h4 := wrap_succ hi (by decide)
        have i0 : (0 : Int) ≤ (i : Int) := by omega
        unfold KyO
        refine Lwp.seq (Lwp.regI hT ?_)
        simp only [L47r30, go_sem, eq_self, Nat.reduceAdd, Nat.reduceLT, Nat.reduceEqDiff, decide_true, h1]
        refine Lwp.seq (Lwp.cond rfl (fun _ => Lwp.skip ?_) (fun h => by cases h))
        simp only [go_sem]
        refine Lwp.seq (Lwp.block ?_)
        refine Lwp.seq (Lwp.regI hT ?_)
        simp only [L47r31, go_sem, eq_self, Nat.reduceAdd, Nat.reduceLT, Nat.reduceEqDiff, decide_true]
        refine Lwp.seq (Lwp.regI hT ?_)
        simp only [L47r32, go_sem, eq_self, Nat.reduceAdd, Nat.reduceLT, decide_true]
        refine Lwp.block (Lwp.range (KyP key i) 16 ?_ (fun k hk => ?_) ?_)
        · refine weak_of rfl ?_ ?_ ?_
          · (simp only [go_sem, eq_self, Nat.reduceEqDiff, KyP, Nat.add_zero]; try rfl)
          · (simp only [go_sem, eq_self, Nat.reduceEqDiff, KyP, Nat.add_zero]; try rfl)
          · (simp only [go_sem, eq_self, Nat.reduceEqDiff, KyP, Nat.add_zero]; try rfl)
        · have g1 : (k : Int) < 16 := by omega
          have g2 : (0 : Int) ≤ (k : Int) := by omega
          have g4 := wrap_succ hk (by decide)
          have e1 : IntKind.i64.wrap (4 * (i : Int)) = ((4 * i : Nat) : Int) := by rw [wrap_i64 (by omega) (by omega)]; omega
          have e2 := td4 k
          have e3 : IntKind.i64.wrap (((k / 4 : Nat) : Int)) = ((k / 4 : Nat) : Int) := wrap_i64 (by omega) (by omega)
          have e4 : IntKind.i64.wrap (((4 * i : Nat) : Int) + ((k / 4 : Nat) : Int)) = ((4 * i + k / 4 : Nat) : Int) := by rw [wrap_i64 (by omega) (by omega)]; omega
          have e5 := tm4 k
          have d1 : (0 : Int) ≤ ((4 * i + k / 4 : Nat) : Int) := by omega
          have d2 : ((4 * i + k / 4 : Nat) : Int) < 60 := by omega
          have d3 : (0 : Int) ≤ ((k % 4 : Nat) : Int) := by omega
          have d4 : ((k % 4 : Nat) : Int) < 4 := by omega
          have d5 : (4 * i + k / 4) * 4 + k % 4 < 240 := by omega
          have d6 : i * 16 + k < 240 := by omega
          have d7 : i * 16 + k + 1 ≤ 240 := by omega
          have wl2 := wfl_len key (16 * i + k)
          have r1 : (wfl key 240).getD ((4 * i + k / 4) * 4 + k % 4) 0 = wv key (16 * i + k) := by
            rw [wfl_at key (by omega) (Nat.le_refl _), show (4 * i + k / 4) * 4 + k % 4 = 16 * i + k by omega]
          have r2 : (wfl key (16 * i + k)).set (i * 16 + k) (wv key (16 * i + k)) = wfl key (16 * i + (k + 1)) := by
            rw [Nat.mul_comm i 16]; exact wfl_set key _ rfl
          generalize hw2 : wfl key (16 * i + (k + 1)) = w2 at *
          generalize hw1 : wfl key (16 * i + k) = w1 at *
          generalize wv key (16 * i + k) = v at *
          generalize 4 * i + k / 4 = q at *
          generalize k % 4 = r at *
          unfold KyP
          rw [hw1]
          refine Lwp.seq (Lwp.regI hT ?_)
          simp only [L47r33, go_sem, eq_self, Nat.reduceAdd, Nat.reduceLT, Nat.reduceEqDiff, decide_true, g1]
          refine Lwp.seq (Lwp.cond rfl (fun _ => Lwp.skip ?_) (fun h => by cases h))
          simp only [go_sem]
          refine Lwp.seq (Lwp.block ?_)
          refine Lwp.seq (Lwp.regI hT ?_)
          simp only [L47r34, go_sem, eq_self, Nat.reduceAdd, Nat.reduceLT, Nat.reduceEqDiff, decide_true]
          refine Lwp.regD hT hM ?_
          simp only [L47r35, go_sem, eq_self, Nat.reduceAdd, Nat.reduceSub, Nat.reduceLT, Nat.reduceLeDiff, Nat.reduceEqDiff, Nat.reduceDiv, Nat.reduceMod, Nat.reducePow, Int.reduceEq, reduceCtorEq, decide_true, decide_false, Bool.false_eq_true, ty5, ty22, ty56, ty88, ty89, g1, g2, h1, i0, e1, e2, e3, e4, e5, d1, d2, d3, d4, d5, d7, wl2, wl240, r1, r2, Nat.mul_one, Nat.zero_add]
          refine Lwp.regI hT ?_
          simp only [L47r36, go_sem, eq_self, Nat.reduceAdd, Nat.reduceLT, Nat.reduceEqDiff, decide_true, g4]
          refine weak_of rfl ?_ ?_ ?_
          · (simp only [go_sem, eq_self, Nat.reduceEqDiff]; try rfl)
          · (simp only [go_sem, eq_self, Nat.reduceEqDiff, hw2]; try rfl)
          · (simp only [go_sem, eq_self, Nat.reduceEqDiff, hw2]; try rfl)
        · unfold KyP
          have e9 : 16 * i + 16 = 16 * (i + 1) := by omega
          refine Lwp.seq (Lwp.regI hT ?_)
          simp only [L47r33, go_sem, eq_self, Nat.reduceAdd, Nat.reduceLT, Nat.reduceEqDiff, Int.reduceLT, decide_true, decide_false]
          refine Lwp.seq (Lwp.cond rfl (fun h => by cases h) (fun _ => Lwp.exit ?_))
          simp only [go_sem, eq_self, Nat.reduceEqDiff]
          refine Lwp.regI hT ?_
          simp only [L47r37, go_sem, eq_self, Nat.reduceAdd, Nat.reduceLT, Nat.reduceEqDiff, decide_true, h4]
          refine weak_of rfl ?_ ?_ ?_
          · (simp only [go_sem, eq_self, Nat.reduceEqDiff]; try rfl)
          · (simp only [go_sem, eq_self, Nat.reduceEqDiff, e9]; try rfl)
          · (simp only [go_sem, eq_self, Nat.reduceEqDiff]; try rfl)
      · unfold KyO
        refine Lwp.seq (Lwp.regI hT ?_)
        simp only [L47r30, go_sem, eq_self, Nat.reduceAdd, Nat.reduceMul, Nat.reduceLT, Nat.reduceEqDiff, Int.reduceLT, decide_true, decide_false]
        refine Lwp.seq (Lwp.cond rfl (fun h => by cases h) (fun _ => Lwp.exit ?_))
        simp only [go_sem, eq_self]
        refine Lwp.seq (Lwp.regI hT ?_)
        simp only [L47r38, go_sem, eq_self, Nat.reduceAdd, Nat.reduceLT, Nat.reduceEqDiff, decide_true]
        refine Lwp.ret (post_val (v := .tup [.osl 101 0 15 16, .nili]) ?_ ?_)
        · simp only [go_sem, eq_self, Nat.reduceEqDiff]
        · simp only [go_sem, eq_self, Nat.reduceMul, Nat.reduceEqDiff, reduceCtorEq, wl240, sw, Nat.le_refl]
  · rw [kyV_bad hl, kyE_bad hl]
    have e : ((key.length : Int) != 32) = true := by simp; omega
    refine Lwp.seq (Lwp.regI hT ?_)
    simp only [L47r1, go_sem, eq_self, Nat.reduceAdd, Nat.reduceLT, Nat.reduceEqDiff, reduceCtorEq, decide_true, ty27, e]
    refine Lwp.cond rfl (fun _ => ?_) (fun h => by cases h)
    refine Lwp.seq (Lwp.regI hT ?_)
    simp only [L47r2, go_sem, eq_self, Nat.reduceAdd, Nat.reduceLT, Nat.reduceEqDiff, reduceCtorEq, decide_true, ty41]
    refine Lwp.ret (post_val (v := .tup [.nils, .iface 41 (.int .i64 1)]) ?_ ?_)
    · simp only [go_sem, eq_self, Nat.reduceEqDiff, reduceCtorEq]
    · simp only [go_sem, eq_self]
end Eng

