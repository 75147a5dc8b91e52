/- Contracts of the program's functions, and laws over them. There is no further condition. -/
import Derived.Test.YtdpbddomncjkjaaEC
import Derived.Test.YtdpbddomncjkjaaChecked
import Derived.KernelRfl
import Derived.Test.YtdpbddomncjkjaaED
import Derived.Test.YtdpbddomncjkjaaRows
set_option linter.unusedVariables false
set_option linter.unusedSimpArgs false
set_option linter.unusedSectionVars false
set_option exponentiation.threshold 2000
namespace Eng
open Go Go.Proofs
theorem ty3 : tyOf Try.prog 3 = some ⟨.int .i64, 1, 8, [.int .i64 0], false, true, true⟩ := by kernel_rfl
theorem ty4 : tyOf Try.prog 4 = some ⟨.bool, 1, 1, [.bool false], false, true, true⟩ := by kernel_rfl
theorem ty5 : tyOf Try.prog 5 = some ⟨.int .u8, 1, 1, [.int .u8 0], false, true, true⟩ := by kernel_rfl
theorem ty22 : tyOf Try.prog 22 = some ⟨.array 16 5, 16, 16, ints .u8 (List.replicate 16 0), true, true, true⟩ := by kernel_rfl
theorem ty27 : tyOf Try.prog 27 = some ⟨.slice 5, 1, 24, [.nils], false, true, false⟩ := by kernel_rfl
theorem ty38 : tyOf Try.prog 38 = some ⟨.interface #[("Error", 100)], 1, 16, [.nili], false, true, true⟩ := by kernel_rfl
theorem ty41 : tyOf Try.prog 41 = some ⟨.int .i64, 1, 8, [.int .i64 0], false, true, true⟩ := by kernel_rfl
theorem ty56 : tyOf Try.prog 56 = some ⟨.slice 22, 1, 24, [.nils], false, true, false⟩ := by kernel_rfl
theorem ty65 : tyOf Try.prog 65 = some ⟨.array 32 5, 32, 32, ints .u8 (List.replicate 32 0), true, true, true⟩ := by kernel_rfl
theorem ty76 : tyOf Try.prog 76 = some ⟨.int .u64, 1, 8, [.int .u64 0], false, true, true⟩ := by kernel_rfl
theorem ty88 : tyOf Try.prog 88 = some ⟨.array 4 5, 4, 4, ints .u8 (List.replicate 4 0), true, true, true⟩ := by kernel_rfl
theorem ty89 : tyOf Try.prog 89 = some ⟨.array 60 88, 240, 240, ints .u8 (List.replicate 240 0), true, true, true⟩ := by kernel_rfl
end Eng


namespace Eng
open Go Go.Proofs
theorem hM0 : Try.prog.follows .mixedOrders = true := by kernel_rfl
theorem eq22 : eqArr Try.prog 22 = true := by kernel_rfl
def L18r0 : List AOp := [
  ⟨(some 3), .box 65 (.tmp 0), none, 0⟩,
  ⟨(some 4), .box 22 (.tmp 1), none, 0⟩,
  ⟨(some 5), .box 22 (.tmp 2), none, 0⟩,
  ⟨(some 6), .assign (.const (.bool false)), none, 0⟩]
def L18r1 : List AOp := [
  ⟨(some 7), .assign (.const (.slice none 0 0)), none, 0⟩]
def L18r2 : List AOp := [
  ⟨(some 8), .assign (.const (.int .i64 0)), none, 0⟩]
def L18r3 : List AOp := [
  ⟨(some 15), .move (.tmp 8), none, 0⟩,
  ⟨(some 16), .binOp .lss 3 (.tmp 15) (.const (.int .i64 32)) 3, none, 0⟩]
def L18r5 : List AOp := [
  ⟨(some 19), .move (.tmp 7), none, 0⟩,
  ⟨(some 20), .move (.tmp 8), none, 0⟩,
  ⟨(some 21), .indexAddr 65 (.tmp 3) (.tmp 20), none, 0⟩,
  ⟨(some 22), .load 5 (.tmp 21), none, 0⟩,
  ⟨(some 23), .buildSlice 27 1 #[(0, .tmp 22)], none, 0⟩,
  ⟨(some 24), .call { callee := .builtin .append, args := #[.tmp 19, .tmp 23], argTypes := #[27, 27] }, none, 0⟩,
  ⟨(some 7), .assign (.tmp 24), none, 0⟩]
def L18r4 : List AOp := [
  ⟨(some 17), .move (.tmp 8), none, 0⟩,
  ⟨(some 18), .binOp .add 3 (.tmp 17) (.const (.int .i64 1)) 3, none, 0⟩,
  ⟨(some 8), .assign (.tmp 18), none, 0⟩]
def L18r6 : List AOp := [
  ⟨(some 26), .move (.tmp 7), none, 0⟩,
  ⟨(some 27), .load 22 (.tmp 4), none, 0⟩,
  ⟨(some 28), .call { callee := .value (.func 50), args := #[.tmp 26, .tmp 27], argTypes := #[27, 22] }, none, 0⟩,
  ⟨(some 25), .move (.tmp 28), none, 0⟩,
  ⟨(some 29), .extract (.tmp 25) 0, none, 0⟩,
  ⟨(some 30), .extract (.tmp 25) 1, none, 0⟩,
  ⟨(some 9), .alloc 22, none, 0⟩,
  ⟨none, .store 22 (.tmp 9) (.tmp 29), none, 0⟩,
  ⟨(some 10), .assign (.tmp 30), none, 0⟩]
def L18r7 : List AOp := [
  ⟨(some 32), .move (.tmp 7), none, 0⟩,
  ⟨(some 33), .load 22 (.tmp 5), none, 0⟩,
  ⟨(some 34), .call { callee := .value (.func 50), args := #[.tmp 32, .tmp 33], argTypes := #[27, 22] }, none, 0⟩,
  ⟨(some 31), .move (.tmp 34), none, 0⟩,
  ⟨(some 35), .extract (.tmp 31) 0, none, 0⟩,
  ⟨(some 36), .extract (.tmp 31) 1, none, 0⟩,
  ⟨(some 11), .alloc 22, none, 0⟩,
  ⟨none, .store 22 (.tmp 11) (.tmp 35), none, 0⟩,
  ⟨(some 12), .assign (.tmp 36), none, 0⟩]
def L18r8 : List AOp := [
  ⟨(some 38), .makeSlice 27 (.const (.int .i64 32)) (.const (.int .i64 32)), none, 0⟩,
  ⟨(some 39), .build 22 #[], none, 0⟩,
  ⟨(some 40), .call { callee := .value (.func 50), args := #[.tmp 38, .tmp 39], argTypes := #[27, 22] }, none, 0⟩,
  ⟨(some 37), .move (.tmp 40), none, 0⟩,
  ⟨(some 41), .extract (.tmp 37) 0, none, 0⟩,
  ⟨(some 42), .extract (.tmp 37) 1, none, 0⟩,
  ⟨(some 13), .alloc 22, none, 0⟩,
  ⟨none, .store 22 (.tmp 13) (.tmp 41), none, 0⟩,
  ⟨(some 14), .assign (.tmp 42), none, 0⟩]
def L18r9 : List AOp := [
  ⟨(some 43), .move (.tmp 10), none, 1267650600228229401496703205376⟩,
  ⟨(some 44), .binOp .eql 38 (.tmp 43) (.const .nilIface) 38, none, 1267650600228229401496703205377⟩,
  ⟨(some 45), .move (.tmp 44), none, 1267650600228229401496703205379⟩,
  ⟨(some 46), .move (.tmp 12), (some (45, true)), 1267650600228229401496703205383⟩,
  ⟨(some 47), .binOp .eql 38 (.tmp 46) (.const .nilIface) 38, (some (45, true)), 1267650600228229401496703205391⟩,
  ⟨(some 48), .pick (.tmp 45) (.tmp 47) (.const (.bool false)), none, 1267650600228229401496703205407⟩,
  ⟨(some 49), .move (.tmp 48), none, 1267650600228229401496703205439⟩,
  ⟨(some 50), .move (.tmp 14), (some (49, true)), 1267650600228229401496703205503⟩,
  ⟨(some 51), .binOp .eql 38 (.tmp 50) (.const .nilIface) 38, (some (49, true)), 1267650600228229401496703205631⟩,
  ⟨(some 52), .pick (.tmp 49) (.tmp 51) (.const (.bool false)), none, 1267650600228229401496703205887⟩,
  ⟨(some 53), .move (.tmp 52), none, 1267650600228229401496703206399⟩,
  ⟨(some 54), .indexAddr 22 (.tmp 13) (.const (.int .i64 0)), (some (53, true)), 1267650600228229401496703207423⟩,
  ⟨(some 55), .load 5 (.tmp 54), (some (53, true)), 1267650600228229401496703209471⟩,
  ⟨(some 56), .binOp .eql 5 (.tmp 55) (.const (.int .u8 220)) 5, (some (53, true)), 1267650600228229401496703213567⟩,
  ⟨(some 57), .pick (.tmp 53) (.tmp 56) (.const (.bool false)), none, 1267650600228229401496703221759⟩,
  ⟨(some 58), .move (.tmp 57), none, 1267650600228229401496703238143⟩,
  ⟨(some 59), .load 22 (.tmp 9), (some (58, true)), 65535⟩,
  ⟨(some 60), .load 22 (.tmp 11), (some (58, true)), 65535⟩,
  ⟨(some 61), .binOp .eql 22 (.tmp 59) (.tmp 60) 22, (some (58, true)), 262143⟩,
  ⟨(some 62), .load 22 (.tmp 4), (some (58, true)), 65535⟩,
  ⟨(some 63), .load 22 (.tmp 5), (some (58, true)), 65535⟩,
  ⟨(some 64), .binOp .eql 22 (.tmp 62) (.tmp 63) 22, (some (58, true)), 1638399⟩,
  ⟨(some 65), .binOp .eql 4 (.tmp 61) (.tmp 64) 4, (some (58, true)), 1267650600228229401496707399679⟩,
  ⟨(some 66), .pick (.tmp 58) (.tmp 65) (.const (.bool false)), none, 1267650600228229401496711593983⟩,
  ⟨(some 6), .assign (.tmp 66), none, 1267650600228229401496719982591⟩]
def L18 : LC := (.seq (.region L18r0) (.seq (.region L18r1) (.seq (.seq (.region L18r2) (.block 0 (.loop (.seq (.seq (.region L18r3) (.cond (.tmp 16) .skip (.exit 0))) (.seq (.block 1 (.region L18r5)) (.region L18r4)))))) (.seq (.region L18r6) (.seq (.region L18r7) (.seq (.region L18r8) (.seq (.regionD L18r9) .ret)))))))
theorem nt18 : Try.f18.ntmps = 67 := by kernel_rfl
theorem rs18 : Try.f18.results.toList = [.tmp 6] := by kernel_rfl
theorem lite18 : Try.f18.body.map (lite okDraw) = some L18 := by kernel_rfl
def L23r0 : List AOp := [
  ⟨(some 1), .box 22 (.tmp 0), none, 0⟩,
  ⟨(some 2), .alloc 22, none, 0⟩]
def L23r1 : List AOp := [
  ⟨(some 3), .alloc 22, none, 0⟩]
def L23r2 : List AOp := [
  ⟨(some 5), .move (.const (.int .i64 0)), none, 0⟩]
def L23r3 : List AOp := [
  ⟨(some 6), .binOp .lss 3 (.tmp 5) (.const (.int .i64 16)) 3, none, 0⟩]
def L23r4 : List AOp := [
  ⟨(some 7), .move (.tmp 5), none, 0⟩,
  ⟨(some 4), .assign (.tmp 7), none, 0⟩]
def L23r5 : List AOp := [
  ⟨(some 8), .move (.tmp 4), none, 0⟩,
  ⟨(some 9), .move (.tmp 4), none, 0⟩,
  ⟨(some 10), .move (.tmp 4), none, 0⟩,
  ⟨(some 11), .binOp .rem 3 (.tmp 10) (.const (.int .i64 4)) 3, none, 0⟩,
  ⟨(some 12), .binOp .mul 3 (.const (.int .i64 4)) (.tmp 11) 3, none, 0⟩,
  ⟨(some 13), .binOp .add 3 (.tmp 9) (.tmp 12) 3, none, 0⟩,
  ⟨(some 14), .binOp .rem 3 (.tmp 13) (.const (.int .i64 16)) 3, none, 0⟩,
  ⟨(some 15), .indexAddr 22 (.tmp 1) (.tmp 14), none, 0⟩,
  ⟨(some 16), .load 5 (.tmp 15), none, 0⟩,
  ⟨(some 17), .indexAddr 22 (.tmp 3) (.tmp 8), none, 0⟩,
  ⟨none, .store 5 (.tmp 17) (.tmp 16), none, 0⟩]
def L23r6 : List AOp := [
  ⟨(some 18), .binOp .add 3 (.tmp 5) (.const (.int .i64 1)) 3, none, 0⟩,
  ⟨(some 5), .move (.tmp 18), none, 0⟩]
def L23r7 : List AOp := [
  ⟨(some 19), .load 22 (.tmp 3), none, 0⟩,
  ⟨none, .store 22 (.tmp 2) (.tmp 19), none, 0⟩]
def L23 : LC := (.seq (.region L23r0) (.seq (.region L23r1) (.seq (.seq (.region L23r2) (.block 0 (.loop (.seq (.region L23r3) (.seq (.cond (.tmp 6) .skip (.exit 0)) (.seq (.block 1 (.seq (.region L23r4) (.region L23r5))) (.region L23r6))))))) (.seq (.region L23r7) .ret))))
theorem nt23 : Try.f23.ntmps = 20 := by kernel_rfl
theorem rs23 : Try.f23.results.toList = [.cell 2 22] := by kernel_rfl
theorem lite23 : Try.f23.body.map (lite okDraw) = some L23 := by kernel_rfl
def L25r0 : List AOp := [
  ⟨(some 4), .assign (.const (.int .u8 0)), none, 0⟩]
def L25r1 : List AOp := [
  ⟨(some 5), .assign (.const (.int .u8 0)), none, 0⟩]
def L25r2 : List AOp := [
  ⟨(some 7), .move (.const (.int .i64 0)), none, 0⟩]
def L25r3 : List AOp := [
  ⟨(some 8), .binOp .lss 3 (.tmp 7) (.const (.int .i64 8)) 3, none, 0⟩]
def L25r4 : List AOp := [
  ⟨(some 9), .move (.tmp 7), none, 0⟩,
  ⟨(some 6), .assign (.tmp 9), none, 0⟩]
def L25r5 : List AOp := [
  ⟨(some 10), .move (.tmp 5), none, 0⟩,
  ⟨(some 11), .move (.tmp 0), none, 0⟩,
  ⟨(some 12), .move (.tmp 1), none, 0⟩,
  ⟨(some 13), .move (.tmp 6), none, 0⟩,
  ⟨(some 14), .binOp .shr 5 (.tmp 12) (.tmp 13) 3, none, 0⟩,
  ⟨(some 15), .binOp .and 5 (.tmp 14) (.const (.int .u8 1)) 5, none, 0⟩,
  ⟨(some 16), .unOp .neg 5 (.tmp 15), none, 0⟩,
  ⟨(some 17), .binOp .and 5 (.tmp 11) (.tmp 16) 5, none, 0⟩,
  ⟨(some 18), .binOp .xor 5 (.tmp 10) (.tmp 17) 5, none, 0⟩,
  ⟨(some 5), .assign (.tmp 18), none, 0⟩]
def L25r6 : List AOp := [
  ⟨(some 19), .move (.tmp 0), none, 0⟩,
  ⟨(some 20), .binOp .shl 5 (.tmp 19) (.const (.int .u64 1)) 76, none, 0⟩,
  ⟨(some 21), .move (.tmp 0), none, 0⟩,
  ⟨(some 22), .binOp .shr 5 (.tmp 21) (.const (.int .u64 7)) 76, none, 0⟩,
  ⟨(some 23), .unOp .neg 5 (.tmp 22), none, 0⟩,
  ⟨(some 24), .binOp .and 5 (.const (.int .u8 27)) (.tmp 23) 5, none, 0⟩,
  ⟨(some 25), .binOp .xor 5 (.tmp 20) (.tmp 24) 5, none, 0⟩,
  ⟨(some 0), .assign (.tmp 25), none, 0⟩]
def L25r7 : List AOp := [
  ⟨(some 26), .binOp .add 3 (.tmp 7) (.const (.int .i64 1)) 3, none, 0⟩,
  ⟨(some 7), .move (.tmp 26), none, 0⟩]
def L25r8 : List AOp := [
  ⟨(some 27), .move (.tmp 5), none, 0⟩,
  ⟨(some 4), .assign (.tmp 27), none, 0⟩]
def L25 : LC := (.seq (.region L25r0) (.seq (.region L25r1) (.seq (.seq (.region L25r2) (.block 0 (.loop (.seq (.region L25r3) (.seq (.cond (.tmp 8) .skip (.exit 0)) (.seq (.block 1 (.seq (.region L25r4) (.seq (.region L25r5) (.region L25r6)))) (.region L25r7))))))) (.seq (.region L25r8) .ret))))
theorem nt25 : Try.f25.ntmps = 28 := by kernel_rfl
theorem rs25 : Try.f25.results.toList = [.tmp 4] := by kernel_rfl
theorem lite25 : Try.f25.body.map (lite okDraw) = some L25 := by kernel_rfl
def L36r0 : List AOp := [
  ⟨(some 1), .box 22 (.tmp 0), none, 0⟩,
  ⟨(some 2), .alloc 22, none, 0⟩]
def L36r1 : List AOp := [
  ⟨(some 3), .alloc 22, none, 0⟩]
def L36r2 : List AOp := [
  ⟨(some 7), .move (.const (.int .i64 0)), none, 0⟩]
def L36r3 : List AOp := [
  ⟨(some 8), .binOp .lss 3 (.tmp 7) (.const (.int .i64 4)) 3, none, 0⟩]
def L36r4 : List AOp := [
  ⟨(some 9), .move (.tmp 7), none, 0⟩,
  ⟨(some 4), .alloc 3, none, 0⟩,
  ⟨none, .store 3 (.tmp 4) (.tmp 9), none, 0⟩]
def L36r5 : List AOp := [
  ⟨(some 10), .move (.const (.int .i64 0)), none, 0⟩]
def L36r6 : List AOp := [
  ⟨(some 11), .binOp .lss 3 (.tmp 10) (.const (.int .i64 4)) 3, none, 0⟩]
def L36r7 : List AOp := [
  ⟨(some 12), .move (.tmp 10), none, 0⟩,
  ⟨(some 5), .alloc 3, none, 0⟩,
  ⟨none, .store 3 (.tmp 5) (.tmp 12), none, 0⟩]
def L36r8 : List AOp := [
  ⟨(some 13), .makeFunc (.func 64) #[] #[.tmp 1, .tmp 4, .tmp 5], none, 0⟩,
  ⟨(some 6), .assign (.tmp 13), none, 0⟩]
def L36r9 : List AOp := [
  ⟨(some 14), .load 3 (.tmp 4), none, 0⟩,
  ⟨(some 15), .binOp .mul 3 (.const (.int .i64 4)) (.tmp 14) 3, none, 1⟩,
  ⟨(some 16), .load 3 (.tmp 5), none, 0⟩,
  ⟨(some 17), .binOp .add 3 (.tmp 15) (.tmp 16) 3, none, 7⟩,
  ⟨(some 18), .move (.tmp 6), none, 0⟩,
  ⟨(some 19), .call { callee := .value (.tmp 18), args := #[.const (.int .i64 0)], argTypes := #[3] }, none, 16⟩,
  ⟨(some 20), .call { callee := .value (.func 25), args := #[.const (.int .u8 2), .tmp 19], argTypes := #[5, 5] }, none, 48⟩,
  ⟨(some 21), .move (.tmp 6), none, 0⟩,
  ⟨(some 22), .call { callee := .value (.tmp 21), args := #[.const (.int .i64 1)], argTypes := #[3] }, none, 240⟩,
  ⟨(some 23), .call { callee := .value (.func 25), args := #[.const (.int .u8 3), .tmp 22], argTypes := #[5, 5] }, none, 496⟩,
  ⟨(some 24), .binOp .xor 5 (.tmp 20) (.tmp 23) 5, none, 1008⟩,
  ⟨(some 25), .move (.tmp 6), none, 0⟩,
  ⟨(some 26), .call { callee := .value (.tmp 25), args := #[.const (.int .i64 2)], argTypes := #[3] }, none, 3056⟩,
  ⟨(some 27), .binOp .xor 5 (.tmp 24) (.tmp 26) 5, none, 8176⟩,
  ⟨(some 28), .move (.tmp 6), none, 0⟩,
  ⟨(some 29), .call { callee := .value (.tmp 28), args := #[.const (.int .i64 3)], argTypes := #[3] }, none, 23536⟩,
  ⟨(some 30), .binOp .xor 5 (.tmp 27) (.tmp 29) 5, none, 65520⟩,
  ⟨(some 31), .indexAddr 22 (.tmp 3) (.tmp 17), none, 1267650600228229401496703336447⟩,
  ⟨none, .store 5 (.tmp 31) (.tmp 30), none, 1267650600228229401496703467519⟩]
def L36r10 : List AOp := [
  ⟨(some 32), .binOp .add 3 (.tmp 10) (.const (.int .i64 1)) 3, none, 0⟩,
  ⟨(some 10), .move (.tmp 32), none, 0⟩]
def L36r11 : List AOp := [
  ⟨(some 33), .binOp .add 3 (.tmp 7) (.const (.int .i64 1)) 3, none, 0⟩,
  ⟨(some 7), .move (.tmp 33), none, 0⟩]
def L36r12 : List AOp := [
  ⟨(some 34), .load 22 (.tmp 3), none, 0⟩,
  ⟨none, .store 22 (.tmp 2) (.tmp 34), none, 0⟩]
def L36 : LC := (.seq (.region L36r0) (.seq (.region L36r1) (.seq (.seq (.region L36r2) (.block 0 (.loop (.seq (.region L36r3) (.seq (.cond (.tmp 8) .skip (.exit 0)) (.seq (.block 1 (.seq (.region L36r4) (.seq (.region L36r5) (.block 2 (.loop (.seq (.region L36r6) (.seq (.cond (.tmp 11) .skip (.exit 2)) (.seq (.block 3 (.seq (.region L36r7) (.seq (.region L36r8) (.regionD L36r9)))) (.region L36r10))))))))) (.region L36r11))))))) (.seq (.region L36r12) .ret))))
theorem nt36 : Try.f36.ntmps = 35 := by kernel_rfl
theorem rs36 : Try.f36.results.toList = [.cell 2 22] := by kernel_rfl
theorem lite36 : Try.f36.body.map (lite okDraw) = some L36 := by kernel_rfl
def L38r0 : List AOp := [
  ⟨(some 2), .assign (.const (.int .u8 0)), none, 0⟩]
def L38r1 : List AOp := [
  ⟨(some 5), .move (.tmp 0), none, 0⟩,
  ⟨(some 3), .assign (.const (.int .u8 1)), none, 0⟩,
  ⟨(some 4), .assign (.tmp 5), none, 0⟩]
def L38r2 : List AOp := [
  ⟨(some 6), .move (.const (.int .i64 0)), none, 0⟩]
def L38r3 : List AOp := [
  ⟨(some 7), .binOp .lss 3 (.tmp 6) (.const (.int .i64 7)) 3, none, 0⟩]
def L38r4 : List AOp := [
  ⟨(some 8), .move (.tmp 4), none, 0⟩,
  ⟨(some 9), .move (.tmp 4), none, 0⟩,
  ⟨(some 10), .call { callee := .value (.func 25), args := #[.tmp 8, .tmp 9], argTypes := #[5, 5] }, none, 0⟩,
  ⟨(some 4), .assign (.tmp 10), none, 0⟩]
def L38r5 : List AOp := [
  ⟨(some 11), .move (.tmp 3), none, 0⟩,
  ⟨(some 12), .move (.tmp 4), none, 0⟩,
  ⟨(some 13), .call { callee := .value (.func 25), args := #[.tmp 11, .tmp 12], argTypes := #[5, 5] }, none, 0⟩,
  ⟨(some 3), .assign (.tmp 13), none, 0⟩]
def L38r6 : List AOp := [
  ⟨(some 14), .binOp .add 3 (.tmp 6) (.const (.int .i64 1)) 3, none, 0⟩,
  ⟨(some 6), .move (.tmp 14), none, 0⟩]
def L38r7 : List AOp := [
  ⟨(some 15), .move (.tmp 3), none, 0⟩,
  ⟨(some 16), .move (.tmp 3), none, 0⟩,
  ⟨(some 17), .call { callee := .value (.func 65), args := #[.tmp 16, .const (.int .i64 1)], argTypes := #[5, 3] }, none, 0⟩,
  ⟨(some 18), .binOp .xor 5 (.tmp 15) (.tmp 17) 5, none, 0⟩,
  ⟨(some 19), .move (.tmp 3), none, 0⟩,
  ⟨(some 20), .call { callee := .value (.func 65), args := #[.tmp 19, .const (.int .i64 2)], argTypes := #[5, 3] }, none, 0⟩,
  ⟨(some 21), .binOp .xor 5 (.tmp 18) (.tmp 20) 5, none, 0⟩,
  ⟨(some 22), .move (.tmp 3), none, 0⟩,
  ⟨(some 23), .call { callee := .value (.func 65), args := #[.tmp 22, .const (.int .i64 3)], argTypes := #[5, 3] }, none, 0⟩,
  ⟨(some 24), .binOp .xor 5 (.tmp 21) (.tmp 23) 5, none, 0⟩,
  ⟨(some 25), .move (.tmp 3), none, 0⟩,
  ⟨(some 26), .call { callee := .value (.func 65), args := #[.tmp 25, .const (.int .i64 4)], argTypes := #[5, 3] }, none, 0⟩,
  ⟨(some 27), .binOp .xor 5 (.tmp 24) (.tmp 26) 5, none, 0⟩,
  ⟨(some 28), .binOp .xor 5 (.tmp 27) (.const (.int .u8 99)) 5, none, 0⟩,
  ⟨(some 2), .assign (.tmp 28), none, 0⟩]
def L38 : LC := (.seq (.region L38r0) (.seq (.region L38r1) (.seq (.seq (.region L38r2) (.block 0 (.loop (.seq (.region L38r3) (.seq (.cond (.tmp 7) .skip (.exit 0)) (.seq (.block 1 (.seq (.region L38r4) (.region L38r5))) (.region L38r6))))))) (.seq (.region L38r7) .ret))))
theorem nt38 : Try.f38.ntmps = 29 := by kernel_rfl
theorem rs38 : Try.f38.results.toList = [.tmp 2] := by kernel_rfl
theorem lite38 : Try.f38.body.map (lite okDraw) = some L38 := by kernel_rfl
def L47r0 : List AOp := [
  ⟨(some 2), .assign (.const (.slice none 0 0)), none, 0⟩,
  ⟨(some 3), .assign (.const .nilIface), none, 0⟩]
def L47r1 : List AOp := [
  ⟨(some 13), .move (.tmp 0), none, 0⟩,
  ⟨(some 14), .call { callee := .builtin .len, args := #[.tmp 13], argTypes := #[27] }, none, 0⟩,
  ⟨(some 15), .binOp .neq 3 (.tmp 14) (.const (.int .i64 32)) 3, none, 0⟩]
def L47r2 : List AOp := [
  ⟨(some 16), .makeInterface 41 (.const (.int .i64 1)), none, 0⟩,
  ⟨(some 2), .assign (.const (.slice none 0 0)), none, 0⟩,
  ⟨(some 3), .assign (.tmp 16), none, 0⟩]
def L47r3 : List AOp := [
  ⟨(some 4), .alloc 89, none, 0⟩]
def L47r4 : List AOp := [
  ⟨(some 5), .assign (.const (.int .u8 1)), none, 0⟩]
def L47r5 : List AOp := [
  ⟨(some 17), .move (.const (.int .i64 0)), none, 0⟩]
def L47r6 : List AOp := [
  ⟨(some 18), .binOp .lss 3 (.tmp 17) (.const (.int .i64 60)) 3, none, 0⟩]
def L47r7 : List AOp := [
  ⟨(some 19), .move (.tmp 17), none, 0⟩,
  ⟨(some 6), .assign (.tmp 19), none, 0⟩]
def L47r8 : List AOp := [
  ⟨(some 20), .move (.tmp 6), none, 0⟩,
  ⟨(some 21), .binOp .lss 3 (.tmp 20) (.const (.int .i64 8)) 3, none, 0⟩]
def L47r9 : List AOp := [
  ⟨(some 22), .move (.tmp 6), none, 0⟩,
  ⟨(some 23), .move (.tmp 0), none, 0⟩,
  ⟨(some 24), .move (.tmp 6), none, 0⟩,
  ⟨(some 25), .binOp .mul 3 (.const (.int .i64 4)) (.tmp 24) 3, none, 0⟩,
  ⟨(some 26), .slice 27 (.tmp 23) (some (.tmp 25)) none none, none, 0⟩,
  ⟨(some 27), .sliceToArrayPointer 88 (.tmp 26), none, 0⟩,
  ⟨(some 28), .load 88 (.tmp 27), none, 0⟩,
  ⟨(some 29), .indexAddr 89 (.tmp 4) (.tmp 22), none, 0⟩,
  ⟨none, .store 88 (.tmp 29) (.tmp 28), none, 0⟩]
def L47r10 : List AOp := [
  ⟨(some 30), .move (.tmp 6), none, 0⟩,
  ⟨(some 31), .binOp .sub 3 (.tmp 30) (.const (.int .i64 1)) 3, none, 0⟩,
  ⟨(some 32), .indexAddr 89 (.tmp 4) (.tmp 31), none, 0⟩,
  ⟨(some 33), .load 88 (.tmp 32), none, 0⟩,
  ⟨(some 7), .alloc 88, none, 0⟩,
  ⟨none, .store 88 (.tmp 7) (.tmp 33), none, 0⟩]
def L47r11 : List AOp := [
  ⟨(some 34), .move (.tmp 6), none, 0⟩,
  ⟨(some 35), .binOp .rem 3 (.tmp 34) (.const (.int .i64 8)) 3, none, 0⟩,
  ⟨(some 36), .binOp .eql 3 (.tmp 35) (.const (.int .i64 0)) 3, none, 0⟩]
def L47r12 : List AOp := [
  ⟨(some 37), .indexAddr 88 (.tmp 7) (.const (.int .i64 1)), none, 0⟩,
  ⟨(some 38), .load 5 (.tmp 37), none, 0⟩,
  ⟨(some 39), .indexAddr 88 (.tmp 7) (.const (.int .i64 2)), none, 0⟩,
  ⟨(some 40), .load 5 (.tmp 39), none, 0⟩,
  ⟨(some 41), .indexAddr 88 (.tmp 7) (.const (.int .i64 3)), none, 0⟩,
  ⟨(some 42), .load 5 (.tmp 41), none, 0⟩,
  ⟨(some 43), .indexAddr 88 (.tmp 7) (.const (.int .i64 0)), none, 0⟩,
  ⟨(some 44), .load 5 (.tmp 43), none, 0⟩,
  ⟨(some 45), .build 88 #[(0, .tmp 38), (1, .tmp 40), (2, .tmp 42), (3, .tmp 44)], none, 0⟩,
  ⟨none, .store 88 (.tmp 7) (.tmp 45), none, 0⟩]
def L47r13 : List AOp := [
  ⟨(some 46), .move (.tmp 6), none, 0⟩,
  ⟨(some 47), .binOp .rem 3 (.tmp 46) (.const (.int .i64 4)) 3, none, 0⟩,
  ⟨(some 48), .binOp .eql 3 (.tmp 47) (.const (.int .i64 0)) 3, none, 0⟩]
def L47r14 : List AOp := [
  ⟨(some 49), .move (.const (.int .i64 0)), none, 0⟩]
def L47r15 : List AOp := [
  ⟨(some 50), .binOp .lss 3 (.tmp 49) (.const (.int .i64 4)) 3, none, 0⟩]
def L47r16 : List AOp := [
  ⟨(some 51), .move (.tmp 49), none, 0⟩,
  ⟨(some 8), .assign (.tmp 51), none, 0⟩]
def L47r17 : List AOp := [
  ⟨(some 52), .move (.tmp 8), none, 0⟩,
  ⟨(some 53), .move (.tmp 8), none, 0⟩,
  ⟨(some 54), .indexAddr 88 (.tmp 7) (.tmp 53), none, 0⟩,
  ⟨(some 55), .load 5 (.tmp 54), none, 0⟩,
  ⟨(some 56), .call { callee := .value (.func 38), args := #[.tmp 55], argTypes := #[5] }, none, 0⟩,
  ⟨(some 57), .indexAddr 88 (.tmp 7) (.tmp 52), none, 0⟩,
  ⟨none, .store 5 (.tmp 57) (.tmp 56), none, 0⟩]
def L47r18 : List AOp := [
  ⟨(some 58), .binOp .add 3 (.tmp 49) (.const (.int .i64 1)) 3, none, 0⟩,
  ⟨(some 49), .move (.tmp 58), none, 0⟩]
def L47r19 : List AOp := [
  ⟨(some 59), .move (.tmp 6), none, 0⟩,
  ⟨(some 60), .binOp .rem 3 (.tmp 59) (.const (.int .i64 8)) 3, none, 0⟩,
  ⟨(some 61), .binOp .eql 3 (.tmp 60) (.const (.int .i64 0)) 3, none, 0⟩]
def L47r20 : List AOp := [
  ⟨(some 62), .indexAddr 88 (.tmp 7) (.const (.int .i64 0)), none, 0⟩,
  ⟨(some 63), .load 5 (.tmp 62), none, 0⟩,
  ⟨(some 64), .move (.tmp 5), none, 0⟩,
  ⟨(some 65), .binOp .xor 5 (.tmp 63) (.tmp 64) 5, none, 0⟩,
  ⟨(some 66), .indexAddr 88 (.tmp 7) (.const (.int .i64 0)), none, 0⟩,
  ⟨none, .store 5 (.tmp 66) (.tmp 65), none, 0⟩]
def L47r21 : List AOp := [
  ⟨(some 67), .move (.tmp 5), none, 0⟩,
  ⟨(some 68), .call { callee := .value (.func 25), args := #[.tmp 67, .const (.int .u8 2)], argTypes := #[5, 5] }, none, 0⟩,
  ⟨(some 5), .assign (.tmp 68), none, 0⟩]
def L47r22 : List AOp := [
  ⟨(some 69), .move (.const (.int .i64 0)), none, 0⟩]
def L47r23 : List AOp := [
  ⟨(some 70), .binOp .lss 3 (.tmp 69) (.const (.int .i64 4)) 3, none, 0⟩]
def L47r24 : List AOp := [
  ⟨(some 71), .move (.tmp 69), none, 0⟩,
  ⟨(some 9), .assign (.tmp 71), none, 0⟩]
def L47r25 : List AOp := [
  ⟨(some 72), .move (.tmp 6), none, 0⟩,
  ⟨(some 73), .move (.tmp 9), none, 0⟩,
  ⟨(some 74), .move (.tmp 6), none, 0⟩,
  ⟨(some 75), .binOp .sub 3 (.tmp 74) (.const (.int .i64 8)) 3, none, 4⟩,
  ⟨(some 76), .move (.tmp 9), none, 0⟩,
  ⟨(some 77), .indexAddr 89 (.tmp 4) (.tmp 75), none, 12⟩,
  ⟨(some 78), .indexAddr 88 (.tmp 77) (.tmp 76), none, 60⟩,
  ⟨(some 79), .load 5 (.tmp 78), none, 124⟩,
  ⟨(some 80), .move (.tmp 9), none, 0⟩,
  ⟨(some 81), .indexAddr 88 (.tmp 7) (.tmp 80), none, 256⟩,
  ⟨(some 82), .load 5 (.tmp 81), none, 768⟩,
  ⟨(some 83), .binOp .xor 5 (.tmp 79) (.tmp 82) 5, none, 2044⟩,
  ⟨(some 84), .indexAddr 89 (.tmp 4) (.tmp 72), none, 1⟩,
  ⟨(some 85), .indexAddr 88 (.tmp 84) (.tmp 73), none, 1267650600228229401496703213567⟩,
  ⟨none, .store 5 (.tmp 85) (.tmp 83), none, 1267650600228229401496703221759⟩]
def L47r26 : List AOp := [
  ⟨(some 86), .binOp .add 3 (.tmp 69) (.const (.int .i64 1)) 3, none, 0⟩,
  ⟨(some 69), .move (.tmp 86), none, 0⟩]
def L47r27 : List AOp := [
  ⟨(some 87), .binOp .add 3 (.tmp 17) (.const (.int .i64 1)) 3, none, 0⟩,
  ⟨(some 17), .move (.tmp 87), none, 0⟩]
def L47r28 : List AOp := [
  ⟨(some 88), .makeSlice 56 (.const (.int .i64 15)) (.const (.int .i64 15)), none, 0⟩,
  ⟨(some 10), .assign (.tmp 88), none, 0⟩]
def L47r29 : List AOp := [
  ⟨(some 89), .move (.tmp 10), none, 0⟩,
  ⟨(some 90), .call { callee := .builtin .len, args := #[.tmp 89], argTypes := #[56] }, none, 0⟩,
  ⟨(some 91), .move (.const (.int .i64 0)), none, 0⟩]
def L47r30 : List AOp := [
  ⟨(some 92), .binOp .lss 3 (.tmp 91) (.tmp 90) 3, none, 0⟩]
def L47r31 : List AOp := [
  ⟨(some 93), .move (.tmp 91), none, 0⟩,
  ⟨(some 11), .assign (.tmp 93), none, 0⟩]
def L47r32 : List AOp := [
  ⟨(some 94), .move (.const (.int .i64 0)), none, 0⟩]
def L47r33 : List AOp := [
  ⟨(some 95), .binOp .lss 3 (.tmp 94) (.const (.int .i64 16)) 3, none, 0⟩]
def L47r34 : List AOp := [
  ⟨(some 96), .move (.tmp 94), none, 0⟩,
  ⟨(some 12), .assign (.tmp 96), none, 0⟩]
def L47r35 : List AOp := [
  ⟨(some 97), .move (.tmp 10), none, 0⟩,
  ⟨(some 98), .move (.tmp 11), none, 0⟩,
  ⟨(some 99), .move (.tmp 12), none, 0⟩,
  ⟨(some 100), .move (.tmp 11), none, 0⟩,
  ⟨(some 101), .binOp .mul 3 (.const (.int .i64 4)) (.tmp 100) 3, none, 8⟩,
  ⟨(some 102), .move (.tmp 12), none, 0⟩,
  ⟨(some 103), .binOp .quo 3 (.tmp 102) (.const (.int .i64 4)) 3, none, 32⟩,
  ⟨(some 104), .binOp .add 3 (.tmp 101) (.tmp 103) 3, none, 120⟩,
  ⟨(some 105), .move (.tmp 12), none, 0⟩,
  ⟨(some 106), .binOp .rem 3 (.tmp 105) (.const (.int .i64 4)) 3, none, 256⟩,
  ⟨(some 107), .indexAddr 89 (.tmp 4) (.tmp 104), none, 248⟩,
  ⟨(some 108), .indexAddr 88 (.tmp 107) (.tmp 106), none, 2040⟩,
  ⟨(some 109), .load 5 (.tmp 108), none, 4088⟩,
  ⟨(some 110), .indexAddr 56 (.tmp 97) (.tmp 98), none, 3⟩,
  ⟨(some 111), .indexAddr 22 (.tmp 110) (.tmp 99), none, 1267650600228229401496703221759⟩,
  ⟨none, .store 5 (.tmp 111) (.tmp 109), none, 1267650600228229401496703238143⟩]
def L47r36 : List AOp := [
  ⟨(some 112), .binOp .add 3 (.tmp 94) (.const (.int .i64 1)) 3, none, 0⟩,
  ⟨(some 94), .move (.tmp 112), none, 0⟩]
def L47r37 : List AOp := [
  ⟨(some 113), .binOp .add 3 (.tmp 91) (.const (.int .i64 1)) 3, none, 0⟩,
  ⟨(some 91), .move (.tmp 113), none, 0⟩]
def L47r38 : List AOp := [
  ⟨(some 114), .move (.tmp 10), none, 0⟩,
  ⟨(some 2), .assign (.tmp 114), none, 0⟩,
  ⟨(some 3), .assign (.const .nilIface), none, 0⟩]
def L47 : LC := (.seq (.region L47r0) (.seq (.seq (.region L47r1) (.cond (.tmp 15) (.seq (.region L47r2) .ret) .skip)) (.seq (.region L47r3) (.seq (.region L47r4) (.seq (.seq (.region L47r5) (.block 0 (.loop (.seq (.region L47r6) (.seq (.cond (.tmp 18) .skip (.exit 0)) (.seq (.block 1 (.seq (.region L47r7) (.seq (.seq (.region L47r8) (.cond (.tmp 21) (.seq (.region L47r9) (.exit 1)) .skip)) (.seq (.region L47r10) (.seq (.seq (.region L47r11) (.cond (.tmp 36) (.region L47r12) .skip)) (.seq (.seq (.region L47r13) (.cond (.tmp 48) (.seq (.region L47r14) (.block 2 (.loop (.seq (.region L47r15) (.seq (.cond (.tmp 50) .skip (.exit 2)) (.seq (.block 3 (.seq (.region L47r16) (.region L47r17))) (.region L47r18))))))) .skip)) (.seq (.seq (.region L47r19) (.cond (.tmp 61) (.seq (.region L47r20) (.region L47r21)) .skip)) (.seq (.region L47r22) (.block 4 (.loop (.seq (.region L47r23) (.seq (.cond (.tmp 70) .skip (.exit 4)) (.seq (.block 5 (.seq (.region L47r24) (.regionD L47r25))) (.region L47r26)))))))))))))) (.region L47r27))))))) (.seq (.region L47r28) (.seq (.seq (.region L47r29) (.block 6 (.loop (.seq (.region L47r30) (.seq (.cond (.tmp 92) .skip (.exit 6)) (.seq (.block 7 (.seq (.region L47r31) (.seq (.region L47r32) (.block 8 (.loop (.seq (.region L47r33) (.seq (.cond (.tmp 95) .skip (.exit 8)) (.seq (.block 9 (.seq (.region L47r34) (.regionD L47r35))) (.region L47r36))))))))) (.region L47r37))))))) (.seq (.region L47r38) .ret))))))))
theorem nt47 : Try.f47.ntmps = 115 := by kernel_rfl
theorem rs47 : Try.f47.results.toList = [.tmp 2, .tmp 3] := by kernel_rfl
theorem lite47 : Try.f47.body.map (lite okDraw) = some L47 := by kernel_rfl
def L50r0 : List AOp := [
  ⟨(some 3), .box 22 (.tmp 1), none, 0⟩,
  ⟨(some 4), .alloc 22, none, 0⟩,
  ⟨(some 5), .assign (.const .nilIface), none, 0⟩]
def L50r1 : List AOp := [
  ⟨(some 12), .move (.tmp 0), none, 0⟩,
  ⟨(some 13), .call { callee := .value (.func 47), args := #[.tmp 12], argTypes := #[27] }, none, 0⟩,
  ⟨(some 11), .move (.tmp 13), none, 0⟩,
  ⟨(some 14), .extract (.tmp 11) 0, none, 0⟩,
  ⟨(some 15), .extract (.tmp 11) 1, none, 0⟩,
  ⟨(some 6), .assign (.tmp 14), none, 0⟩,
  ⟨(some 7), .assign (.tmp 15), none, 0⟩]
def L50r2 : List AOp := [
  ⟨(some 16), .move (.tmp 7), none, 0⟩,
  ⟨(some 17), .binOp .neq 38 (.tmp 16) (.const .nilIface) 38, none, 0⟩]
def L50r3 : List AOp := [
  ⟨(some 18), .build 22 #[], none, 0⟩,
  ⟨(some 19), .move (.tmp 7), none, 0⟩,
  ⟨none, .store 22 (.tmp 4) (.tmp 18), none, 0⟩,
  ⟨(some 5), .assign (.tmp 19), none, 0⟩]
def L50r4 : List AOp := [
  ⟨(some 20), .load 22 (.tmp 3), none, 0⟩,
  ⟨(some 21), .move (.tmp 6), none, 0⟩,
  ⟨(some 22), .indexAddr 56 (.tmp 21) (.const (.int .i64 0)), none, 2⟩,
  ⟨(some 23), .load 22 (.tmp 22), none, 6⟩,
  ⟨(some 24), .call { callee := .value (.func 69), args := #[.tmp 20, .tmp 23], argTypes := #[22, 22] }, none, 15⟩,
  ⟨(some 8), .alloc 22, none, 0⟩,
  ⟨none, .store 22 (.tmp 8) (.tmp 24), none, 1267650600228229401496703205439⟩]
def L50r5 : List AOp := [
  ⟨(some 9), .assign (.const (.int .i64 1)), none, 0⟩]
def L50r6 : List AOp := [
  ⟨(some 25), .move (.tmp 9), none, 0⟩,
  ⟨(some 26), .binOp .leq 3 (.tmp 25) (.const (.int .i64 14)) 3, none, 0⟩]
def L50r8 : List AOp := [
  ⟨(some 29), .move (.const (.int .i64 0)), none, 0⟩]
def L50r9 : List AOp := [
  ⟨(some 30), .binOp .lss 3 (.tmp 29) (.const (.int .i64 16)) 3, none, 0⟩]
def L50r10 : List AOp := [
  ⟨(some 31), .move (.tmp 29), none, 0⟩,
  ⟨(some 10), .assign (.tmp 31), none, 0⟩]
def L50r11 : List AOp := [
  ⟨(some 32), .move (.tmp 10), none, 0⟩,
  ⟨(some 33), .move (.tmp 10), none, 0⟩,
  ⟨(some 34), .indexAddr 22 (.tmp 8) (.tmp 33), none, 0⟩,
  ⟨(some 35), .load 5 (.tmp 34), none, 0⟩,
  ⟨(some 36), .call { callee := .value (.func 38), args := #[.tmp 35], argTypes := #[5] }, none, 0⟩,
  ⟨(some 37), .indexAddr 22 (.tmp 8) (.tmp 32), none, 0⟩,
  ⟨none, .store 5 (.tmp 37) (.tmp 36), none, 0⟩]
def L50r12 : List AOp := [
  ⟨(some 38), .binOp .add 3 (.tmp 29) (.const (.int .i64 1)) 3, none, 0⟩,
  ⟨(some 29), .move (.tmp 38), none, 0⟩]
def L50r13 : List AOp := [
  ⟨(some 39), .load 22 (.tmp 8), none, 0⟩,
  ⟨(some 40), .call { callee := .value (.func 23), args := #[.tmp 39], argTypes := #[22] }, none, 0⟩,
  ⟨none, .store 22 (.tmp 8) (.tmp 40), none, 0⟩]
def L50r14 : List AOp := [
  ⟨(some 41), .move (.tmp 9), none, 0⟩,
  ⟨(some 42), .binOp .lss 3 (.tmp 41) (.const (.int .i64 14)) 3, none, 0⟩]
def L50r15 : List AOp := [
  ⟨(some 43), .load 22 (.tmp 8), none, 0⟩,
  ⟨(some 44), .call { callee := .value (.func 36), args := #[.tmp 43], argTypes := #[22] }, none, 0⟩,
  ⟨none, .store 22 (.tmp 8) (.tmp 44), none, 0⟩]
def L50r16 : List AOp := [
  ⟨(some 45), .load 22 (.tmp 8), none, 0⟩,
  ⟨(some 46), .move (.tmp 6), none, 0⟩,
  ⟨(some 47), .move (.tmp 9), none, 0⟩,
  ⟨(some 48), .indexAddr 56 (.tmp 46) (.tmp 47), none, 6⟩,
  ⟨(some 49), .load 22 (.tmp 48), none, 14⟩,
  ⟨(some 50), .call { callee := .value (.func 69), args := #[.tmp 45, .tmp 49], argTypes := #[22, 22] }, none, 1267650600228229401496703205407⟩,
  ⟨none, .store 22 (.tmp 8) (.tmp 50), none, 1267650600228229401496703205439⟩]
def L50r7 : List AOp := [
  ⟨(some 27), .move (.tmp 9), none, 0⟩,
  ⟨(some 28), .binOp .add 3 (.tmp 27) (.const (.int .i64 1)) 3, none, 0⟩,
  ⟨(some 9), .assign (.tmp 28), none, 0⟩]
def L50r17 : List AOp := [
  ⟨(some 51), .load 22 (.tmp 8), none, 0⟩,
  ⟨none, .store 22 (.tmp 4) (.tmp 51), none, 0⟩,
  ⟨(some 5), .assign (.const .nilIface), none, 0⟩]
def L50 : LC := (.seq (.region L50r0) (.seq (.region L50r1) (.seq (.seq (.region L50r2) (.cond (.tmp 17) (.seq (.region L50r3) .ret) .skip)) (.seq (.regionD L50r4) (.seq (.seq (.region L50r5) (.block 0 (.loop (.seq (.seq (.region L50r6) (.cond (.tmp 26) .skip (.exit 0))) (.seq (.block 1 (.seq (.seq (.region L50r8) (.block 2 (.loop (.seq (.region L50r9) (.seq (.cond (.tmp 30) .skip (.exit 2)) (.seq (.block 3 (.seq (.region L50r10) (.region L50r11))) (.region L50r12))))))) (.seq (.region L50r13) (.seq (.seq (.region L50r14) (.cond (.tmp 42) (.region L50r15) .skip)) (.regionD L50r16))))) (.region L50r7)))))) (.seq (.region L50r17) .ret))))))
theorem nt50 : Try.f50.ntmps = 52 := by kernel_rfl
theorem rs50 : Try.f50.results.toList = [.cell 4 22, .tmp 5] := by kernel_rfl
theorem lite50 : Try.f50.body.map (lite okDraw) = some L50 := by kernel_rfl
def L64r0 : List AOp := [
  ⟨(some 5), .assign (.const (.int .u8 0)), none, 0⟩]
def L64r1 : List AOp := [
  ⟨(some 6), .load 3 (.tmp 2), none, 0⟩,
  ⟨(some 7), .binOp .mul 3 (.const (.int .i64 4)) (.tmp 6) 3, none, 0⟩,
  ⟨(some 8), .load 3 (.tmp 3), none, 0⟩,
  ⟨(some 9), .move (.tmp 0), none, 0⟩,
  ⟨(some 10), .binOp .add 3 (.tmp 8) (.tmp 9) 3, none, 0⟩,
  ⟨(some 11), .binOp .rem 3 (.tmp 10) (.const (.int .i64 4)) 3, none, 0⟩,
  ⟨(some 12), .binOp .add 3 (.tmp 7) (.tmp 11) 3, none, 0⟩,
  ⟨(some 13), .indexAddr 22 (.tmp 1) (.tmp 12), none, 0⟩,
  ⟨(some 14), .load 5 (.tmp 13), none, 0⟩,
  ⟨(some 5), .assign (.tmp 14), none, 0⟩]
def L64 : LC := (.seq (.region L64r0) (.seq (.region L64r1) .ret))
theorem nt64 : Try.f64.ntmps = 15 := by kernel_rfl
theorem rs64 : Try.f64.results.toList = [.tmp 5] := by kernel_rfl
theorem lite64 : Try.f64.body.map (lite okDraw) = some L64 := by kernel_rfl
def L65r0 : List AOp := [
  ⟨(some 4), .assign (.const (.int .u8 0)), none, 0⟩]
def L65r1 : List AOp := [
  ⟨(some 6), .move (.tmp 1), none, 0⟩,
  ⟨(some 7), .convert 3 76 (.tmp 6), none, 0⟩,
  ⟨(some 8), .binOp .and 76 (.tmp 7) (.const (.int .u64 7)) 76, none, 0⟩,
  ⟨(some 5), .assign (.tmp 8), none, 0⟩]
def L65r2 : List AOp := [
  ⟨(some 9), .move (.tmp 0), none, 0⟩,
  ⟨(some 10), .move (.tmp 5), none, 0⟩,
  ⟨(some 11), .binOp .shl 5 (.tmp 9) (.tmp 10) 76, none, 0⟩,
  ⟨(some 12), .move (.tmp 0), none, 0⟩,
  ⟨(some 13), .move (.tmp 5), none, 0⟩,
  ⟨(some 14), .binOp .sub 76 (.const (.int .u64 8)) (.tmp 13) 76, none, 0⟩,
  ⟨(some 15), .binOp .shr 5 (.tmp 12) (.tmp 14) 76, none, 0⟩,
  ⟨(some 16), .binOp .or 5 (.tmp 11) (.tmp 15) 5, none, 0⟩,
  ⟨(some 4), .assign (.tmp 16), none, 0⟩]
def L65 : LC := (.seq (.region L65r0) (.seq (.region L65r1) (.seq (.region L65r2) .ret)))
theorem nt65 : Try.f65.ntmps = 17 := by kernel_rfl
theorem rs65 : Try.f65.results.toList = [.tmp 4] := by kernel_rfl
theorem lite65 : Try.f65.body.map (lite okDraw) = some L65 := by kernel_rfl
def L69r0 : List AOp := [
  ⟨(some 2), .box 22 (.tmp 0), none, 0⟩,
  ⟨(some 3), .box 22 (.tmp 1), none, 0⟩,
  ⟨(some 4), .alloc 22, none, 0⟩]
def L69r1 : List AOp := [
  ⟨(some 6), .move (.const (.int .i64 0)), none, 0⟩]
def L69r2 : List AOp := [
  ⟨(some 7), .binOp .lss 3 (.tmp 6) (.const (.int .i64 16)) 3, none, 0⟩]
def L69r3 : List AOp := [
  ⟨(some 8), .move (.tmp 6), none, 0⟩,
  ⟨(some 5), .assign (.tmp 8), none, 0⟩]
def L69r4 : List AOp := [
  ⟨(some 9), .move (.tmp 5), none, 0⟩,
  ⟨(some 10), .indexAddr 22 (.tmp 2) (.tmp 9), none, 1⟩,
  ⟨(some 11), .load 5 (.tmp 10), none, 3⟩,
  ⟨(some 12), .move (.tmp 5), none, 0⟩,
  ⟨(some 13), .indexAddr 22 (.tmp 3) (.tmp 12), none, 8⟩,
  ⟨(some 14), .load 5 (.tmp 13), none, 24⟩,
  ⟨(some 15), .binOp .xor 5 (.tmp 11) (.tmp 14) 5, none, 1267650600228229401496703205439⟩,
  ⟨(some 16), .indexAddr 22 (.tmp 2) (.tmp 9), none, 1267650600228229401496703205503⟩,
  ⟨none, .store 5 (.tmp 16) (.tmp 15), none, 1267650600228229401496703205631⟩]
def L69r5 : List AOp := [
  ⟨(some 17), .binOp .add 3 (.tmp 6) (.const (.int .i64 1)) 3, none, 0⟩,
  ⟨(some 6), .move (.tmp 17), none, 0⟩]
def L69r6 : List AOp := [
  ⟨(some 18), .load 22 (.tmp 2), none, 0⟩,
  ⟨none, .store 22 (.tmp 4) (.tmp 18), none, 0⟩]
def L69 : LC := (.seq (.region L69r0) (.seq (.seq (.region L69r1) (.block 0 (.loop (.seq (.region L69r2) (.seq (.cond (.tmp 7) .skip (.exit 0)) (.seq (.block 1 (.seq (.region L69r3) (.regionD L69r4))) (.region L69r5))))))) (.seq (.region L69r6) .ret)))
theorem nt69 : Try.f69.ntmps = 19 := by kernel_rfl
theorem rs69 : Try.f69.results.toList = [.cell 4 22] := by kernel_rfl
theorem lite69 : Try.f69.body.map (lite okDraw) = some L69 := by kernel_rfl
end Eng


namespace Eng
open Go Go.Proofs Go.ChangeShapes Go.WideShapes Go.ChangeAt Go.RowKit
def B16 (a : List Int) : Prop := a.length = 16 ∧ ∀ x ∈ a, 0 ≤ x ∧ x < 256
def U8 (n : Int) : Prop := 0 ≤ n ∧ n < 256
theorem B16.at {a : List Int} (h : B16 a) (j : Nat) : U8 (a.getD j 0) := by
  rcases Nat.lt_or_ge j a.length with hj | hj
  · rw [List.getD_eq_getElem?_getD, List.getElem?_eq_getElem hj, Option.getD_some]
    exact h.2 _ (List.getElem_mem hj)
  · rw [List.getD_eq_getElem?_getD, List.getElem?_eq_none hj]
    exact ⟨by decide, by decide⟩
theorem own : ownKnob Try.prog.godebug = none := by kernel_rfl
theorem laidOut : laidOutB Try.prog = true := by kernel_rfl
theorem ct22 : Try.prog.cellTypes Try.prog.depth 22 = some (List.replicate 16 5) := by kernel_rfl
theorem co22 : Try.prog.cellsOf 22 = 16 := by kernel_rfl
theorem B16_of {xs : List Int} (hl : xs.length = 16) (h : ∀ x ∈ xs, IntKind.u8.min ≤ x ∧ x ≤ IntKind.u8.max) : B16 xs :=
  ⟨hl, fun x hx => by
    have := h x hx
    have h0 : IntKind.u8.min = 0 := by decide
    have h1 : IntKind.u8.max = 255 := by decide
    omega⟩
theorem U8_of {x : Int} (h : IntKind.u8.min ≤ x ∧ x ≤ IntKind.u8.max) : U8 x := by
  have h0 : IntKind.u8.min = 0 := by decide
  have h1 : IntKind.u8.max = 255 := by decide
  unfold U8; omega
theorem U8L_of {xs : List Int} (h : ∀ x ∈ xs, IntKind.u8.min ≤ x ∧ x ≤ IntKind.u8.max) : U8L xs := fun x hx => U8_of (h x hx)
end Eng


namespace Eng
open Go
/- Bytes as bit vectors. -/
theorem w8_nat (v : BitVec 8) : IntKind.u8.wrap (v.toNat : Int) = (v.toNat : Int) := wrap_u8 (by omega) (by have := v.isLt; omega)
theorem ofInt8_toNat {x : Int} (h0 : 0 ≤ x) (h1 : x < 256) : (BitVec.ofInt 8 x).toNat = x.toNat := ofInt_toNat h0 (by omega)
theorem ofInt8_bv (v : BitVec 8) : BitVec.ofInt 8 (v.toNat : Int) = v := by
  apply BitVec.eq_of_toNat_eq
  rw [ofInt8_toNat (by omega) (by have := v.isLt; omega)]; simp
theorem bv8_ofInt {x : Int} (h0 : 0 ≤ x) (h1 : x < 256) : ((BitVec.ofInt 8 x).toNat : Int) = x := by
  rw [ofInt8_toNat h0 h1]; omega
theorem andZ_u8 (a b : Int) : andZ .u8 a b = ((BitVec.ofInt 8 a &&& BitVec.ofInt 8 b).toNat : Int) := w8_nat _
theorem orZ_u8 (a b : Int) : orZ .u8 a b = ((BitVec.ofInt 8 a ||| BitVec.ofInt 8 b).toNat : Int) := w8_nat _
theorem xorZ_u8 (a b : Int) : xorZ .u8 a b = ((BitVec.ofInt 8 a ^^^ BitVec.ofInt 8 b).toNat : Int) := w8_nat _
theorem xorZ_u8_bv (a b : BitVec 8) : xorZ .u8 (a.toNat : Int) (b.toNat : Int) = ((a ^^^ b).toNat : Int) := by rw [xorZ_u8, ofInt8_bv, ofInt8_bv]
theorem andZ_u8_bv (a b : BitVec 8) : andZ .u8 (a.toNat : Int) (b.toNat : Int) = ((a &&& b).toNat : Int) := by rw [andZ_u8, ofInt8_bv, ofInt8_bv]
theorem negZ_u8_bv (a : BitVec 8) : IntKind.u8.wrap (0 - (a.toNat : Int)) = ((-a).toNat : Int) := by
  rw [wrap_u8_mod, BitVec.toNat_neg]
  have := a.isLt
  omega
theorem shlZ_u8_bv (a : BitVec 8) (n : Nat) (hn : n < 8) : shlZ .u8 (a.toNat : Int) (n : Int) = ((a <<< n).toNat : Int) := by
  have h : shlZ .u8 (a.toNat : Int) (n : Int) = IntKind.u8.wrap ((a.toNat : Int) * 2 ^ (min (n : Int).toNat 8)) := rfl
  rw [h, wrap_u8_mod, BitVec.toNat_shiftLeft, Nat.shiftLeft_eq, Int.toNat_natCast, Nat.min_eq_left (by omega), Int.natCast_emod, Int.natCast_mul, Int.natCast_pow]
  rfl
theorem shrZ_u8_bv (a : BitVec 8) (n : Nat) (hn : n < 8) : shrZ .u8 (a.toNat : Int) (n : Int) = ((a >>> n).toNat : Int) := by
  have h : shrZ .u8 (a.toNat : Int) (n : Int) = (a.toNat : Int).fdiv (2 ^ (min (n : Int).toNat 8)) := rfl
  rw [h, BitVec.toNat_ushiftRight, Nat.shiftRight_eq_div_pow, Int.toNat_natCast, Nat.min_eq_left (by omega), Int.fdiv_eq_ediv_of_nonneg _ (by exact Int.le_of_lt (Int.pow_pos (by decide))), Int.natCast_ediv, Int.natCast_pow]
  rfl
end Eng


namespace Eng
open Go
set_option linter.unusedSimpArgs false
/-! Products of bytes: plain laws. -/
/-- One doubling in the field of bytes. -/
def xt (v : BitVec 8) : BitVec 8 := (v <<< 1) ^^^ (27#8 &&& -(v >>> 7))
def xtn (v : BitVec 8) : Nat → BitVec 8
  | 0 => v
  | i + 1 => xt (xtn v i)
def prodN (a b : BitVec 8) : Nat → BitVec 8
  | 0 => 0#8
  | i + 1 => prodN a b i ^^^ (xtn a i &&& -((b >>> i) &&& 1#8))
def prod (a b : BitVec 8) : BitVec 8 := prodN a b 8

theorem mask_bit (b : BitVec 8) (i : Nat) : -((b >>> i) &&& 1#8) = if b.getLsbD i then BitVec.allOnes 8 else 0#8 := by
  have h : (b >>> i) &&& 1#8 = if b.getLsbD i then 1#8 else 0#8 := by
    apply BitVec.eq_of_toNat_eq
    rw [BitVec.toNat_and, show (1#8).toNat = 1 from rfl, Nat.and_one_is_mod, BitVec.toNat_ushiftRight, Nat.shiftRight_eq_div_pow]
    have e : b.getLsbD i = decide (b.toNat / 2 ^ i % 2 = 1) := Nat.testBit_eq_decide_div_mod_eq
    rw [e]
    by_cases hh : b.toNat / 2 ^ i % 2 = 1
    · simp [hh]
    · have : b.toNat / 2 ^ i % 2 = 0 := by omega
      simp [this]
  rw [h]
  split <;> rfl
theorem prodN_succ (a b : BitVec 8) (i : Nat) : prodN a b (i + 1) = if b.getLsbD i then prodN a b i ^^^ xtn a i else prodN a b i := by
  rw [prodN, mask_bit]
  split
  · rw [BitVec.and_allOnes]
  · rw [BitVec.and_zero, BitVec.xor_zero]
theorem xt_if (v : BitVec 8) : xt v = if v.getLsbD 7 then (v <<< 1) ^^^ 27#8 else v <<< 1 := by
  have : ∀ n, n < 256 → (xt (BitVec.ofNat 8 n) == if (BitVec.ofNat 8 n).getLsbD 7 then ((BitVec.ofNat 8 n) <<< 1) ^^^ 27#8 else (BitVec.ofNat 8 n) <<< 1) = true := by decide +kernel
  have h := this v.toNat v.isLt
  rw [BitVec.ofNat_toNat, BitVec.setWidth_eq] at h
  exact eq_of_beq h
theorem xt_xor (x y : BitVec 8) : xt (x ^^^ y) = xt x ^^^ xt y := by
  rw [xt_if, xt_if, xt_if, BitVec.getLsbD_xor, BitVec.shiftLeft_xor_distrib]
  generalize x <<< 1 = p
  generalize y <<< 1 = q
  cases x.getLsbD 7 <;> cases y.getLsbD 7 <;> simp only [Bool.false_xor, Bool.xor_false, Bool.true_xor, Bool.not_true, if_true, if_false, Bool.false_eq_true]
  · ac_rfl
  · ac_rfl
  · rw [show p ^^^ 27#8 ^^^ (q ^^^ 27#8) = (p ^^^ q) ^^^ (27#8 ^^^ 27#8) by ac_rfl, BitVec.xor_self, BitVec.xor_zero]
theorem xtn_xor (x y : BitVec 8) : ∀ i, xtn (x ^^^ y) i = xtn x i ^^^ xtn y i
  | 0 => rfl
  | i + 1 => by rw [xtn, xtn, xtn, xtn_xor x y i, xt_xor]
theorem prodN_xor (x y b : BitVec 8) : ∀ i, prodN (x ^^^ y) b i = prodN x b i ^^^ prodN y b i
  | 0 => by simp [prodN]
  | i + 1 => by
    rw [prodN_succ, prodN_succ, prodN_succ, prodN_xor x y b i, xtn_xor]
    split
    · ac_rfl
    · rfl
def lowB (a : BitVec 8) : Nat → BitVec 8
  | 0 => 0#8
  | i + 1 => if a.getLsbD i then lowB a i ^^^ (1#8 <<< i) else lowB a i
theorem lowB_all (a : BitVec 8) : lowB a 8 = a := by
  have : ∀ n, n < 256 → (lowB (BitVec.ofNat 8 n) 8 == BitVec.ofNat 8 n) = true := by decide +kernel
  have h := this a.toNat a.isLt
  rw [BitVec.ofNat_toNat, BitVec.setWidth_eq] at h
  exact eq_of_beq h
theorem tblE : ∀ n, n < 256 → ∀ i, i < 8 → (prodN (1#8 <<< i) (BitVec.ofNat 8 n) 8 == xtn (BitVec.ofNat 8 n) i) = true := by decide +kernel
theorem prod_unit (b : BitVec 8) (i : Nat) (hi : i < 8) : prodN (1#8 <<< i) b 8 = xtn b i := by
  have := tblE b.toNat b.isLt i hi
  rw [BitVec.ofNat_toNat, BitVec.setWidth_eq] at this
  exact eq_of_beq this
theorem prodN_zero (b : BitVec 8) : prodN 0#8 b 8 = 0#8 := by
  have h := prodN_xor 0#8 0#8 b 8
  simpa only [BitVec.xor_self] using h
theorem prod_low (a b : BitVec 8) : ∀ i, i ≤ 8 → prodN (lowB a i) b 8 = prodN b a i
  | 0, _ => by rw [lowB, prodN_zero, prodN]
  | i + 1, h => by
    rw [lowB, prodN_succ b a i]
    split
    · rw [prodN_xor, prod_low a b i (by omega), prod_unit b i (by omega)]
    · exact prod_low a b i (by omega)
theorem prod_comm (a b : BitVec 8) : prod a b = prod b a := by
  have := prod_low a b 8 (Nat.le_refl _)
  rw [lowB_all] at this
  exact this
theorem prod_xor (a b c : BitVec 8) : prod a (b ^^^ c) = prod a b ^^^ prod a c := by
  rw [prod_comm, prod_comm a b, prod_comm a c]; exact prodN_xor b c a 8

/-! Substitutes. -/
def invS (a : BitVec 8) : Nat → BitVec 8 × BitVec 8
  | 0 => (1#8, a)
  | n + 1 => (prod (invS a n).1 (prod (invS a n).2 (invS a n).2), prod (invS a n).2 (invS a n).2)
def inv (a : BitVec 8) : BitVec 8 := (invS a 7).1
def sboxI (v : BitVec 8) : BitVec 8 := v ^^^ v.rotateLeft 1 ^^^ v.rotateLeft 2 ^^^ v.rotateLeft 3 ^^^ v.rotateLeft 4 ^^^ 99#8
def sbox (a : BitVec 8) : BitVec 8 := sboxI (inv a)
end Eng


namespace Eng
open Go

def D32 (l : List Int) : Prop := ∀ x ∈ l, 0 ≤ x ∧ x < 4294967296
theorem D32.at {l : List Int} (h : D32 l) (i : Nat) : 0 ≤ l.getD i 0 ∧ l.getD i 0 < 4294967296 := by
  rcases Nat.lt_or_ge i l.length with hj | hj
  · rw [List.getD_eq_getElem?_getD, List.getElem?_eq_getElem hj, Option.getD_some]
    exact h _ (List.getElem_mem hj)
  · rw [List.getD_eq_getElem?_getD, List.getElem?_eq_none hj]
    exact ⟨by decide, by decide⟩
end Eng


namespace Eng
open Go Go.Proofs
set_option linter.unusedSimpArgs false
set_option linter.unusedVariables false
noncomputable def S25 : List AV → Option Ret := nz (sumOf (fun p : BitVec 8 × BitVec 8 => match p with | (a, b) => True) (fun p : BitVec 8 × BitVec 8 => match p with | (a, b) => [.int .u8 (a.toNat : Nat), .int .u8 (b.toNat : Nat)]) (fun p : BitVec 8 × BitVec 8 => match p with | (a, b) => ⟨.int .u8 ((prod a b).toNat : Nat), none⟩))
theorem S25_eq (a : BitVec 8) (b : BitVec 8)  : S25 [.int .u8 (a.toNat : Nat), .int .u8 (b.toNat : Nat)] = some ⟨.int .u8 ((prod a b).toNat : Nat), none⟩ :=
  sumOf_eq (dom := (fun p : BitVec 8 × BitVec 8 => match p with | (a, b) => True)) (enc := (fun p : BitVec 8 × BitVec 8 => match p with | (a, b) => [.int .u8 (a.toNat : Nat), .int .u8 (b.toNat : Nat)])) (out := (fun p : BitVec 8 × BitVec 8 => match p with | (a, b) => ⟨.int .u8 ((prod a b).toNat : Nat), none⟩)) (a, b) trivial (fun y _ e => by
    obtain ⟨y0, y1⟩ := y
    simp only [List.cons.injEq, AV.int.injEq, Int.ofNat_inj, BitVec.toNat_inj, true_and, and_true] at e
    first | with_reducible rfl | simp only [e] | rfl)
theorem S25_inv {args : List AV} {r : Ret} (h : sumOf (fun p : BitVec 8 × BitVec 8 => match p with | (a, b) => True) (fun p : BitVec 8 × BitVec 8 => match p with | (a, b) => [.int .u8 (a.toNat : Nat), .int .u8 (b.toNat : Nat)]) (fun p : BitVec 8 × BitVec 8 => match p with | (a, b) => ⟨.int .u8 ((prod a b).toNat : Nat), none⟩) args = some r) : ∃ (a : BitVec 8) (b : BitVec 8), (True) ∧ args = [.int .u8 (a.toNat : Nat), .int .u8 (b.toNat : Nat)] ∧ r = ⟨.int .u8 ((prod a b).toNat : Nat), none⟩ := by
  obtain ⟨x, h1, h2, h3⟩ := sumOf_inv h
  obtain ⟨a, b⟩ := x
  exact ⟨a, b, h1, h2.symm, h3⟩


def St25 (a b : BitVec 8) (i : Nat) : AState := { nt := 28, env := [(0, .int .u8 ((xtn a i).toNat : Nat)), (1, .int .u8 (b.toNat : Nat)), (5, .int .u8 ((prodN a b i).toNat : Nat)), (7, .int .i64 i)], mem := [], next := 20 }

theorem and_one8 (v : BitVec 8) : andZ .u8 (v.toNat : Int) 1 = ((v &&& 1#8).toNat : Int) := andZ_u8_bv v 1#8
theorem and_278 (v : BitVec 8) : andZ .u8 27 (v.toNat : Int) = ((27#8 &&& v).toNat : Int) := andZ_u8_bv 27#8 v
theorem shl_one8 (v : BitVec 8) : shlZ .u8 (v.toNat : Int) 1 = ((v <<< 1).toNat : Int) := shlZ_u8_bv v 1 (by decide)
theorem shr_seven8 (v : BitVec 8) : shrZ .u8 (v.toNat : Int) 7 = ((v >>> 7).toNat : Int) := shrZ_u8_bv v 7 (by decide)

set_option maxRecDepth 100000 in
theorem snd25 : SndE Try.prog NoG 25 S25 := by
  refine snd_nz (snd_by [] [] Try.func25 (by kernel_rfl) lite25 nt25 rs25 trivial trivial (fun hT args r h => ?_))
  obtain ⟨a, b, _, rfl, rfl⟩ := S25_inv h
  clear h
  have hM := hM0
  refine ⟨Nat.le_of_ble_eq_true rfl, fun F => ?_⟩
  unfold L25
  refine Lwp.seq (Lwp.regI hT ?_)
  simp only [L25r0, go_sem, eq_self, Nat.reduceLT, decide_true]
  refine Lwp.seq (Lwp.regI hT ?_)
  simp only [L25r1, go_sem, eq_self, Nat.reduceAdd, Nat.reduceLT, decide_true]
  refine Lwp.seq ?_
  refine Lwp.seq (Lwp.regI hT ?_)
  simp only [L25r2, go_sem, eq_self, Nat.reduceAdd, Nat.reduceLT, decide_true]
  refine Lwp.block (Lwp.range (St25 a b) 8 ?_ (fun i hi => ?_) ?_)
  · refine weak_of rfl ?_ ?_ ?_
    · (simp only [go_sem, eq_self, Nat.reduceEqDiff, reduceCtorEq, St25, xtn, prodN]; try rfl)
    · (simp only [go_sem, St25, xtn, prodN]; try rfl)
    · (simp only [go_sem, eq_self, St25, xtn, prodN]; try rfl)
  · have h1 : (i : Int) < 8 := by omega
    have h2 : ¬ (i : Int) < 0 := by omega
    have h4 := wrap_succ hi (by decide)
    have e1 := shrZ_u8_bv b i hi
    unfold St25
    refine Lwp.seq (Lwp.regI hT ?_)
    simp only [L25r3, go_sem, eq_self, Nat.reduceAdd, Nat.reduceLT, Nat.reduceEqDiff, reduceCtorEq, decide_true, h1]
    refine Lwp.seq (Lwp.cond rfl (fun _ => Lwp.skip ?_) (fun h => by cases h))
    refine Lwp.seq (Lwp.block ?_)
    refine Lwp.seq (Lwp.regI hT ?_)
    simp only [L25r4, go_sem, eq_self, Nat.reduceAdd, Nat.reduceLT, Nat.reduceEqDiff, reduceCtorEq, decide_true]
    refine Lwp.seq (Lwp.regI hT ?_)
    simp only [L25r5, go_sem, eq_self, Nat.reduceAdd, Nat.reduceLT, Nat.reduceEqDiff, reduceCtorEq, decide_true, h2, e1, and_one8, negZ_u8_bv, andZ_u8_bv, xorZ_u8_bv]
    refine Lwp.regI hT ?_
    simp only [L25r6, go_sem, eq_self, Nat.reduceAdd, Nat.reduceLT, Nat.reduceEqDiff, Int.reduceLT, reduceCtorEq, decide_true, shl_one8, shr_seven8, negZ_u8_bv, and_278, xorZ_u8_bv]
    refine Lwp.regI hT ?_
    simp only [L25r7, go_sem, eq_self, Nat.reduceAdd, Nat.reduceLT, Nat.reduceEqDiff, reduceCtorEq, decide_true, h4]
    refine weak_of rfl ?_ ?_ ?_
    · (simp only [go_sem, eq_self, Nat.reduceEqDiff, reduceCtorEq, xtn, xt, prodN]; try rfl)
    · (simp only [go_sem]; try rfl)
    · (simp only [go_sem, eq_self]; try rfl)
  · unfold St25
    refine Lwp.seq (Lwp.regI hT ?_)
    simp only [L25r3, go_sem, eq_self, Nat.reduceAdd, Nat.reduceLT, Nat.reduceEqDiff, Int.reduceLT, reduceCtorEq, decide_true, decide_false]
    refine Lwp.seq (Lwp.cond rfl (fun h => by cases h) (fun _ => Lwp.exit ?_))
    simp only [go_sem, eq_self]
    refine Lwp.seq (Lwp.regI hT ?_)
    simp only [L25r8, go_sem, eq_self, Nat.reduceAdd, Nat.reduceLT, Nat.reduceEqDiff, reduceCtorEq, decide_true]
    refine Lwp.ret (post_val (v := .int .u8 ((prod a b).toNat : Nat)) ?_ ?_)
    · simp only [go_sem, eq_self, Nat.reduceEqDiff, reduceCtorEq, prod]
    · simp only [go_sem, eq_self]
end Eng


namespace Eng
open Go Go.Proofs
set_option linter.unusedSimpArgs false
set_option linter.unusedVariables false
/-! States of 16 bytes. -/
abbrev St := Nat → BitVec 8
def bl (S : St) : List Int := tab 16 (fun j => ((S j).toNat : Int))
def sb (s : List Int) : St := fun j => BitVec.ofInt 8 (s.getD j 0)
theorem bl_len (S : St) : (bl S).length = 16 := tab_len _ _
theorem bl_at (S : St) {j : Nat} (h : j < 16) : (bl S).getD j 0 = ((S j).toNat : Int) := tab_getD _ _ h
theorem bl_B16 (S : St) : B16 (bl S) := ⟨bl_len S, fun x hx => by
  simp only [bl, tab, List.mem_map] at hx
  obtain ⟨j, _, rfl⟩ := hx
  have := (S j).isLt
  omega⟩
theorem bl_of {s : List Int} (h : B16 s) : bl (sb s) = s := (eq_tab h.1 fun i _ => (bv8_ofInt (h.at i).1 (h.at i).2).symm).symm
theorem bl_congr {S R : St} (h : ∀ j, j < 16 → S j = R j) : bl S = bl R := tab_ext fun j hj => by rw [h j hj]
theorem sb_bl (S : St) {j : Nat} (h : j < 16) : sb (bl S) j = S j := by
  show BitVec.ofInt 8 ((bl S).getD j 0) = S j
  rw [bl_at S h, ofInt8_bv]

/-! Columns mixed. -/
theorem p3_tbl : ∀ n, n < 256 → (prod 3#8 (BitVec.ofNat 8 n) == prod 2#8 (BitVec.ofNat 8 n) ^^^ BitVec.ofNat 8 n) = true := by decide +kernel
theorem p3_eq (x : BitVec 8) : prod 3#8 x = prod 2#8 x ^^^ x := by
  have := p3_tbl x.toNat x.isLt
  rw [BitVec.ofNat_toNat, BitVec.setWidth_eq] at this
  exact eq_of_beq this
def mixC (a b c d : BitVec 8) : BitVec 8 := prod 2#8 a ^^^ prod 3#8 b ^^^ c ^^^ d
theorem xx (x y : BitVec 8) : x ^^^ (x ^^^ y) = y := by rw [← BitVec.xor_assoc, BitVec.xor_self, BitVec.zero_xor]
theorem xlc (x y z : BitVec 8) : x ^^^ (y ^^^ z) = y ^^^ (x ^^^ z) := by rw [← BitVec.xor_assoc, BitVec.xor_comm x y, BitVec.xor_assoc]
theorem mix_two (a b c d : BitVec 8) : mixC (mixC a b c d) (mixC b c d a) (mixC c d a b) (mixC d a b c) = prod 2#8 (prod 2#8 a) ^^^ a ^^^ prod 2#8 (prod 2#8 c) := by
  simp only [mixC, p3_eq, prod_xor]
  generalize prod 2#8 (prod 2#8 a) = a4
  generalize prod 2#8 (prod 2#8 b) = b4
  generalize prod 2#8 (prod 2#8 c) = c4
  generalize prod 2#8 (prod 2#8 d) = d4
  generalize prod 2#8 a = a2
  generalize prod 2#8 b = b2
  generalize prod 2#8 c = c2
  generalize prod 2#8 d = d2
  simp only [BitVec.xor_assoc, BitVec.xor_comm, xlc, BitVec.xor_self, BitVec.xor_zero, xx]
def mixS (S : St) : St := fun j => mixC (S (4 * (j / 4) + j % 4)) (S (4 * (j / 4) + (j % 4 + 1) % 4)) (S (4 * (j / 4) + (j % 4 + 2) % 4)) (S (4 * (j / 4) + (j % 4 + 3) % 4))
theorem mixS_congr {S R : St} (h : ∀ j, j < 16 → S j = R j) : ∀ j, j < 16 → mixS S j = mixS R j := fun j hj => by
  unfold mixS
  rw [h _ (by omega), h _ (by omega), h _ (by omega), h _ (by omega)]
def mixed (s : List Int) : List Int := bl (mixS (sb s))
theorem mixed_bl (S : St) : mixed (bl S) = bl (mixS S) := bl_congr (mixS_congr fun j hj => sb_bl S hj)
theorem mixS_at (S : St) (c r : Nat) (hr : r < 4) : mixS S (4 * c + r) = mixC (S (4 * c + r)) (S (4 * c + (r + 1) % 4)) (S (4 * c + (r + 2) % 4)) (S (4 * c + (r + 3) % 4)) := by
  unfold mixS
  rw [show (4 * c + r) / 4 = c by omega, show (4 * c + r) % 4 = r by omega]
theorem mixS_two (S : St) (c r : Nat) (hr : r < 4) : mixS (mixS S) (4 * c + r) = prod 2#8 (prod 2#8 (S (4 * c + r))) ^^^ S (4 * c + r) ^^^ prod 2#8 (prod 2#8 (S (4 * c + (r + 2) % 4))) := by
  rw [mixS_at _ c r hr, mixS_at S c r hr, mixS_at S c _ (Nat.mod_lt _ (by decide)), mixS_at S c _ (Nat.mod_lt _ (by decide)), mixS_at S c _ (Nat.mod_lt _ (by decide))]
  have e1 : ((r + 1) % 4 + 1) % 4 = (r + 2) % 4 := by omega
  have e2 : ((r + 1) % 4 + 2) % 4 = (r + 3) % 4 := by omega
  have e3 : ((r + 1) % 4 + 3) % 4 = r := by omega
  have e4 : ((r + 2) % 4 + 1) % 4 = (r + 3) % 4 := by omega
  have e5 : ((r + 2) % 4 + 2) % 4 = r := by omega
  have e6 : ((r + 2) % 4 + 3) % 4 = (r + 1) % 4 := by omega
  have e7 : ((r + 3) % 4 + 1) % 4 = r := by omega
  have e8 : ((r + 3) % 4 + 2) % 4 = (r + 1) % 4 := by omega
  have e9 : ((r + 3) % 4 + 3) % 4 = (r + 2) % 4 := by omega
  rw [e1, e2, e3, e4, e5, e6, e7, e8, e9, mix_two]
theorem mixS_four (S : St) : ∀ j, j < 16 → mixS (mixS (mixS (mixS S))) j = S j := by
  intro j hj
  obtain ⟨c, r, hr, rfl⟩ : ∃ c r, r < 4 ∧ j = 4 * c + r := ⟨j / 4, j % 4, by omega, by omega⟩
  rw [mixS_two _ c r hr, mixS_two S c r hr, mixS_two S c _ (Nat.mod_lt _ (by decide)), show ((r + 2) % 4 + 2) % 4 = r by omega]
  generalize S (4 * c + r) = a
  generalize S (4 * c + (r + 2) % 4) = b
  simp only [prod_xor]
  generalize prod 2#8 (prod 2#8 (prod 2#8 (prod 2#8 a))) = a16
  generalize prod 2#8 (prod 2#8 (prod 2#8 (prod 2#8 b))) = b16
  generalize prod 2#8 (prod 2#8 a) = a4
  generalize prod 2#8 (prod 2#8 b) = b4
  simp only [BitVec.xor_assoc, BitVec.xor_comm, xlc, BitVec.xor_self, BitVec.xor_zero, xx]
theorem mixed_four {s : List Int} (h : B16 s) : mixed (mixed (mixed (mixed s))) = s := by
  rw [← bl_of h, mixed_bl, mixed_bl, mixed_bl, mixed_bl]
  exact bl_congr (mixS_four _)
theorem mixed_B16 (s : List Int) : B16 (mixed s) := bl_B16 _
theorem mixed_len (s : List Int) : (mixed s).length = 16 := bl_len _

noncomputable def S64 : List AV → Option Ret := nz (sumOf (fun p : List Int × Nat × Nat × Nat => match p with | (s, c, ro, k) => (B16 s) ∧ (c < 4) ∧ (ro < 4) ∧ (k < 4)) (fun p : List Int × Nat × Nat × Nat => match p with | (s, c, ro, k) => [.int .i64 k, .iptr (ints .u8 s) 0, .iptr [.int .i64 c] 0, .iptr [.int .i64 ro] 0]) (fun p : List Int × Nat × Nat × Nat => match p with | (s, c, ro, k) => ⟨.int .u8 (s.getD (4 * c + (ro + k) % 4) 0), none⟩))
theorem S64_eq (s : List Int) (c : Nat) (ro : Nat) (k : Nat) (h0 : B16 s) (h1 : c < 4) (h2 : ro < 4) (h3 : k < 4) : S64 [.int .i64 k, .iptr (ints .u8 s) 0, .iptr [.int .i64 c] 0, .iptr [.int .i64 ro] 0] = some ⟨.int .u8 (s.getD (4 * c + (ro + k) % 4) 0), none⟩ :=
  sumOf_eq (dom := (fun p : List Int × Nat × Nat × Nat => match p with | (s, c, ro, k) => (B16 s) ∧ (c < 4) ∧ (ro < 4) ∧ (k < 4))) (enc := (fun p : List Int × Nat × Nat × Nat => match p with | (s, c, ro, k) => [.int .i64 k, .iptr (ints .u8 s) 0, .iptr [.int .i64 c] 0, .iptr [.int .i64 ro] 0])) (out := (fun p : List Int × Nat × Nat × Nat => match p with | (s, c, ro, k) => ⟨.int .u8 (s.getD (4 * c + (ro + k) % 4) 0), none⟩)) (s, c, ro, k) ⟨h0, h1, h2, h3⟩ (fun y _ e => by
    obtain ⟨y0, y1, y2, y3⟩ := y
    simp only [List.cons.injEq, AV.int.injEq, AV.iptr.injEq, ints_injEq, Int.ofNat_inj, true_and, and_true] at e
    first | with_reducible rfl | simp only [e] | rfl)
theorem S64_inv {args : List AV} {r : Ret} (h : sumOf (fun p : List Int × Nat × Nat × Nat => match p with | (s, c, ro, k) => (B16 s) ∧ (c < 4) ∧ (ro < 4) ∧ (k < 4)) (fun p : List Int × Nat × Nat × Nat => match p with | (s, c, ro, k) => [.int .i64 k, .iptr (ints .u8 s) 0, .iptr [.int .i64 c] 0, .iptr [.int .i64 ro] 0]) (fun p : List Int × Nat × Nat × Nat => match p with | (s, c, ro, k) => ⟨.int .u8 (s.getD (4 * c + (ro + k) % 4) 0), none⟩) args = some r) : ∃ (s : List Int) (c : Nat) (ro : Nat) (k : Nat), ((B16 s) ∧ (c < 4) ∧ (ro < 4) ∧ (k < 4)) ∧ args = [.int .i64 k, .iptr (ints .u8 s) 0, .iptr [.int .i64 c] 0, .iptr [.int .i64 ro] 0] ∧ r = ⟨.int .u8 (s.getD (4 * c + (ro + k) % 4) 0), none⟩ := by
  obtain ⟨x, h1, h2, h3⟩ := sumOf_inv h
  obtain ⟨s, c, ro, k⟩ := x
  exact ⟨s, c, ro, k, h1, h2.symm, h3⟩


set_option maxRecDepth 100000 in
theorem snd64 : SndE Try.prog NoG 64 S64 := by
  refine snd_nz (snd_by [] [] Try.func64 (by kernel_rfl) lite64 nt64 rs64 trivial trivial (fun hT args r h => ?_))
  obtain ⟨s, c, ro, k, ⟨hd0, hd1, hd2, hd3⟩, rfl, rfl⟩ := S64_inv h
  clear h
  have hM := hM0
  refine ⟨Nat.le_of_ble_eq_true rfl, fun F => ?_⟩
  unfold L64
  have hl := hd0.1
  have e1 : IntKind.i64.wrap (4 * (c : Int)) = 4 * (c : Int) := wrap_i64 (by omega) (by omega)
  have e2 : IntKind.i64.wrap ((ro : Int) + (k : Int)) = (ro : Int) + (k : Int) := wrap_i64 (by omega) (by omega)
  have e3 : ((ro : Int) + (k : Int)).tmod 4 = (((ro + k) % 4 : Nat) : Int) := by rw [Int.tmod_eq_emod_of_nonneg (by omega)]; omega
  have e4 : IntKind.i64.wrap (4 * (c : Int) + (((ro + k) % 4 : Nat) : Int)) = ((4 * c + (ro + k) % 4 : Nat) : Int) := by rw [wrap_i64 (by omega) (by omega)]; omega
  have k1 : (0 : Int) ≤ ((4 * c + (ro + k) % 4 : Nat) : Int) := by omega
  have k2 : ((4 * c + (ro + k) % 4 : Nat) : Int) < 16 := by omega
  have k3 : 4 * c + (ro + k) % 4 < 16 := by omega
  have k4 : 4 * c + (ro + k) % 4 ≤ 15 := by omega
  refine Lwp.seq (Lwp.regI hT ?_)
  simp only [L64r0, go_sem, eq_self, Nat.reduceAdd, Nat.reduceLT, decide_true]
  generalize 4 * c + (ro + k) % 4 = q at *
  refine Lwp.seq (Lwp.regI hT ?_)
  simp only [L64r1, go_sem, eq_self, Nat.reduceAdd, Nat.reduceLT, Nat.reduceLeDiff, Nat.reduceEqDiff, Int.reduceEq, reduceCtorEq, decide_true, Bool.false_eq_true, ty3, ty5, ty22, e1, e2, e3, e4, k1, k2, k3, k4, hl, List.getD_cons_zero]
  refine Lwp.ret (post_val (v := .int .u8 (s.getD q 0)) ?_ ?_)
  · simp only [go_sem, eq_self, Nat.reduceEqDiff, reduceCtorEq]
  · simp only [go_sem, eq_self]
end Eng


namespace Eng
open Go Go.Proofs
set_option linter.unusedSimpArgs false
set_option linter.unusedVariables false
def mixI (s : List Int) (j : Nat) : Int := ((mixS (sb s) j).toNat : Int)
noncomputable def S36 : List AV → Option Ret := nz (sumOf (fun p : List Int => match p with | s => (B16 s)) (fun p : List Int => match p with | s => [.agg (ints .u8 s)]) (fun p : List Int => match p with | s => ⟨.agg (ints .u8 (mixed s)), none⟩))
theorem S36_eq (s : List Int) (h0 : B16 s) : S36 [.agg (ints .u8 s)] = some ⟨.agg (ints .u8 (mixed s)), none⟩ :=
  sumOf_eq (dom := (fun p : List Int => match p with | s => (B16 s))) (enc := (fun p : List Int => match p with | s => [.agg (ints .u8 s)])) (out := (fun p : List Int => match p with | s => ⟨.agg (ints .u8 (mixed s)), none⟩)) s h0 (fun y _ e => by
    simp only [List.cons.injEq, AV.agg.injEq, ints_injEq, and_true] at e
    first | with_reducible rfl | simp only [e] | rfl)
theorem S36_inv {args : List AV} {r : Ret} (h : sumOf (fun p : List Int => match p with | s => (B16 s)) (fun p : List Int => match p with | s => [.agg (ints .u8 s)]) (fun p : List Int => match p with | s => ⟨.agg (ints .u8 (mixed s)), none⟩) args = some r) : ∃ (s : List Int), ((B16 s)) ∧ args = [.agg (ints .u8 s)] ∧ r = ⟨.agg (ints .u8 (mixed s)), none⟩ := by
  obtain ⟨x, h1, h2, h3⟩ := sumOf_inv h
  exact ⟨x, h1, h2.symm, h3⟩


def St36 (s : List Int) (c : Nat) : AState := { nt := 35, env := [(1, .own 0 0), (2, .own 1 0), (3, .own 2 0), (7, .int .i64 c)], mem := [(0, ints .u8 s), (1, ints .u8 (List.replicate 16 0)), (2, ints .u8 (upto 16 (mixI s) (4 * c)))], next := 20 }
def St36i (s : List Int) (c ro : Nat) : AState := { nt := 35, env := [(1, .own 0 0), (2, .own 1 0), (3, .own 2 0), (4, .own 22 0), (7, .int .i64 c), (10, .int .i64 ro)], mem := [(0, ints .u8 s), (1, ints .u8 (List.replicate 16 0)), (2, ints .u8 (upto 16 (mixI s) (4 * c + ro))), (22, [.int .i64 c])], next := 40 }

theorem prod_int (x : Int) (hx : 0 ≤ x ∧ x < 256) (k : BitVec 8) : S25 [.int .u8 (k.toNat : Nat), .int .u8 x] = some ⟨.int .u8 ((prod k (BitVec.ofInt 8 x)).toNat : Nat), none⟩ := by
  have h := S25_eq k (BitVec.ofInt 8 x)
  rw [bv8_ofInt hx.1 hx.2] at h
  exact h
theorem xorZ_mix (a b : BitVec 8) (x : Int) (hx : 0 ≤ x ∧ x < 256) : xorZ .u8 (a.toNat : Int) x = ((a ^^^ BitVec.ofInt 8 x).toNat : Int) := by
  rw [xorZ_u8, ofInt8_bv]

set_option maxRecDepth 100000 in
theorem snd36 : SndE Try.prog NoG 36 S36 := by
  refine snd_nz (snd_by [(25, S25), (64, S64)] [] Try.func36 (by kernel_rfl) lite36 nt36 rs36 ⟨snd25, snd64, trivial⟩ trivial (fun hT args r h => ?_))
  obtain ⟨s, hd0, rfl, rfl⟩ := S36_inv h
  clear h
  have hM := hM0
  refine ⟨Nat.le_of_ble_eq_true rfl, fun F => ?_⟩
  unfold L36
  have hl := hd0.1
  refine Lwp.seq (Lwp.regI hT ?_)
  simp only [L36r0, go_sem, eq_self, Nat.reduceAdd, Nat.reduceLT, reduceCtorEq, decide_true, ty22]
  refine Lwp.seq (Lwp.regI hT ?_)
  simp only [L36r1, go_sem, eq_self, Nat.reduceAdd, Nat.reduceLT, Nat.reduceEqDiff, reduceCtorEq, decide_true, ty22]
  refine Lwp.seq ?_
  refine Lwp.seq (Lwp.regI hT ?_)
  simp only [L36r2, go_sem, eq_self, Nat.reduceAdd, Nat.reduceLT, decide_true]
  refine Lwp.block (Lwp.range (St36 s) 4 ?_ (fun c hc => ?_) ?_)
  · refine weak_of rfl ?_ ?_ ?_
    · (simp only [go_sem, eq_self, Nat.reduceMul, Nat.reduceEqDiff, reduceCtorEq, St36, upto_zero]; try rfl)
    · (simp only [go_sem, eq_self, Nat.reduceMul, Nat.reduceEqDiff, reduceCtorEq, St36, upto_zero]; try rfl)
    · (simp only [go_sem, eq_self, Nat.reduceMul, Nat.reduceEqDiff, reduceCtorEq, St36, upto_zero]; try rfl)
  · have h1 : (c : Int) < 4 := by omega
    have h4 := wrap_succ hc (by decide)
    unfold St36
    refine Lwp.seq (Lwp.regI hT ?_)
    simp only [L36r3, go_sem, eq_self, Nat.reduceAdd, Nat.reduceLT, Nat.reduceEqDiff, decide_true, h1]
    refine Lwp.seq (Lwp.cond rfl (fun _ => Lwp.skip ?_) (fun h => by cases h))
    simp only [go_sem]
    refine Lwp.seq (Lwp.block ?_)
    refine Lwp.seq (Lwp.regI hT ?_)
    simp only [L36r4, go_sem, eq_self, Nat.reduceAdd, Nat.reduceLT, Nat.reduceLeDiff, Nat.reduceEqDiff, reduceCtorEq, decide_true, ty3]
    refine Lwp.seq (Lwp.regI hT ?_)
    simp only [L36r5, go_sem, eq_self, Nat.reduceAdd, Nat.reduceLT, decide_true]
    refine Lwp.block (Lwp.range (St36i s c) 4 ?_ (fun ro hr => ?_) ?_)
    · refine weak_of rfl ?_ ?_ ?_
      · (simp only [go_sem, eq_self, Nat.reduceEqDiff, St36i]; try rfl)
      · (simp only [go_sem, eq_self, Nat.reduceEqDiff, reduceCtorEq, St36i]; try rfl)
      · (simp only [go_sem, eq_self, Nat.reduceEqDiff, reduceCtorEq, St36i]; try rfl)
    · have g1 : (ro : Int) < 4 := by omega
      have g4 := wrap_succ hr (by decide)
      have f0 : S64 [.int .i64 0, .iptr (ints .u8 s) 0, .iptr [.int .i64 c] 0, .iptr [.int .i64 ro] 0] = some ⟨.int .u8 (s.getD (4 * c + (ro + 0) % 4) 0), none⟩ := S64_eq s c ro 0 hd0 hc hr (by decide)
      have f1 : S64 [.int .i64 1, .iptr (ints .u8 s) 0, .iptr [.int .i64 c] 0, .iptr [.int .i64 ro] 0] = some ⟨.int .u8 (s.getD (4 * c + (ro + 1) % 4) 0), none⟩ := S64_eq s c ro 1 hd0 hc hr (by decide)
      have f2 : S64 [.int .i64 2, .iptr (ints .u8 s) 0, .iptr [.int .i64 c] 0, .iptr [.int .i64 ro] 0] = some ⟨.int .u8 (s.getD (4 * c + (ro + 2) % 4) 0), none⟩ := S64_eq s c ro 2 hd0 hc hr (by decide)
      have f3 : S64 [.int .i64 3, .iptr (ints .u8 s) 0, .iptr [.int .i64 c] 0, .iptr [.int .i64 ro] 0] = some ⟨.int .u8 (s.getD (4 * c + (ro + 3) % 4) 0), none⟩ := S64_eq s c ro 3 hd0 hc hr (by decide)
      rw [Nat.add_zero, Nat.mod_eq_of_lt hr] at f0
      have p0 : S25 [.int .u8 2, .int .u8 (s.getD (4 * c + ro) 0)] = _ := prod_int _ (hd0.at (4 * c + ro)) 2#8
      have p1 : S25 [.int .u8 3, .int .u8 (s.getD (4 * c + (ro + 1) % 4) 0)] = _ := prod_int _ (hd0.at (4 * c + (ro + 1) % 4)) 3#8
      have v0 := bl_B16 (mixS (sb s))
      have e1 : IntKind.i64.wrap (4 * (c : Int)) = 4 * (c : Int) := wrap_i64 (by omega) (by omega)
      have e2 : IntKind.i64.wrap (4 * (c : Int) + (ro : Int)) = ((4 * c + ro : Nat) : Int) := by rw [wrap_i64 (by omega) (by omega)]; omega
      have k4 : (0 : Int) ≤ ((4 * c + ro : Nat) : Int) := by omega
      have k5 : ((4 * c + ro : Nat) : Int) < 16 := by omega
      have k6 : 4 * c + ro < 16 := by omega
      have k7 : 4 * c + ro ≤ 15 := by omega
      have x0 := xorZ_u8_bv (prod 2#8 (BitVec.ofInt 8 (s.getD (4 * c + ro) 0))) (prod 3#8 (BitVec.ofInt 8 (s.getD (4 * c + (ro + 1) % 4) 0)))
      have x1 := xorZ_mix (prod 2#8 (BitVec.ofInt 8 (s.getD (4 * c + ro) 0)) ^^^ prod 3#8 (BitVec.ofInt 8 (s.getD (4 * c + (ro + 1) % 4) 0))) 0#8 _ (hd0.at (4 * c + (ro + 2) % 4))
      have x2 := xorZ_mix (prod 2#8 (BitVec.ofInt 8 (s.getD (4 * c + ro) 0)) ^^^ prod 3#8 (BitVec.ofInt 8 (s.getD (4 * c + (ro + 1) % 4) 0)) ^^^ BitVec.ofInt 8 (s.getD (4 * c + (ro + 2) % 4) 0)) 0#8 _ (hd0.at (4 * c + (ro + 3) % 4))
      have h5 := upto_set 16 (mixI s) (4 * c + ro) _ (show ((prod 2#8 (BitVec.ofInt 8 (s.getD (4 * c + ro) 0)) ^^^ prod 3#8 (BitVec.ofInt 8 (s.getD (4 * c + (ro + 1) % 4) 0)) ^^^ BitVec.ofInt 8 (s.getD (4 * c + (ro + 2) % 4) 0) ^^^ BitVec.ofInt 8 (s.getD (4 * c + (ro + 3) % 4) 0)).toNat : Int) = mixI s (4 * c + ro) by rw [mixI, mixS_at _ c ro hr]; rfl)
      unfold St36i
      refine Lwp.seq (Lwp.regI hT ?_)
      simp only [L36r6, go_sem, eq_self, Nat.reduceAdd, Nat.reduceLT, Nat.reduceEqDiff, decide_true, g1]
      refine Lwp.seq (Lwp.cond rfl (fun _ => Lwp.skip ?_) (fun h => by cases h))
      simp only [go_sem]
      refine Lwp.seq (Lwp.block ?_)
      refine Lwp.seq (Lwp.regI hT ?_)
      simp only [L36r7, go_sem, eq_self, Nat.reduceAdd, Nat.reduceLT, Nat.reduceLeDiff, Nat.reduceEqDiff, reduceCtorEq, decide_true, ty3]
      refine Lwp.seq (Lwp.regI hT ?_)
      simp only [L36r8, go_sem, eq_self, Nat.reduceAdd, Nat.reduceLT, Nat.reduceEqDiff, decide_true]
      generalize s.getD (4 * c + (ro + 1) % 4) 0 = y1 at *
      generalize s.getD (4 * c + (ro + 2) % 4) 0 = y2 at *
      generalize s.getD (4 * c + (ro + 3) % 4) 0 = y3 at *
      generalize s.getD (4 * c + ro) 0 = y0 at *
      rw [show 4 * c + ro + 1 = 4 * c + (ro + 1) by omega] at h5
      generalize hq : 4 * c + ro = q at *
      refine Lwp.regD hT hM ?_
      simp only [L36r9, go_sem, List.isEmpty_nil, eq_self, Nat.reduceAdd, Nat.reduceSub, Nat.reduceLT, Nat.reduceLeDiff, Nat.reduceEqDiff, Nat.reduceDiv, Nat.reduceMod, Nat.reducePow, reduceCtorEq, decide_true, decide_false, Bool.false_eq_true, ty3, ty5, ty22, List.getD_cons_zero, e1, e2, k4, k5, k7, f0, f1, f2, f3, p0, p1, x0, x1, x2, upto_len]
      refine Lwp.regI hT ?_
      simp only [L36r10, go_sem, eq_self, Nat.reduceAdd, Nat.reduceLT, Nat.reduceEqDiff, decide_true, g4]
      refine weak_of rfl ?_ ?_ ?_
      · (simp only [go_sem, eq_self, Nat.reduceEqDiff]; try rfl)
      · (simp only [go_sem, eq_self, Nat.reduceEqDiff, reduceCtorEq, h5]; try rfl)
      · (simp only [go_sem, eq_self, Nat.reduceEqDiff, reduceCtorEq]; try rfl)
    · unfold St36i
      refine Lwp.seq (Lwp.regI hT ?_)
      simp only [L36r6, go_sem, eq_self, Nat.reduceAdd, Nat.reduceLT, Nat.reduceEqDiff, Int.reduceLT, decide_true, decide_false]
      refine Lwp.seq (Lwp.cond rfl (fun h => by cases h) (fun _ => Lwp.exit ?_))
      simp only [go_sem, eq_self, Nat.reduceEqDiff, reduceCtorEq]
      refine Lwp.regI hT ?_
      simp only [L36r11, go_sem, eq_self, Nat.reduceAdd, Nat.reduceLT, Nat.reduceEqDiff, decide_true, h4]
      refine weak_of rfl ?_ ?_ ?_
      · (simp only [go_sem, eq_self, Nat.reduceEqDiff]; try rfl)
      · (simp only [go_sem, eq_self, Nat.reduceEqDiff, reduceCtorEq]; try rfl)
      · (simp only [go_sem, eq_self, Nat.reduceEqDiff, reduceCtorEq]; try rfl)
  · unfold St36
    refine Lwp.seq (Lwp.regI hT ?_)
    simp only [L36r3, go_sem, eq_self, Nat.reduceAdd, Nat.reduceMul, Nat.reduceLT, Nat.reduceEqDiff, Int.reduceLT, decide_true, decide_false]
    refine Lwp.seq (Lwp.cond rfl (fun h => by cases h) (fun _ => Lwp.exit ?_))
    simp only [go_sem, eq_self]
    have u1 : upto 16 (mixI s) 16 = mixed s := upto_full _ _
    have u2 := mixed_len s
    refine Lwp.seq (Lwp.regI hT ?_)
    simp only [L36r12, go_sem, eq_self, Nat.reduceAdd, Nat.reduceLT, Nat.reduceLeDiff, Nat.reduceEqDiff, reduceCtorEq, decide_true, ty22, u1, u2]
    refine Lwp.ret (post_val (v := .agg (ints .u8 (mixed s))) ?_ ?_)
    · simp only [go_sem, eq_self, Nat.reduceLT, Nat.reduceLeDiff, Nat.reduceEqDiff, reduceCtorEq, ty22, u2]
    · simp only [go_sem, eq_self]
end Eng


namespace Eng
open Go Go.Proofs
set_option linter.unusedSimpArgs false
set_option linter.unusedVariables false
theorem orZ_u8_bv (a b : BitVec 8) : orZ .u8 (a.toNat : Int) (b.toNat : Int) = ((a ||| b).toNat : Int) := by rw [orZ_u8, ofInt8_bv, ofInt8_bv]
end Eng


namespace Eng
open Go Go.Proofs
set_option linter.unusedSimpArgs false
set_option linter.unusedVariables false
def Bnd (l : List Int) (m : Int) : Prop := ∀ n, 0 ≤ l.getD n 0 ∧ l.getD n 0 ≤ m
theorem Bnd.mono {l : List Int} {m k : Int} (h : Bnd l m) (hk : m ≤ k) : Bnd l k := fun n => ⟨(h n).1, Int.le_trans (h n).2 hk⟩
end Eng


namespace Eng
open Go Go.Proofs
set_option linter.unusedSimpArgs false
set_option linter.unusedVariables false
theorem and7_tbl : ∀ k : Nat, k < 8 → andZ .u64 (k : Int) 7 = (k : Int) := by decide +kernel

noncomputable def S65 : List AV → Option Ret := nz (sumOf (fun p : BitVec 8 × Nat => match p with | (x, k) => (0 < k) ∧ (k < 8)) (fun p : BitVec 8 × Nat => match p with | (x, k) => [.int .u8 (x.toNat : Nat), .int .i64 k]) (fun p : BitVec 8 × Nat => match p with | (x, k) => ⟨.int .u8 ((x.rotateLeft k).toNat : Nat), none⟩))
theorem S65_eq (x : BitVec 8) (k : Nat) (h0 : 0 < k) (h1 : k < 8) : S65 [.int .u8 (x.toNat : Nat), .int .i64 k] = some ⟨.int .u8 ((x.rotateLeft k).toNat : Nat), none⟩ :=
  sumOf_eq (dom := (fun p : BitVec 8 × Nat => match p with | (x, k) => (0 < k) ∧ (k < 8))) (enc := (fun p : BitVec 8 × Nat => match p with | (x, k) => [.int .u8 (x.toNat : Nat), .int .i64 k])) (out := (fun p : BitVec 8 × Nat => match p with | (x, k) => ⟨.int .u8 ((x.rotateLeft k).toNat : Nat), none⟩)) (x, k) ⟨h0, h1⟩ (fun y _ e => by
    obtain ⟨y0, y1⟩ := y
    simp only [List.cons.injEq, AV.int.injEq, Int.ofNat_inj, BitVec.toNat_inj, true_and, and_true] at e
    first | with_reducible rfl | simp only [e] | rfl)
theorem S65_inv {args : List AV} {r : Ret} (h : sumOf (fun p : BitVec 8 × Nat => match p with | (x, k) => (0 < k) ∧ (k < 8)) (fun p : BitVec 8 × Nat => match p with | (x, k) => [.int .u8 (x.toNat : Nat), .int .i64 k]) (fun p : BitVec 8 × Nat => match p with | (x, k) => ⟨.int .u8 ((x.rotateLeft k).toNat : Nat), none⟩) args = some r) : ∃ (x : BitVec 8) (k : Nat), ((0 < k) ∧ (k < 8)) ∧ args = [.int .u8 (x.toNat : Nat), .int .i64 k] ∧ r = ⟨.int .u8 ((x.rotateLeft k).toNat : Nat), none⟩ := by
  obtain ⟨x, h1, h2, h3⟩ := sumOf_inv h
  obtain ⟨x, k⟩ := x
  exact ⟨x, k, h1, h2.symm, h3⟩


set_option maxRecDepth 100000 in
theorem snd65 : SndE Try.prog NoG 65 S65 := by
  refine snd_nz (snd_by [] [] Try.func65 (by kernel_rfl) lite65 nt65 rs65 trivial trivial (fun hT args r h => ?_))
  obtain ⟨x, k, ⟨hd0, hd1⟩, rfl, rfl⟩ := S65_inv h
  clear h
  have hM := hM0
  refine ⟨Nat.le_of_ble_eq_true rfl, fun F => ?_⟩
  unfold L65
  have e1 : IntKind.u64.wrap (k : Int) = k := wrap_u64 (by omega) (by omega)
  have e2 := and7_tbl k hd1
  have e3 : ¬ (k : Int) < 0 := by omega
  have e4 : IntKind.u64.wrap (8 - (k : Int)) = ((8 - k : Nat) : Int) := by rw [wrap_u64 (by omega) (by omega)]; omega
  have e5 : ¬ ((8 - k : Nat) : Int) < 0 := by omega
  have e6 := shlZ_u8_bv x k hd1
  have e7 := shrZ_u8_bv x (8 - k) (by omega)
  have e8 := orZ_u8_bv (x <<< k) (x >>> (8 - k))
  have e9 : x <<< k ||| x >>> (8 - k) = x.rotateLeft k := by
    rw [BitVec.rotateLeft_eq_rotateLeftAux_of_lt hd1]; rfl
  rw [e9] at e8
  generalize 8 - k = m at *
  refine Lwp.seq (Lwp.regI hT ?_)
  simp only [L65r0, go_sem, eq_self, Nat.reduceLT, decide_true]
  refine Lwp.seq (Lwp.regI hT ?_)
  simp only [L65r1, go_sem, eq_self, Nat.reduceAdd, Nat.reduceLT, Nat.reduceEqDiff, reduceCtorEq, decide_true, ty3, ty76, e1, e2]
  refine Lwp.seq (Lwp.regI hT ?_)
  simp only [L65r2, go_sem, eq_self, Nat.reduceAdd, Nat.reduceLT, Nat.reduceEqDiff, reduceCtorEq, decide_true, e3, e4, e5, e6, e7, e8]
  refine Lwp.ret (post_val (v := .int .u8 ((x.rotateLeft k).toNat : Nat)) ?_ ?_)
  · simp only [go_sem, eq_self, Nat.reduceEqDiff, reduceCtorEq]
  · simp only [go_sem, eq_self]

noncomputable def S38 : List AV → Option Ret := nz (sumOf (fun p : BitVec 8 => match p with | a => True) (fun p : BitVec 8 => match p with | a => [.int .u8 (a.toNat : Nat)]) (fun p : BitVec 8 => match p with | a => ⟨.int .u8 ((sbox a).toNat : Nat), none⟩))
theorem S38_eq (a : BitVec 8)  : S38 [.int .u8 (a.toNat : Nat)] = some ⟨.int .u8 ((sbox a).toNat : Nat), none⟩ :=
  sumOf_eq (dom := (fun p : BitVec 8 => match p with | a => True)) (enc := (fun p : BitVec 8 => match p with | a => [.int .u8 (a.toNat : Nat)])) (out := (fun p : BitVec 8 => match p with | a => ⟨.int .u8 ((sbox a).toNat : Nat), none⟩)) a trivial (fun y _ e => by
    simp only [List.cons.injEq, AV.int.injEq, Int.ofNat_inj, BitVec.toNat_inj, true_and, and_true] at e
    first | with_reducible rfl | simp only [e] | rfl)
theorem S38_inv {args : List AV} {r : Ret} (h : sumOf (fun p : BitVec 8 => match p with | a => True) (fun p : BitVec 8 => match p with | a => [.int .u8 (a.toNat : Nat)]) (fun p : BitVec 8 => match p with | a => ⟨.int .u8 ((sbox a).toNat : Nat), none⟩) args = some r) : ∃ (a : BitVec 8), (True) ∧ args = [.int .u8 (a.toNat : Nat)] ∧ r = ⟨.int .u8 ((sbox a).toNat : Nat), none⟩ := by
  obtain ⟨x, h1, h2, h3⟩ := sumOf_inv h
  exact ⟨x, h1, h2.symm, h3⟩


theorem xor99 (v : BitVec 8) : xorZ .u8 (v.toNat : Int) 99 = ((v ^^^ 99#8).toNat : Int) := xorZ_u8_bv v 99#8

set_option maxRecDepth 100000 in
theorem snd38 : SndE Try.prog NoG 38 S38 := by
  refine snd_nz (snd_by [(25, S25), (65, S65)] [] Try.func38 (by kernel_rfl) lite38 nt38 rs38 ⟨snd25, snd65, trivial⟩ trivial (fun hT args r h => ?_))
  obtain ⟨a, _, rfl, rfl⟩ := S38_inv h
  clear h
  have hM := hM0
  refine ⟨Nat.le_of_ble_eq_true rfl, fun F => ?_⟩
  unfold L38
  refine Lwp.seq (Lwp.regI hT ?_)
  simp only [L38r0, go_sem, eq_self, Nat.reduceLT, decide_true]
  refine Lwp.seq (Lwp.regI hT ?_)
  simp only [L38r1, go_sem, eq_self, Nat.reduceAdd, Nat.reduceLT, Nat.reduceEqDiff, reduceCtorEq, decide_true]
  refine Lwp.seq ?_
  refine Lwp.seq (Lwp.regI hT ?_)
  simp only [L38r2, go_sem, eq_self, Nat.reduceAdd, Nat.reduceLT, decide_true]
  refine Lwp.block (Lwp.range (fun n => { nt := 29, env := [(3, .int .u8 ((invS a n).1.toNat : Nat)), (4, .int .u8 ((invS a n).2.toNat : Nat)), (6, .int .i64 n)], mem := [], next := 0 }) 7 ?_ (fun n hn => ?_) ?_)
  · refine weak_of rfl ?_ ?_ ?_
    · (simp only [go_sem, eq_self, Nat.reduceEqDiff, reduceCtorEq, invS]; try rfl)
    · (simp only [go_sem]; try rfl)
    · (simp only [go_sem, eq_self]; try rfl)
  · have h1 : (n : Int) < 7 := by omega
    have h4 := wrap_succ hn (by decide)
    have f1 := S25_eq (invS a n).2 (invS a n).2
    have f2 := S25_eq (invS a n).1 (prod (invS a n).2 (invS a n).2)
    refine Lwp.seq (Lwp.regI hT ?_)
    simp only [L38r3, go_sem, eq_self, Nat.reduceLT, Nat.reduceEqDiff, decide_true, h1]
    refine Lwp.seq (Lwp.cond rfl (fun _ => Lwp.skip ?_) (fun h => by cases h))
    simp only [go_sem]
    refine Lwp.seq (Lwp.block ?_)
    refine Lwp.seq (Lwp.regI hT ?_)
    simp only [L38r4, go_sem, eq_self, Nat.reduceAdd, Nat.reduceLT, Nat.reduceEqDiff, decide_true, f1]
    refine Lwp.regI hT ?_
    simp only [L38r5, go_sem, eq_self, Nat.reduceAdd, Nat.reduceLT, Nat.reduceEqDiff, decide_true, f2]
    refine Lwp.regI hT ?_
    simp only [L38r6, go_sem, eq_self, Nat.reduceAdd, Nat.reduceLT, Nat.reduceEqDiff, decide_true, h4]
    refine weak_of rfl ?_ ?_ ?_
    · (simp only [go_sem, eq_self, Nat.reduceEqDiff, invS]; try rfl)
    · (simp only [go_sem]; try rfl)
    · (simp only [go_sem, eq_self]; try rfl)
  · refine Lwp.seq (Lwp.regI hT ?_)
    simp only [L38r3, go_sem, eq_self, Nat.reduceLT, Nat.reduceEqDiff, Int.reduceLT, decide_true, decide_false]
    refine Lwp.seq (Lwp.cond rfl (fun h => by cases h) (fun _ => Lwp.exit ?_))
    simp only [go_sem, eq_self]
    have e : sbox a = (invS a 7).1 ^^^ (invS a 7).1.rotateLeft 1 ^^^ (invS a 7).1.rotateLeft 2 ^^^ (invS a 7).1.rotateLeft 3 ^^^ (invS a 7).1.rotateLeft 4 ^^^ 99#8 := rfl
    generalize (invS a 7).1 = v at *
    have f1 : S65 [.int .u8 (v.toNat : Nat), .int .i64 1] = some ⟨.int .u8 ((v.rotateLeft 1).toNat : Nat), none⟩ := S65_eq v 1 (by decide) (by decide)
    have f2 : S65 [.int .u8 (v.toNat : Nat), .int .i64 2] = some ⟨.int .u8 ((v.rotateLeft 2).toNat : Nat), none⟩ := S65_eq v 2 (by decide) (by decide)
    have f3 : S65 [.int .u8 (v.toNat : Nat), .int .i64 3] = some ⟨.int .u8 ((v.rotateLeft 3).toNat : Nat), none⟩ := S65_eq v 3 (by decide) (by decide)
    have f4 : S65 [.int .u8 (v.toNat : Nat), .int .i64 4] = some ⟨.int .u8 ((v.rotateLeft 4).toNat : Nat), none⟩ := S65_eq v 4 (by decide) (by decide)
    refine Lwp.seq (Lwp.regI hT ?_)
    simp only [L38r7, go_sem, eq_self, Nat.reduceAdd, Nat.reduceLT, Nat.reduceEqDiff, decide_true, f1, f2, f3, f4, xorZ_u8_bv, xor99]
    refine Lwp.ret (post_val (v := .int .u8 ((sbox a).toNat : Nat)) ?_ ?_)
    · simp only [go_sem, eq_self, Nat.reduceEqDiff, e]
    · simp only [go_sem, eq_self]

end Eng


namespace Eng
open Go Go.Proofs
set_option linter.unusedSimpArgs false
set_option linter.unusedVariables false
def tI (i : Nat) : Nat := (i + 4 * (i % 4)) % 16
def turned (s : List Int) : List Int := tab 16 (fun i => s.getD (tI i) 0)
theorem turned_len (s : List Int) : (turned s).length = 16 := tab_len _ _
theorem tI_lt (i : Nat) : tI i < 16 := Nat.mod_lt _ (by decide)

noncomputable def S23 : List AV → Option Ret := nz (sumOf (fun p : List Int => match p with | s => (B16 s)) (fun p : List Int => match p with | s => [.agg (ints .u8 s)]) (fun p : List Int => match p with | s => ⟨.agg (ints .u8 (turned s)), none⟩))
theorem S23_eq (s : List Int) (h0 : B16 s) : S23 [.agg (ints .u8 s)] = some ⟨.agg (ints .u8 (turned s)), none⟩ :=
  sumOf_eq (dom := (fun p : List Int => match p with | s => (B16 s))) (enc := (fun p : List Int => match p with | s => [.agg (ints .u8 s)])) (out := (fun p : List Int => match p with | s => ⟨.agg (ints .u8 (turned s)), none⟩)) s h0 (fun y _ e => by
    simp only [List.cons.injEq, AV.agg.injEq, ints_injEq, and_true] at e
    first | with_reducible rfl | simp only [e] | rfl)
theorem S23_inv {args : List AV} {r : Ret} (h : sumOf (fun p : List Int => match p with | s => (B16 s)) (fun p : List Int => match p with | s => [.agg (ints .u8 s)]) (fun p : List Int => match p with | s => ⟨.agg (ints .u8 (turned s)), none⟩) args = some r) : ∃ (s : List Int), ((B16 s)) ∧ args = [.agg (ints .u8 s)] ∧ r = ⟨.agg (ints .u8 (turned s)), none⟩ := by
  obtain ⟨x, h1, h2, h3⟩ := sumOf_inv h
  exact ⟨x, h1, h2.symm, h3⟩


def St23 (s : List Int) (i : Nat) : AState := { nt := 20, env := [(1, .own 0 0), (2, .own 1 0), (3, .own 2 0), (5, .int .i64 i)], mem := [(0, ints .u8 s), (1, ints .u8 (List.replicate 16 0)), (2, ints .u8 (upto 16 (fun i => s.getD (tI i) 0) i))], next := 20 }

set_option maxRecDepth 100000 in
theorem snd23 : SndE Try.prog NoG 23 S23 := by
  refine snd_nz (snd_by [] [] Try.func23 (by kernel_rfl) lite23 nt23 rs23 trivial trivial (fun hT args r h => ?_))
  obtain ⟨s, hd0, rfl, rfl⟩ := S23_inv h
  clear h
  have hM := hM0
  refine ⟨Nat.le_of_ble_eq_true rfl, fun F => ?_⟩
  unfold L23
  have hl := hd0.1
  refine Lwp.seq (Lwp.regI hT ?_)
  simp only [L23r0, go_sem, eq_self, Nat.reduceAdd, Nat.reduceLT, reduceCtorEq, decide_true, ty22]
  refine Lwp.seq (Lwp.regI hT ?_)
  simp only [L23r1, go_sem, eq_self, Nat.reduceAdd, Nat.reduceLT, Nat.reduceEqDiff, reduceCtorEq, decide_true, ty22]
  refine Lwp.seq ?_
  refine Lwp.seq (Lwp.regI hT ?_)
  simp only [L23r2, go_sem, eq_self, Nat.reduceAdd, Nat.reduceLT, decide_true]
  refine Lwp.block (Lwp.range (St23 s) 16 ?_ (fun i hi => ?_) ?_)
  · refine weak_of rfl ?_ ?_ ?_
    · (simp only [go_sem, eq_self, Nat.reduceEqDiff, reduceCtorEq, St23, upto_zero]; try rfl)
    · (simp only [go_sem, eq_self, Nat.reduceEqDiff, reduceCtorEq, St23, upto_zero]; try rfl)
    · (simp only [go_sem, eq_self, Nat.reduceEqDiff, reduceCtorEq, St23, upto_zero]; try rfl)
  · have h1 : (i : Int) < 16 := by omega
    have h2 : (0 : Int) ≤ i := by omega
    have h3 : i ≤ 15 := by omega
    have h4 := wrap_succ hi (by decide)
    have e0 : (i : Int).tmod 4 = ((i % 4 : Nat) : Int) := by rw [Int.tmod_eq_emod_of_nonneg (by omega)]; omega
    have e1 : IntKind.i64.wrap (4 * ((i % 4 : Nat) : Int)) = 4 * ((i % 4 : Nat) : Int) := wrap_i64 (by omega) (by omega)
    have e2 : IntKind.i64.wrap ((i : Int) + 4 * ((i % 4 : Nat) : Int)) = (i : Int) + 4 * ((i % 4 : Nat) : Int) := wrap_i64 (by omega) (by omega)
    have e3 : ((i : Int) + 4 * ((i % 4 : Nat) : Int)).tmod 16 = ((tI i : Nat) : Int) := by rw [Int.tmod_eq_emod_of_nonneg (by omega), tI]; omega
    have k1 := tI_lt i
    have k2 : (0 : Int) ≤ (tI i : Nat) := by omega
    have k3 : ((tI i : Nat) : Int) < 16 := by omega
    have h5 := upto_set 16 (fun i => s.getD (tI i) 0) i _ rfl
    unfold St23
    refine Lwp.seq (Lwp.regI hT ?_)
    simp only [L23r3, go_sem, eq_self, Nat.reduceAdd, Nat.reduceLT, Nat.reduceEqDiff, decide_true, h1]
    refine Lwp.seq (Lwp.cond rfl (fun _ => Lwp.skip ?_) (fun h => by cases h))
    refine Lwp.seq (Lwp.block ?_)
    refine Lwp.seq (Lwp.regI hT ?_)
    simp only [L23r4, go_sem, eq_self, Nat.reduceAdd, Nat.reduceLT, Nat.reduceEqDiff, decide_true]
    refine Lwp.regI hT ?_
    simp only [L23r5, go_sem, eq_self, Nat.reduceAdd, Nat.reduceLT, Nat.reduceLeDiff, Nat.reduceEqDiff, Int.reduceEq, reduceCtorEq, decide_true, Bool.false_eq_true, ty5, ty22, h1, h2, h3, e0, e1, e2, e3, k1, k2, k3, hl, upto_len]
    refine Lwp.regI hT ?_
    simp only [L23r6, go_sem, eq_self, Nat.reduceAdd, Nat.reduceLT, Nat.reduceEqDiff, decide_true, h4]
    refine weak_of rfl ?_ ?_ ?_
    · (simp only [go_sem, eq_self, Nat.reduceEqDiff]; try rfl)
    · (simp only [go_sem, eq_self, Nat.reduceEqDiff, reduceCtorEq, h5]; try rfl)
    · (simp only [go_sem, eq_self, Nat.reduceEqDiff, reduceCtorEq]; try rfl)
  · unfold St23
    refine Lwp.seq (Lwp.regI hT ?_)
    simp only [L23r3, go_sem, eq_self, Nat.reduceAdd, Nat.reduceLT, Nat.reduceEqDiff, Int.reduceLT, decide_true, decide_false]
    refine Lwp.seq (Lwp.cond rfl (fun h => by cases h) (fun _ => Lwp.exit ?_))
    simp only [go_sem, eq_self]
    refine Lwp.seq (Lwp.regI hT ?_)
    simp only [L23r7, go_sem, eq_self, Nat.reduceAdd, Nat.reduceLT, Nat.reduceLeDiff, Nat.reduceEqDiff, reduceCtorEq, decide_true, ty22, upto_len]
    refine Lwp.ret (post_val (v := .agg (ints .u8 (turned s))) ?_ ?_)
    · simp only [go_sem, eq_self, Nat.reduceLT, Nat.reduceLeDiff, Nat.reduceEqDiff, reduceCtorEq, ty22, turned, upto_full, tab_len]
    · simp only [go_sem, eq_self]

theorem turned_B16 {s : List Int} (h : B16 s) : B16 (turned s) := ⟨turned_len s, fun x hx => by
  simp only [turned, tab, List.mem_map] at hx
  obtain ⟨j, _, rfl⟩ := hx
  exact h.at _⟩
theorem tI_four : ∀ i, i < 16 → tI (tI (tI (tI i))) = i := by decide
theorem turned_four {s : List Int} (h : s.length = 16) : turned (turned (turned (turned s))) = s := by
  refine (eq_tab h fun i hi => ?_).symm
  unfold turned
  rw [tab_getD _ _ (tI_lt _), tab_getD _ _ (tI_lt _), tab_getD _ _ (tI_lt _)]
  congr 1
  exact (tI_four i hi).symm
end Eng


namespace Eng
open Go Go.Proofs
set_option linter.unusedSimpArgs false
set_option linter.unusedVariables false

/-! The key schedule and a block's code, plainly. -/
def sbI (x : Int) : Int := ((sbox (BitVec.ofInt 8 x)).toNat : Int)
theorem sbI_U8 (x : Int) : 0 ≤ sbI x ∧ sbI x < 256 := by
  unfold sbI
  have := (sbox (BitVec.ofInt 8 x)).isLt
  omega
theorem xI_U8 (a c : Int) : 0 ≤ xorZ .u8 a c ∧ xorZ .u8 a c < 256 := by
  rw [xorZ_u8]
  have := (BitVec.ofInt 8 a ^^^ BitVec.ofInt 8 c).isLt
  omega
theorem tab_U8 (n : Nat) (f : Nat → Int) (h : ∀ j, j < n → 0 ≤ f j ∧ f j < 256) : U8L (tab n f) := fun x hx => by
  obtain ⟨j, hj, rfl⟩ := List.mem_map.1 hx
  exact h j (List.mem_range.1 hj)
theorem U8L.atD {l : List Int} (h : U8L l) (j : Nat) : 0 ≤ l.getD j 0 ∧ l.getD j 0 < 256 := by
  rcases Nat.lt_or_ge j l.length with hj | hj
  · rw [List.getD_eq_getElem?_getD, List.getElem?_eq_getElem hj, Option.getD_some]
    exact h _ (List.getElem_mem hj)
  · rw [List.getD_eq_getElem?_getD, List.getElem?_eq_none hj]
    exact ⟨by decide, by decide⟩
def pw : Nat → BitVec 8
  | 0 => 1#8
  | n + 1 => prod (pw n) 2#8
def xor4 (a b : List Int) : List Int := tab 4 (fun k => xorZ .u8 (a.getD k 0) (b.getD k 0))
def turn4 (t : List Int) : List Int := [t.getD 1 0, t.getD 2 0, t.getD 3 0, t.getD 0 0]
def sub4 (t : List Int) : List Int := tab 4 (fun k => sbI (t.getD k 0))
def pow4 (n : Nat) (t : List Int) : List Int := t.set 0 (xorZ .u8 (t.getD 0 0) ((pw n).toNat : Int))
def tmpW (i : Nat) (t : List Int) : List Int := if i % 8 = 0 then pow4 (i / 8 - 1) (sub4 (turn4 t)) else if i % 8 = 4 then sub4 t else t
def nxt (key : List Int) (i : Nat) (W : List (List Int)) : List Int := if i < 8 then (key.drop (4 * i)).take 4 else xor4 (W.getD (i - 8) []) (tmpW i (W.getD (i - 1) []))
def ws (key : List Int) : Nat → List (List Int)
  | 0 => []
  | i + 1 => ws key i ++ [nxt key i (ws key i)]
def wd (key : List Int) (i : Nat) : List Int := nxt key i (ws key i)
theorem ws_len (key : List Int) : ∀ i, (ws key i).length = i
  | 0 => rfl
  | i + 1 => by rw [ws, List.length_append, ws_len key i]; rfl
theorem ws_getD (key : List Int) {a : Nat} : ∀ {i : Nat}, a < i → (ws key i).getD a [] = wd key a
  | 0, h => absurd h (Nat.not_lt_zero _)
  | i + 1, h => by
    rw [ws, List.getD_eq_getElem?_getD]
    rcases Nat.lt_or_ge a i with h2 | h2
    · rw [List.getElem?_append_left (by rw [ws_len]; exact h2), ← List.getD_eq_getElem?_getD]
      exact ws_getD key h2
    · have e : a = i := by omega
      subst e
      rw [List.getElem?_append_right (by rw [ws_len]; exact Nat.le_refl _), ws_len, Nat.sub_self]
      rfl
theorem wd_lo (key : List Int) {i : Nat} (h : i < 8) : wd key i = (key.drop (4 * i)).take 4 := by unfold wd nxt; rw [if_pos h]
theorem wd_hi (key : List Int) {i : Nat} (h : 8 ≤ i) : wd key i = xor4 (wd key (i - 8)) (tmpW i (wd key (i - 1))) := by
  show nxt key i (ws key i) = _
  unfold nxt
  rw [if_neg (by omega), ws_getD key (by omega), ws_getD key (by omega)]
theorem xor4_len (a b : List Int) : (xor4 a b).length = 4 := tab_len _ _
theorem xor4_U8 (a b : List Int) : U8L (xor4 a b) := tab_U8 _ _ fun _ _ => xI_U8 _ _
theorem wd_len {key : List Int} (hk : key.length = 32) (i : Nat) : (wd key i).length = 4 := by
  rcases Nat.lt_or_ge i 8 with h | h
  · rw [wd_lo key h, List.length_take, List.length_drop]; omega
  · rw [wd_hi key h, xor4_len]
theorem wd_U8 {key : List Int} (hk : U8L key) (i : Nat) : U8L (wd key i) := by
  rcases Nat.lt_or_ge i 8 with h | h
  · rw [wd_lo key h]
    exact fun x hx => hk x (List.mem_of_mem_drop (List.mem_of_mem_take hx))
  · rw [wd_hi key h]; exact xor4_U8 _ _
theorem sub4_len (t : List Int) : (sub4 t).length = 4 := tab_len _ _
theorem pow4_len (n : Nat) (t : List Int) : (pow4 n t).length = t.length := by unfold pow4; rw [List.length_set]
theorem tmpW_len (i : Nat) {t : List Int} (h : t.length = 4) : (tmpW i t).length = 4 := by
  unfold tmpW
  split
  · rw [pow4_len, sub4_len]
  · split
    · rw [sub4_len]
    · exact h
/-- A byte of the words, and as many of them as there are so far. -/
def wv (key : List Int) (j : Nat) : Int := (wd key (j / 4)).getD (j % 4) 0
def wfl (key : List Int) (n : Nat) : List Int := tab 240 (fun j => if j < n then wv key j else 0)
theorem wv_at (key : List Int) {a k : Nat} (h : k < 4) : wv key (4 * a + k) = (wd key a).getD k 0 := by
  unfold wv
  rw [show (4 * a + k) / 4 = a by omega, show (4 * a + k) % 4 = k by omega]
theorem wv_rng {key : List Int} (hk : U8L key) (j : Nat) : 0 ≤ wv key j ∧ wv key j < 256 := (wd_U8 hk _).atD _
theorem wfl_len (key : List Int) (n : Nat) : (wfl key n).length = 240 := tab_len _ _
theorem wfl_zero (key : List Int) : wfl key 0 = List.replicate 240 0 := by
  rw [rep_tab]; exact tab_ext fun j _ => by rw [if_neg (Nat.not_lt_zero _)]
theorem wfl_at (key : List Int) {n j : Nat} (h : j < n) (h2 : n ≤ 240) : (wfl key n).getD j 0 = wv key j := by
  unfold wfl; rw [tab_getD _ _ (by omega), if_pos h]
theorem wfl_set (key : List Int) {n : Nat} (v : Int) (hv : v = wv key n) : (wfl key n).set n v = wfl key (n + 1) := tab_set _ _ _ _ _ fun j hj => by
  by_cases e : j = n
  · subst e; rw [if_pos (by omega), if_pos rfl, hv]
  · rw [if_neg e]
    by_cases h : j < n
    · rw [if_pos h, if_pos (by omega)]
    · rw [if_neg h, if_neg (by omega)]
theorem take_tab (n : Nat) (f : Nat → Int) (o m : Nat) (h : o + m ≤ n) : ((tab n f).drop o).take m = tab m (fun k => f (o + k)) := by
  refine eq_tab (by rw [List.length_take, List.length_drop, tab_len]; omega) fun k hk => ?_
  rw [List.getD_eq_getElem?_getD, List.getElem?_take_of_lt hk, List.getElem?_drop, ← List.getD_eq_getElem?_getD, tab_getD _ _ (by omega)]
theorem wfl_word {key : List Int} (hk : key.length = 32) {n a : Nat} (h : 4 * a + 4 ≤ n) (h2 : n ≤ 240) : ((wfl key n).drop (4 * a)).take 4 = wd key a := by
  unfold wfl
  rw [take_tab _ _ _ _ (by omega)]
  refine (eq_tab (wd_len hk a) fun k hk2 => ?_).symm
  rw [if_pos (by omega), wv_at key hk2]
theorem wfl_put {key : List Int} (hk : key.length = 32) {i : Nat} (h : i < 60) : (wfl key (4 * i)).take (4 * i) ++ wd key i ++ (wfl key (4 * i)).drop (4 * i + 4) = wfl key (4 * (i + 1)) := by
  have hw := wd_len hk i
  have hl := wfl_len key (4 * i)
  refine eq_tab (by rw [List.length_append, List.length_append, List.length_take, List.length_drop]; omega) fun j hj => ?_
  rw [List.getD_eq_getElem?_getD]
  by_cases c1 : j < 4 * i
  · rw [List.getElem?_append_left (by rw [List.length_append, List.length_take]; omega), List.getElem?_append_left (by rw [List.length_take]; omega), List.getElem?_take_of_lt c1, ← List.getD_eq_getElem?_getD, wfl_at key c1 (by omega), if_pos (by omega)]
  · by_cases c2 : j < 4 * i + 4
    · rw [List.getElem?_append_left (by rw [List.length_append, List.length_take]; omega), List.getElem?_append_right (by rw [List.length_take]; omega), List.length_take, show min (4 * i) (wfl key (4 * i)).length = 4 * i by omega, ← List.getD_eq_getElem?_getD, if_pos (by omega)]
      obtain ⟨k, rfl⟩ : ∃ k, j = 4 * i + k := ⟨j - 4 * i, by omega⟩
      rw [wv_at key (by omega), Nat.add_sub_cancel_left]
    · rw [List.getElem?_append_right (by rw [List.length_append, List.length_take]; omega), List.length_append, List.length_take, show min (4 * i) (wfl key (4 * i)).length = 4 * i by omega, hw, List.getElem?_drop, ← List.getD_eq_getElem?_getD, show 4 * i + 4 + (j - (4 * i + 4)) = j by omega]
      unfold wfl
      rw [tab_getD _ _ (by omega), if_neg (by omega), if_neg (by omega)]
/-- A round key. -/
def rk (key : List Int) (i : Nat) : List Int := tab 16 (fun k => wv key (16 * i + k))
theorem rk_len (key : List Int) (i : Nat) : (rk key i).length = 16 := tab_len _ _
theorem rk_B16 {key : List Int} (hk : U8L key) (i : Nat) : B16 (rk key i) := ⟨rk_len key i, tab_U8 _ _ fun _ _ => wv_rng hk _⟩
theorem wfl_rk (key : List Int) {i : Nat} (h : i < 15) : ((wfl key 240).drop (16 * i)).take 16 = rk key i := by
  unfold wfl
  rw [take_tab _ _ _ _ (by omega)]
  exact tab_ext fun k hk => by rw [if_pos (by omega)]
def plusB (s k : List Int) : List Int := tab 16 (fun j => xorZ .u8 (s.getD j 0) (k.getD j 0))
def subB (s : List Int) : List Int := tab 16 (fun j => sbI (s.getD j 0))
def midB (i : Nat) (s : List Int) : List Int := if i < 14 then mixed (turned (subB s)) else turned (subB s)
def encS (key b : List Int) : Nat → List Int
  | 0 => plusB b (rk key 0)
  | i + 1 => plusB (midB (i + 1) (encS key b i)) (rk key (i + 1))
def enc (key b : List Int) : List Int := encS key b 14
theorem plusB_B16 (s k : List Int) : B16 (plusB s k) := ⟨tab_len _ _, tab_U8 _ _ fun _ _ => xI_U8 _ _⟩
theorem subB_B16 (s : List Int) : B16 (subB s) := ⟨tab_len _ _, tab_U8 _ _ fun _ _ => sbI_U8 _⟩
theorem midB_B16 (i : Nat) (s : List Int) : B16 (midB i s) := by
  unfold midB
  split
  · exact mixed_B16 _
  · exact turned_B16 (subB_B16 s)
theorem encS_B16 (key b : List Int) : ∀ i, B16 (encS key b i)
  | 0 => plusB_B16 _ _
  | i + 1 => plusB_B16 _ _
theorem enc_B16 (key b : List Int) : B16 (enc key b) := encS_B16 key b 14

/-! Two blocks have one code only if they are one. -/
def sT : List Nat := [82, 9, 106, 213, 48, 54, 165, 56, 191, 64, 163, 158, 129, 243, 215, 251, 124, 227, 57, 130, 155, 47, 255, 135, 52, 142, 67, 68, 196, 222, 233, 203, 84, 123, 148, 50, 166, 194, 35, 61, 238, 76, 149, 11, 66, 250, 195, 78, 8, 46, 161, 102, 40, 217, 36, 178, 118, 91, 162, 73, 109, 139, 209, 37, 114, 248, 246, 100, 134, 104, 152, 22, 212, 164, 92, 204, 93, 101, 182, 146, 108, 112, 72, 80, 253, 237, 185, 218, 94, 21, 70, 87, 167, 141, 157, 132, 144, 216, 171, 0, 140, 188, 211, 10, 247, 228, 88, 5, 184, 179, 69, 6, 208, 44, 30, 143, 202, 63, 15, 2, 193, 175, 189, 3, 1, 19, 138, 107, 58, 145, 17, 65, 79, 103, 220, 234, 151, 242, 207, 206, 240, 180, 230, 115, 150, 172, 116, 34, 231, 173, 53, 133, 226, 249, 55, 232, 28, 117, 223, 110, 71, 241, 26, 113, 29, 41, 197, 137, 111, 183, 98, 14, 170, 24, 190, 27, 252, 86, 62, 75, 198, 210, 121, 32, 154, 219, 192, 254, 120, 205, 90, 244, 31, 221, 168, 51, 136, 7, 199, 49, 177, 18, 16, 89, 39, 128, 236, 95, 96, 81, 127, 169, 25, 181, 74, 13, 45, 229, 122, 159, 147, 201, 156, 239, 160, 224, 59, 77, 174, 42, 245, 176, 200, 235, 187, 60, 131, 83, 153, 97, 23, 43, 4, 126, 186, 119, 214, 38, 225, 105, 20, 99, 85, 33, 12, 125]
theorem sT_tbl : ∀ n, n < 256 → (sT.getD (sbox (BitVec.ofNat 8 n)).toNat 0 == n) = true := by decide +kernel
theorem sbox_inj {x y : BitVec 8} (h : sbox x = sbox y) : x = y := by
  have h1 := eq_of_beq (sT_tbl x.toNat x.isLt)
  have h2 := eq_of_beq (sT_tbl y.toNat y.isLt)
  rw [BitVec.ofNat_toNat, BitVec.setWidth_eq] at h1 h2
  exact BitVec.eq_of_toNat_eq (by rw [← h1, ← h2, h])
theorem ofInt8_inj {x y : Int} (hx : U8 x) (hy : U8 y) (h : BitVec.ofInt 8 x = BitVec.ofInt 8 y) : x = y := by
  rw [← bv8_ofInt hx.1 hx.2, ← bv8_ofInt hy.1 hy.2, h]
theorem sbI_inj {x y : Int} (hx : U8 x) (hy : U8 y) (h : sbI x = sbI y) : x = y := by
  unfold sbI at h
  exact ofInt8_inj hx hy (sbox_inj (BitVec.eq_of_toNat_eq (by omega)))
theorem xI_inj {x y k : Int} (hx : U8 x) (hy : U8 y) (h : xorZ .u8 x k = xorZ .u8 y k) : x = y := by
  rw [xorZ_u8, xorZ_u8] at h
  have e : BitVec.ofInt 8 x ^^^ BitVec.ofInt 8 k = BitVec.ofInt 8 y ^^^ BitVec.ofInt 8 k := BitVec.eq_of_toNat_eq (by omega)
  exact ofInt8_inj hx hy ((BitVec.xor_left_inj _).1 e)
theorem B16_ext {a b : List Int} (ha : B16 a) (hb : B16 b) (h : ∀ j, j < 16 → a.getD j 0 = b.getD j 0) : a = b := by
  rw [eq_tab ha.1 h]; exact (eq_tab hb.1 fun j _ => rfl).symm
theorem plusB_inj {a b k : List Int} (ha : B16 a) (hb : B16 b) (h : plusB a k = plusB b k) : a = b := B16_ext ha hb fun j hj => by
  have e := congrArg (fun l => List.getD l j 0) h
  simp only [plusB, tab_getD _ _ hj] at e
  exact xI_inj (ha.at j) (hb.at j) e
theorem subB_inj {a b : List Int} (ha : B16 a) (hb : B16 b) (h : subB a = subB b) : a = b := B16_ext ha hb fun j hj => by
  have e := congrArg (fun l => List.getD l j 0) h
  simp only [subB, tab_getD _ _ hj] at e
  exact sbI_inj (ha.at j) (hb.at j) e
theorem turned_inj {a b : List Int} (ha : B16 a) (hb : B16 b) (h : turned a = turned b) : a = b := by
  rw [← turned_four ha.1, ← turned_four hb.1, h]
theorem mixed_inj {a b : List Int} (ha : B16 a) (hb : B16 b) (h : mixed a = mixed b) : a = b := by
  rw [← mixed_four ha, ← mixed_four hb, h]
theorem midB_inj {i : Nat} {a b : List Int} (ha : B16 a) (hb : B16 b) (h : midB i a = midB i b) : a = b := by
  unfold midB at h
  split at h
  · exact subB_inj ha hb (turned_inj (subB_B16 a) (subB_B16 b) (mixed_inj (turned_B16 (subB_B16 a)) (turned_B16 (subB_B16 b)) h))
  · exact subB_inj ha hb (turned_inj (subB_B16 a) (subB_B16 b) h)
theorem encS_inj {key a b : List Int} (ha : B16 a) (hb : B16 b) : ∀ i, encS key a i = encS key b i → a = b
  | 0, h => plusB_inj ha hb h
  | i + 1, h => encS_inj ha hb i (midB_inj (encS_B16 key a i) (encS_B16 key b i) (plusB_inj (midB_B16 _ _) (midB_B16 _ _) h))
theorem enc_inj {key a b : List Int} (ha : B16 a) (hb : B16 b) (h : enc key a = enc key b) : a = b := encS_inj ha hb 14 h

/-! The examples: the key of noughts. -/
def zk : List Int := List.replicate 32 0
def W0 : List (List Int) := [[0, 0, 0, 0], [0, 0, 0, 0], [0, 0, 0, 0], [0, 0, 0, 0], [0, 0, 0, 0], [0, 0, 0, 0], [0, 0, 0, 0], [0, 0, 0, 0], [98, 99, 99, 99], [98, 99, 99, 99], [98, 99, 99, 99], [98, 99, 99, 99], [170, 251, 251, 251], [170, 251, 251, 251], [170, 251, 251, 251], [170, 251, 251, 251], [111, 108, 108, 207], [13, 15, 15, 172], [111, 108, 108, 207], [13, 15, 15, 172], [125, 141, 141, 106], [215, 118, 118, 145], [125, 141, 141, 106], [215, 118, 118, 145], [83, 84, 237, 193], [94, 91, 226, 109], [49, 55, 142, 162], [60, 56, 129, 14], [150, 138, 129, 193], [65, 252, 247, 80], [60, 113, 122, 58], [235, 7, 12, 171], [158, 170, 143, 40], [192, 241, 109, 69], [241, 198, 227, 231], [205, 254, 98, 233], [43, 49, 43, 223], [106, 205, 220, 143], [86, 188, 166, 181], [189, 187, 170, 30], [100, 6, 253, 82], [164, 247, 144, 23], [85, 49, 115, 240], [152, 207, 17, 25], [109, 187, 169, 11], [7, 118, 117, 132], [81, 202, 211, 49], [236, 113, 121, 47], [231, 176, 232, 156], [67, 71, 120, 139], [22, 118, 11, 123], [142, 185, 26, 98], [116, 237, 11, 161], [115, 155, 126, 37], [34, 81, 173, 20], [206, 32, 212, 59], [16, 248, 10, 23], [83, 191, 114, 156], [69, 201, 121, 231], [203, 112, 99, 133]]
theorem W0_ok : ∀ i, i < 60 → (nxt zk i (W0.take i) == W0.getD i []) = true := by decide +kernel
theorem ws_zk : ∀ i, i ≤ 60 → ws zk i = W0.take i
  | 0, _ => rfl
  | i + 1, h => by
    have e := eq_of_beq (W0_ok i (by omega))
    have hl : W0.length = 60 := by decide
    rw [ws, ws_zk i (by omega), e, List.take_add_one, List.getElem?_eq_getElem (by omega), List.getD_eq_getElem?_getD, List.getElem?_eq_getElem (by omega)]
    rfl
theorem wd_zk {i : Nat} (h : i < 60) : wd zk i = W0.getD i [] := by
  unfold wd
  rw [ws_zk i (by omega)]
  exact eq_of_beq (W0_ok i h)
def rk0 (i : Nat) : List Int := tab 16 (fun k => (W0.getD ((16 * i + k) / 4) []).getD ((16 * i + k) % 4) 0)
theorem rk_zk {i : Nat} (h : i < 15) : rk zk i = rk0 i := tab_ext fun k hk => by
  unfold wv; rw [wd_zk (by omega)]
def Z0 : List (List Int) := [[0, 0, 0, 0, 0, 0, 0, 0, 0, 0, 0, 0, 0, 0, 0, 0], [99, 99, 99, 99, 99, 99, 99, 99, 99, 99, 99, 99, 99, 99, 99, 99], [153, 152, 152, 152, 153, 152, 152, 152, 153, 152, 152, 152, 153, 152, 152, 152], [167, 21, 21, 94, 167, 21, 21, 94, 167, 21, 21, 94, 167, 21, 21, 94], [61, 49, 51, 155, 95, 82, 80, 248, 61, 49, 51, 155, 95, 82, 80, 248], [177, 181, 244, 66, 71, 205, 228, 103, 177, 181, 244, 66, 71, 205, 228, 103], [62, 162, 105, 145, 36, 221, 49, 114, 92, 193, 10, 242, 70, 190, 82, 17], [84, 138, 161, 181, 36, 187, 33, 107, 248, 44, 183, 51, 95, 242, 121, 177], [154, 109, 79, 128, 92, 49, 57, 105, 190, 167, 206, 97, 244, 18, 108, 189], [227, 224, 215, 180, 135, 2, 38, 220, 44, 245, 194, 248, 97, 165, 39, 47], [239, 131, 238, 25, 250, 245, 110, 5, 53, 216, 137, 124, 211, 186, 41, 167], [2, 29, 33, 136, 143, 185, 15, 132, 34, 188, 92, 154, 128, 126, 230, 214], [79, 67, 92, 238, 64, 179, 62, 102, 135, 91, 107, 101, 54, 5, 76, 151], [39, 186, 159, 47, 43, 179, 100, 126, 200, 125, 16, 106, 21, 145, 99, 6], [220, 149, 192, 120, 162, 64, 137, 137, 173, 72, 162, 20, 146, 132, 32, 135]]
theorem Z0_first : (plusB (List.replicate 16 0) (rk0 0) == Z0.getD 0 []) = true := by decide +kernel
theorem Z0_ok : ∀ i, i < 14 → (plusB (midB (i + 1) (Z0.getD i [])) (rk0 (i + 1)) == Z0.getD (i + 1) []) = true := by decide +kernel
theorem enc_Z0 : ∀ i, i ≤ 14 → encS zk (List.replicate 16 0) i = Z0.getD i []
  | 0, _ => by rw [encS, rk_zk (by omega)]; exact eq_of_beq Z0_first
  | i + 1, h => by rw [encS, rk_zk (by omega), enc_Z0 i (by omega)]; exact eq_of_beq (Z0_ok i (by omega))
theorem enc_zero : enc zk (List.replicate 16 0) = [220, 149, 192, 120, 162, 64, 137, 137, 173, 72, 162, 20, 146, 132, 32, 135] := enc_Z0 14 (Nat.le_refl _)
end Eng


namespace Eng
open Go Go.Proofs
set_option linter.unusedSimpArgs false
set_option linter.unusedVariables false
theorem U8L.at {l : List Int} (h : U8L l) (i : Nat) : 0 ≤ l.getD i 0 ∧ l.getD i 0 < 256 := by
  rcases Nat.lt_or_ge i l.length with hi | hi
  · rw [List.getD_eq_getElem?_getD, List.getElem?_eq_getElem hi, Option.getD_some]
    exact h _ (List.getElem_mem hi)
  · rw [List.getD_eq_getElem?_getD, List.getElem?_eq_none hi]
    exact ⟨by decide, by decide⟩
end Eng


namespace Eng
open Go Go.Proofs
set_option linter.unusedSimpArgs false
set_option linter.unusedVariables false
set_option maxHeartbeats 4000000
/-! Of bytes as whole numbers. -/
theorem S38_I {x : Int} (h : U8 x) : S38 [.int .u8 x] = some ⟨.int .u8 (sbI x), none⟩ := by
  have h1 := S38_eq (BitVec.ofInt 8 x)
  rw [bv8_ofInt h.1 h.2] at h1
  exact h1
theorem S25_pw (n : Nat) : S25 [.int .u8 ((pw n).toNat : Int), .int .u8 2] = some ⟨.int .u8 ((pw (n + 1)).toNat : Int), none⟩ := S25_eq (pw n) 2#8
theorem Lwp.seqW {T : Tab} {F : Fr} {okD : Array Oper → Bool} {Q : AE → AState → Prop} {st : AState} {x y : LC} (st2 : AState) (h1 : Lwp okD T F x (AE.then (fun st' => Weak T F st' st2) Q) st) (h2 : Lwp okD T F y Q st2) : Lwp okD T F (.seq x y) Q st := by
  refine Lwp.seq (Lwp.mono (fun e st' h => ?_) h1)
  cases e with
  | normal => exact Lwp.weaken h h2
  | exit i => exact h
  | ret => exact h

/-! A state, xor a round key. -/
def partP (s k : List Int) (n : Nat) : List Int := tab 16 (fun j => if j < n then xorZ .u8 (s.getD j 0) (k.getD j 0) else s.getD j 0)
theorem partP_len (s k : List Int) (n : Nat) : (partP s k n).length = 16 := tab_len _ _
theorem partP_zero {s : List Int} (k : List Int) (h : s.length = 16) : partP s k 0 = s := (eq_tab h fun j _ => by simp).symm
theorem partP_at (s k : List Int) {n : Nat} (h : n < 16) : (partP s k n).getD n 0 = s.getD n 0 := by unfold partP; rw [tab_getD _ _ h, if_neg (Nat.lt_irrefl _)]
theorem partP_set (s k : List Int) (n : Nat) : (partP s k n).set n (xorZ .u8 (s.getD n 0) (k.getD n 0)) = partP s k (n + 1) := tab_set _ _ _ _ _ fun j _ => by
  by_cases h : j = n
  · subst h; simp
  · by_cases h2 : j < n
    · simp [h, h2, show j < n + 1 by omega]
    · simp [h, h2, show ¬ j < n + 1 by omega]
theorem partP_full (s k : List Int) : partP s k 16 = plusB s k := tab_ext fun j hj => by rw [if_pos hj]
def St69 (s k : List Int) (n : Nat) : AState := { nt := 19, env := [(2, .own 0 0), (3, .own 1 0), (4, .own 2 0), (6, .int .i64 n)], mem := [(0, ints .u8 (partP s k n)), (1, ints .u8 k), (2, ints .u8 (List.replicate 16 0))], next := 20 }
noncomputable def S69 : List AV → Option Ret := nz (sumOf (fun p : List Int × List Int => match p with | (s, k) => (B16 s) ∧ (B16 k)) (fun p : List Int × List Int => match p with | (s, k) => [.agg (ints .u8 s), .agg (ints .u8 k)]) (fun p : List Int × List Int => match p with | (s, k) => ⟨.agg (ints .u8 (plusB s k)), none⟩))
theorem S69_eq (s : List Int) (k : List Int) (h0 : B16 s) (h1 : B16 k) : S69 [.agg (ints .u8 s), .agg (ints .u8 k)] = some ⟨.agg (ints .u8 (plusB s k)), none⟩ :=
  sumOf_eq (dom := (fun p : List Int × List Int => match p with | (s, k) => (B16 s) ∧ (B16 k))) (enc := (fun p : List Int × List Int => match p with | (s, k) => [.agg (ints .u8 s), .agg (ints .u8 k)])) (out := (fun p : List Int × List Int => match p with | (s, k) => ⟨.agg (ints .u8 (plusB s k)), none⟩)) (s, k) ⟨h0, h1⟩ (fun y _ e => by
    obtain ⟨y0, y1⟩ := y
    simp only [List.cons.injEq, AV.agg.injEq, ints_injEq, and_true] at e
    first | with_reducible rfl | simp only [e] | rfl)
theorem S69_inv {args : List AV} {r : Ret} (h : sumOf (fun p : List Int × List Int => match p with | (s, k) => (B16 s) ∧ (B16 k)) (fun p : List Int × List Int => match p with | (s, k) => [.agg (ints .u8 s), .agg (ints .u8 k)]) (fun p : List Int × List Int => match p with | (s, k) => ⟨.agg (ints .u8 (plusB s k)), none⟩) args = some r) : ∃ (s : List Int) (k : List Int), ((B16 s) ∧ (B16 k)) ∧ args = [.agg (ints .u8 s), .agg (ints .u8 k)] ∧ r = ⟨.agg (ints .u8 (plusB s k)), none⟩ := by
  obtain ⟨x, h1, h2, h3⟩ := sumOf_inv h
  obtain ⟨s, k⟩ := x
  exact ⟨s, k, h1, h2.symm, h3⟩

set_option maxRecDepth 100000 in
theorem snd69 : SndE Try.prog NoG 69 S69 := by
  refine snd_nz (snd_by [] [] Try.func69 (by kernel_rfl) lite69 nt69 rs69 trivial trivial (fun hT args r h => ?_))
  obtain ⟨s, k, ⟨hd0, hd1⟩, rfl, rfl⟩ := S69_inv h
  clear h
  have hM := hM0
  refine ⟨Nat.le_of_ble_eq_true rfl, fun F => ?_⟩
  unfold L69
  have hl := hd0.1
  have hl2 := hd1.1
  have p0 := partP_zero k hl
  refine Lwp.seq (Lwp.regI hT ?_)
  simp only [L69r0, go_sem, eq_self, Nat.reduceAdd, Nat.reduceLT, Nat.reduceEqDiff, reduceCtorEq, decide_true, ty22]
  refine Lwp.seq ?_
  refine Lwp.seq (Lwp.regI hT ?_)
  simp only [L69r1, go_sem, eq_self, Nat.reduceAdd, Nat.reduceLT, decide_true]
  refine Lwp.block (Lwp.range (St69 s k) 16 ?_ (fun i hi => ?_) ?_)
  · refine weak_of rfl ?_ ?_ ?_
    · (simp only [go_sem, eq_self, Nat.reduceEqDiff, reduceCtorEq, St69, p0]; try rfl)
    · (simp only [go_sem, eq_self, Nat.reduceEqDiff, reduceCtorEq, St69, p0]; try rfl)
    · (simp only [go_sem, eq_self, Nat.reduceEqDiff, reduceCtorEq, St69, p0]; try rfl)
  · have h1 : (i : Int) < 16 := by omega
    have h2 : (0 : Int) ≤ i := by omega
    have h3 : i ≤ 15 := by omega
    have h4 := wrap_succ hi (by decide)
    have h5 := partP_len s k i
    have h6 := partP_at s k hi
    have h7 := partP_set s k i
    unfold St69
    refine Lwp.seq (Lwp.regI hT ?_)
    simp only [L69r2, go_sem, eq_self, Nat.reduceAdd, Nat.reduceLT, Nat.reduceEqDiff, decide_true, h1]
    refine Lwp.seq (Lwp.cond rfl (fun _ => Lwp.skip ?_) (fun h => by cases h))
    simp only [go_sem]
    refine Lwp.seq (Lwp.block ?_)
    refine Lwp.seq (Lwp.regI hT ?_)
    simp only [L69r3, go_sem, eq_self, Nat.reduceAdd, Nat.reduceLT, Nat.reduceEqDiff, decide_true]
    refine Lwp.regD hT hM ?_
    simp only [L69r4, go_sem, eq_self, Nat.reduceAdd, Nat.reduceSub, Nat.reduceLT, Nat.reduceLeDiff, Nat.reduceEqDiff, Nat.reduceDiv, Nat.reduceMod, Nat.reducePow, reduceCtorEq, decide_true, decide_false, Bool.false_eq_true, ty5, ty22, h1, h2, h3, h5, h6, h7, hl2, hi]
    refine Lwp.regI hT ?_
    simp only [L69r5, go_sem, eq_self, Nat.reduceAdd, Nat.reduceLT, Nat.reduceEqDiff, decide_true, h4]
    refine weak_of rfl ?_ ?_ ?_
    · (simp only [go_sem, eq_self, Nat.reduceEqDiff]; try rfl)
    · (simp only [go_sem, eq_self, Nat.reduceEqDiff, reduceCtorEq]; try rfl)
    · (simp only [go_sem, eq_self, Nat.reduceEqDiff, reduceCtorEq]; try rfl)
  · unfold St69
    have h5 := partP_len s k 16
    have h8 := partP_full s k
    have h9 := (plusB_B16 s k).1
    refine Lwp.seq (Lwp.regI hT ?_)
    simp only [L69r2, go_sem, eq_self, Nat.reduceAdd, Nat.reduceLT, Nat.reduceEqDiff, Int.reduceLT, decide_true, decide_false]
    refine Lwp.seq (Lwp.cond rfl (fun h => by cases h) (fun _ => Lwp.exit ?_))
    simp only [go_sem, eq_self]
    refine Lwp.seq (Lwp.regI hT ?_)
    simp only [L69r6, go_sem, eq_self, Nat.reduceAdd, Nat.reduceLT, Nat.reduceLeDiff, Nat.reduceEqDiff, reduceCtorEq, decide_true, ty22, h5]
    refine Lwp.ret (post_val (v := .agg (ints .u8 (plusB s k))) ?_ ?_)
    · simp only [go_sem, eq_self, Nat.reduceLT, Nat.reduceEqDiff, reduceCtorEq, ty22, h8, h9, Nat.le_refl]
    · simp only [go_sem, eq_self]
end Eng


namespace Eng
open Go Go.Proofs
set_option linter.unusedSimpArgs false
set_option linter.unusedVariables false
set_option maxHeartbeats 4000000
/-! The round keys, as the program makes them. -/
def kyV (key : List Int) : AV := if key.length = 32 then .slc 15 (ints .u8 (wfl key 240)) else .nils
def kyE (key : List Int) : AV := if key.length = 32 then .nili else .iface 41 (.int .i64 1)
theorem kyV_ok {key : List Int} (h : key.length = 32) : kyV key = .slc 15 (ints .u8 (wfl key 240)) := if_pos h
theorem kyE_ok {key : List Int} (h : key.length = 32) : kyE key = .nili := if_pos h
theorem kyV_bad {key : List Int} (h : key.length ≠ 32) : kyV key = .nils := if_neg h
theorem kyE_bad {key : List Int} (h : key.length ≠ 32) : kyE key = .iface 41 (.int .i64 1) := if_neg h
def KyH (key : List Int) (i : Nat) : AState := { nt := 115, env := [(0, .slc 32 (ints .u8 key)), (2, .nils), (3, .nili), (4, .own 5 0), (5, .int .u8 ((pw ((i - 1) / 8)).toNat : Int)), (17, .int .i64 i)], mem := [(5, ints .u8 (wfl key (4 * i)))], next := 100 }
def KyT (key t : List Int) (i p : Nat) : AState := { nt := 115, env := [(0, .slc 32 (ints .u8 key)), (2, .nils), (3, .nili), (4, .own 5 0), (5, .int .u8 ((pw p).toNat : Int)), (6, .int .i64 i), (7, .own 109 0), (17, .int .i64 i)], mem := [(109, ints .u8 t), (5, ints .u8 (wfl key (4 * i)))], next := 200 }
def KyU (key t : List Int) (i p k : Nat) : AState := { nt := 115, env := [(0, .slc 32 (ints .u8 key)), (2, .nils), (3, .nili), (4, .own 5 0), (5, .int .u8 ((pw p).toNat : Int)), (6, .int .i64 i), (7, .own 109 0), (17, .int .i64 i), (49, .int .i64 k)], mem := [(109, ints .u8 t), (5, ints .u8 (wfl key (4 * i)))], next := 200 }
def KyW (key t : List Int) (i p k : Nat) : AState := { nt := 115, env := [(0, .slc 32 (ints .u8 key)), (2, .nils), (3, .nili), (4, .own 5 0), (5, .int .u8 ((pw p).toNat : Int)), (6, .int .i64 i), (7, .own 109 0), (17, .int .i64 i), (69, .int .i64 k)], mem := [(109, ints .u8 t), (5, ints .u8 (wfl key (4 * i + k)))], next := 200 }
def KyO (key : List Int) (i : Nat) : AState := { nt := 115, env := [(3, .nili), (4, .own 5 0), (10, .osl 101 0 15 16), (90, .int .i64 15), (91, .int .i64 i)], mem := [(101, ints .u8 (wfl key (16 * i))), (5, ints .u8 (wfl key 240))], next := 300 }
def KyP (key : List Int) (i k : Nat) : AState := { nt := 115, env := [(3, .nili), (4, .own 5 0), (10, .osl 101 0 15 16), (11, .int .i64 i), (90, .int .i64 15), (91, .int .i64 i), (94, .int .i64 k)], mem := [(101, ints .u8 (wfl key (16 * i + k))), (5, ints .u8 (wfl key 240))], next := 300 }
def subP (t : List Int) (n : Nat) : List Int := tab 4 (fun j => if j < n then sbI (t.getD j 0) else t.getD j 0)
theorem subP_len (t : List Int) (n : Nat) : (subP t n).length = 4 := tab_len _ _
theorem subP_zero {t : List Int} (h : t.length = 4) : subP t 0 = t := (eq_tab h fun j _ => by simp).symm
theorem subP_full (t : List Int) : subP t 4 = sub4 t := tab_ext fun j hj => by rw [if_pos hj]
theorem subP_at (t : List Int) {n : Nat} (h : n < 4) : (subP t n).getD n 0 = t.getD n 0 := by unfold subP; rw [tab_getD _ _ h, if_neg (Nat.lt_irrefl _)]
theorem subP_set (t : List Int) (n : Nat) : (subP t n).set n (sbI (t.getD n 0)) = subP t (n + 1) := tab_set _ _ _ _ _ fun j _ => by
  by_cases h : j = n
  · subst h; simp
  · by_cases h2 : j < n
    · simp [h, h2, show j < n + 1 by omega]
    · simp [h, h2, show ¬ j < n + 1 by omega]
theorem zz16 : zerosA (ints .u8 (List.replicate 16 0)) 15 = ints .u8 (List.replicate 240 0) := by kernel_rfl
theorem tm8 (i : Nat) : (i : Int).tmod 8 = ((i % 8 : Nat) : Int) := by rw [Int.tmod_eq_emod_of_nonneg (by omega)]; omega
theorem tm4 (i : Nat) : (i : Int).tmod 4 = ((i % 4 : Nat) : Int) := by rw [Int.tmod_eq_emod_of_nonneg (by omega)]; omega
theorem td4 (i : Nat) : (i : Int).tdiv 4 = ((i / 4 : Nat) : Int) := by rw [Int.tdiv_eq_ediv_of_nonneg (by omega)]; omega
theorem beq_zero_of {r : Nat} (h : r = 0) : (((r : Nat) : Int) == 0) = true := by subst h; rfl
theorem beq_zero_not {r : Nat} (h : r ≠ 0) : (((r : Nat) : Int) == 0) = false := by simp; omega

noncomputable def S47 : List AV → Option Ret := nz (sumOf (fun p : List Int => match p with | key => (U8L key) ∧ (key.length ≤ 9223372036854775807)) (fun p : List Int => match p with | key => [.slc key.length (ints .u8 key)]) (fun p : List Int => match p with | key => ⟨.tup [kyV key, kyE key], none⟩))
theorem S47_eq (key : List Int) (h0 : U8L key) (h1 : key.length ≤ 9223372036854775807) : S47 [.slc key.length (ints .u8 key)] = some ⟨.tup [kyV key, kyE key], none⟩ :=
  sumOf_eq (dom := (fun p : List Int => match p with | key => (U8L key) ∧ (key.length ≤ 9223372036854775807))) (enc := (fun p : List Int => match p with | key => [.slc key.length (ints .u8 key)])) (out := (fun p : List Int => match p with | key => ⟨.tup [kyV key, kyE key], none⟩)) key ⟨h0, h1⟩ (fun y _ e => by
    simp only [List.cons.injEq, AV.slc.injEq, ints_injEq, and_true] at e
    first | with_reducible rfl | simp only [e] | rfl)
theorem S47_inv {args : List AV} {r : Ret} (h : sumOf (fun p : List Int => match p with | key => (U8L key) ∧ (key.length ≤ 9223372036854775807)) (fun p : List Int => match p with | key => [.slc key.length (ints .u8 key)]) (fun p : List Int => match p with | key => ⟨.tup [kyV key, kyE key], none⟩) args = some r) : ∃ (key : List Int), ((U8L key) ∧ (key.length ≤ 9223372036854775807)) ∧ args = [.slc key.length (ints .u8 key)] ∧ r = ⟨.tup [kyV key, kyE key], none⟩ := by
  obtain ⟨x, h1, h2, h3⟩ := sumOf_inv h
  exact ⟨x, h1, h2.symm, h3⟩

set_option maxRecDepth 100000 in
theorem snd47 : SndE Try.prog NoG 47 S47 := by
  refine snd_nz (snd_by [(25, S25), (38, S38)] [] Try.func47 (by kernel_rfl) lite47 nt47 rs47 ⟨snd25, snd38, trivial⟩ trivial (fun hT args r h => ?_))
  obtain ⟨key, ⟨hd0, hd1⟩, rfl, rfl⟩ := S47_inv h
  clear h
  have hM := hM0
  refine ⟨Nat.le_of_ble_eq_true rfl, fun F => ?_⟩
  unfold L47
  refine Lwp.seq (Lwp.regI hT ?_)
  simp only [L47r0, go_sem, eq_self, Nat.reduceAdd, Nat.reduceLT, decide_true]
  refine Lwp.seq ?_
  by_cases hl : key.length = 32
  · rw [kyV_ok hl, kyE_ok hl]
    have hw0 := wfl_zero key
    have hu0 := hd0
    have p0 : ((pw ((0 - 1) / 8)).toNat : Int) = 1 := by decide
    refine Lwp.seq (Lwp.regI hT ?_)
    simp only [L47r1, go_sem, eq_self, Nat.reduceAdd, Nat.reduceLT, Nat.reduceEqDiff, Int.reduceBNe, reduceCtorEq, decide_true, ty27, hl]
    refine Lwp.cond rfl (fun h => by cases h) (fun _ => Lwp.skip ?_)
    simp only [go_sem]
    refine Lwp.seq (Lwp.regI hT ?_)
    simp only [L47r3, go_sem, eq_self, Nat.reduceAdd, Nat.reduceLT, decide_true, ty89]
    refine Lwp.seq (Lwp.regI hT ?_)
    simp only [L47r4, go_sem, eq_self, Nat.reduceAdd, Nat.reduceLT, decide_true]
    refine Lwp.seq ?_
    refine Lwp.seq (Lwp.regI hT ?_)
    simp only [L47r5, go_sem, eq_self, Nat.reduceAdd, Nat.reduceLT, decide_true]
    refine Lwp.block (Lwp.range (KyH key) 60 ?_ (fun i hi => ?_) ?_)
    · refine weak_of rfl ?_ ?_ ?_
      · (simp only [go_sem, eq_self, Nat.reduceSub, Nat.reduceEqDiff, Nat.reduceDiv, reduceCtorEq, KyH, Nat.mul_zero, hw0, p0]; try rfl)
      · (simp only [go_sem, eq_self, Nat.reduceSub, Nat.reduceDiv, KyH, Nat.mul_zero, hw0, p0]; try rfl)
      · (simp only [go_sem, eq_self, Nat.reduceSub, Nat.reduceDiv, KyH, Nat.mul_zero, hw0, p0]; try rfl)
    · have h1 : (i : Int) < 60 := by omega
      have h4 := wrap_succ hi (by decide)
      have i0 : (0 : Int) ≤ (i : Int) := by omega
      have wl := wfl_len key (4 * i)
      unfold KyH
      refine Lwp.seq (Lwp.regI hT ?_)
      simp only [L47r6, go_sem, eq_self, Nat.reduceAdd, Nat.reduceLT, Nat.reduceEqDiff, reduceCtorEq, decide_true, h1]
      refine Lwp.seq (Lwp.cond rfl (fun _ => Lwp.skip ?_) (fun h => by cases h))
      simp only [go_sem]
      refine Lwp.seq (Lwp.block ?_)
      refine Lwp.seq (Lwp.regI hT ?_)
      simp only [L47r7, go_sem, eq_self, Nat.reduceAdd, Nat.reduceLT, Nat.reduceEqDiff, reduceCtorEq, decide_true]
      refine Lwp.seq ?_
      by_cases h8 : i < 8
      · have c1 : (i : Int) < 8 := by omega
        have e1 : IntKind.i64.wrap (4 * (i : Int)) = ((4 * i : Nat) : Int) := by rw [wrap_i64 (by omega) (by omega)]; omega
        have c2 : (0 : Int) ≤ ((4 * i : Nat) : Int) := by omega
        have c3 : ((4 * i : Nat) : Int) ≤ 32 := by omega
        have c4 : 4 ≤ 32 - 4 * i := by omega
        have c5 : 0 < 32 - 4 * i := by omega
        have c6 : i * 4 + 4 ≤ 240 := by omega
        have dl : (key.drop (4 * i)).length = 32 - 4 * i := by rw [List.length_drop, hl]
        have s1 : sub (ints .u8 key) (4 * i) (32 - 4 * i) = ints .u8 (key.drop (4 * i)) := by rw [ints_sub, List.take_of_length_le (by omega)]
        have s2 : sub (ints .u8 (key.drop (4 * i))) 0 4 = ints .u8 (wd key i) := by rw [ints_sub, List.drop_zero, wd_lo key h8]
        have wdl := wd_len hl i
        have s3 : setAt (ints .u8 (wfl key (4 * i))) (i * 4) (ints .u8 (wd key i)) = ints .u8 (wfl key (4 * (i + 1))) := by
          rw [ints_setAt _ _ _ _ (by omega), Nat.mul_comm i 4, wdl, wfl_put hl hi]
        have pe : pw ((i + 1 - 1) / 8) = pw ((i - 1) / 8) := by rw [show (i + 1 - 1) / 8 = (i - 1) / 8 by omega]
        generalize wfl key (4 * (i + 1)) = w2 at *
        generalize wfl key (4 * i) = w1 at *
        refine Lwp.seq (Lwp.regI hT ?_)
        simp only [L47r8, go_sem, eq_self, Nat.reduceAdd, Nat.reduceLT, Nat.reduceEqDiff, reduceCtorEq, decide_true, c1]
        refine Lwp.cond rfl (fun _ => ?_) (fun h => by cases h)
        refine Lwp.seq (Lwp.regI hT ?_)
        simp only [L47r9, go_sem, eq_self, Nat.reduceAdd, Nat.reduceLT, Nat.reduceEqDiff, reduceCtorEq, decide_true, Bool.false_eq_true, ty5, ty27, ty88, ty89, e1, c2, c3, c4, c5, c6, hl, dl, wl, wdl, s1, s2, s3, h1, i0, sliceA, boundA, arrayPtrA, Nat.mul_one]
        refine Lwp.exit ?_
        simp only [go_sem, eq_self, reduceCtorEq]
        refine Lwp.regI hT ?_
        simp only [L47r27, go_sem, eq_self, Nat.reduceAdd, Nat.reduceLT, Nat.reduceEqDiff, reduceCtorEq, decide_true, h4]
        refine weak_of rfl ?_ ?_ ?_
        · (simp only [go_sem, eq_self, Nat.reduceEqDiff, reduceCtorEq, pe]; try rfl)
        · (simp only [go_sem, eq_self]; try rfl)
        · (simp only [go_sem, eq_self]; try rfl)
      · have c1 : ¬ (i : Int) < 8 := by omega
        have e1 : IntKind.i64.wrap ((i : Int) - 1) = ((i - 1 : Nat) : Int) := by rw [wrap_i64 (by omega) (by omega)]; omega
        have c2 : (0 : Int) ≤ ((i - 1 : Nat) : Int) := by omega
        have c3 : ((i - 1 : Nat) : Int) < 60 := by omega
        have c4 : (i - 1) * 4 + 4 ≤ 240 := by omega
        have s1 : sub (ints .u8 (wfl key (4 * i))) ((i - 1) * 4) 4 = ints .u8 (wd key (i - 1)) := by
          rw [ints_sub, Nat.mul_comm (i - 1) 4, wfl_word hl (by omega) (by omega)]
        have tl := wd_len hl (i - 1)
        have tu := wd_U8 hu0 (i - 1)
        have hi8 := wd_hi key (show 8 ≤ i by omega)
        refine Lwp.seq (Lwp.regI hT ?_)
        simp only [L47r8, go_sem, eq_self, Nat.reduceAdd, Nat.reduceLT, Nat.reduceEqDiff, reduceCtorEq, decide_true, decide_false, c1]
        refine Lwp.cond rfl (fun h => by cases h) (fun _ => Lwp.skip ?_)
        simp only [go_sem]
        refine Lwp.seqW (KyT key (wd key (i - 1)) i ((i - 1) / 8)) ?_ ?_
        · unfold KyT
          generalize wd key (i - 1) = t at *
          generalize wfl key (4 * i) = w1 at *
          refine Lwp.regI hT ?_
          simp only [L47r10, go_sem, eq_self, Nat.reduceAdd, Nat.reduceLT, Nat.reduceLeDiff, Nat.reduceEqDiff, reduceCtorEq, decide_true, ty88, ty89, e1, c2, c3, c4, wl, tl, s1]
          refine weak_of rfl ?_ ?_ ?_
          · (simp only [go_sem, eq_self, Nat.reduceEqDiff, reduceCtorEq]; try rfl)
          · (simp only [go_sem, eq_self, Nat.reduceEqDiff]; try rfl)
          · (simp only [go_sem, eq_self, Nat.reduceEqDiff]; try rfl)
        · generalize hT0 : wd key (i - 1) = t0 at *
          have m8 := tm8 i
          have m4 := tm4 i
          refine Lwp.seqW (KyT key (if i % 8 = 0 then turn4 t0 else t0) i ((i - 1) / 8)) ?_ ?_
          · unfold KyT
            by_cases hz : i % 8 = 0
            · have b1 := beq_zero_of hz
              rw [if_pos hz]
              have st4 : setAt (ints .u8 t0) 0 [.int .u8 (t0.getD 1 0), .int .u8 (t0.getD 2 0), .int .u8 (t0.getD 3 0), .int .u8 (t0.getD 0 0)] = ints .u8 (turn4 t0) := ints_setAt0 .u8 t0 (turn4 t0) (by rw [tl]; rfl)
              refine Lwp.seq (Lwp.regI hT ?_)
              simp only [L47r11, go_sem, eq_self, Nat.reduceAdd, Nat.reduceLT, Nat.reduceEqDiff, Int.reduceEq, reduceCtorEq, decide_true, m8, b1]
              refine Lwp.cond rfl (fun _ => ?_) (fun h => by cases h)
              refine Lwp.regI hT ?_
              simp only [L47r12, go_sem, eq_self, Nat.reduceAdd, Nat.reduceLT, Nat.reduceLeDiff, Nat.reduceEqDiff, Int.reduceLT, Int.reduceLE, Int.reduceToNat, reduceCtorEq, decide_true, Bool.false_eq_true, ty5, ty88, tl]
              refine weak_of rfl ?_ ?_ ?_
              · (simp only [go_sem, eq_self, Nat.reduceEqDiff, reduceCtorEq]; try rfl)
              · (simp only [go_sem, eq_self, Nat.reduceEqDiff]; try rfl)
              · (simp only [go_sem, eq_self, Nat.reduceEqDiff]; try rfl)
            · have b1 := beq_zero_not hz
              rw [if_neg hz]
              refine Lwp.seq (Lwp.regI hT ?_)
              simp only [L47r11, go_sem, eq_self, Nat.reduceAdd, Nat.reduceLT, Nat.reduceEqDiff, Int.reduceEq, reduceCtorEq, decide_true, m8, b1]
              refine Lwp.cond rfl (fun h => by cases h) (fun _ => Lwp.skip ?_)
              simp only [go_sem]
              refine weak_of rfl ?_ ?_ ?_
              · (simp only [go_sem, eq_self, Nat.reduceEqDiff, reduceCtorEq]; try rfl)
              · (simp only [go_sem, eq_self, Nat.reduceEqDiff]; try rfl)
              · (simp only [go_sem, eq_self, Nat.reduceEqDiff]; try rfl)
          · have tl1 : (if i % 8 = 0 then turn4 t0 else t0).length = 4 := by
              split
              · rfl
              · exact tl
            have tu1 : U8L (if i % 8 = 0 then turn4 t0 else t0) := by
              split
              · intro x hx
                simp only [turn4, List.mem_cons, List.not_mem_nil, or_false] at hx
                rcases hx with rfl | rfl | rfl | rfl <;> exact tu.atD _
              · exact tu
            generalize hT1 : (if i % 8 = 0 then turn4 t0 else t0) = t1 at *
            refine Lwp.seqW (KyT key (if i % 4 = 0 then sub4 t1 else t1) i ((i - 1) / 8)) ?_ ?_
            · unfold KyT
              by_cases hz : i % 4 = 0
              · have b1 := beq_zero_of hz
                rw [if_pos hz]
                have z1 := subP_zero tl1
                have z2 := subP_full t1
                refine Lwp.seq (Lwp.regI hT ?_)
                simp only [L47r13, go_sem, eq_self, Nat.reduceAdd, Nat.reduceLT, Nat.reduceEqDiff, Int.reduceEq, reduceCtorEq, decide_true, m4, b1]
                refine Lwp.cond rfl (fun _ => ?_) (fun h => by cases h)
                refine Lwp.seq (Lwp.regI hT ?_)
                simp only [L47r14, go_sem, eq_self, Nat.reduceAdd, Nat.reduceLT, decide_true]
                refine Lwp.block (Lwp.range (fun k => KyU key (subP t1 k) i ((i - 1) / 8) k) 4 ?_ (fun k hk => ?_) ?_)
                · refine weak_of rfl ?_ ?_ ?_
                  · (simp only [go_sem, eq_self, Nat.reduceEqDiff, reduceCtorEq, KyU, z1]; try rfl)
                  · (simp only [go_sem, eq_self, Nat.reduceEqDiff, KyU, z1]; try rfl)
                  · (simp only [go_sem, eq_self, Nat.reduceEqDiff, KyU, z1]; try rfl)
                · have g1 : (k : Int) < 4 := by omega
                  have g2 : (0 : Int) ≤ (k : Int) := by omega
                  have g3 : k ≤ 3 := by omega
                  have g4 := wrap_succ hk (by decide)
                  have g5 := subP_len t1 k
                  have g6 := subP_at t1 hk
                  have g7 := subP_set t1 k
                  have f38 := S38_I (tu1.atD k)
                  unfold KyU
                  refine Lwp.seq (Lwp.regI hT ?_)
                  simp only [L47r15, go_sem, eq_self, Nat.reduceAdd, Nat.reduceLT, Nat.reduceEqDiff, reduceCtorEq, decide_true, g1]
                  refine Lwp.seq (Lwp.cond rfl (fun _ => Lwp.skip ?_) (fun h => by cases h))
                  simp only [go_sem]
                  refine Lwp.seq (Lwp.block ?_)
                  refine Lwp.seq (Lwp.regI hT ?_)
                  simp only [L47r16, go_sem, eq_self, Nat.reduceAdd, Nat.reduceLT, Nat.reduceEqDiff, reduceCtorEq, decide_true]
                  refine Lwp.regI hT ?_
                  simp only [L47r17, go_sem, eq_self, Nat.reduceAdd, Nat.reduceLT, Nat.reduceLeDiff, Nat.reduceEqDiff, reduceCtorEq, decide_true, Bool.false_eq_true, ty5, ty88, g1, g2, g3, g5, g6, g7, hk, f38, Nat.mul_one, Nat.zero_add]
                  refine Lwp.regI hT ?_
                  simp only [L47r18, go_sem, eq_self, Nat.reduceAdd, Nat.reduceLT, Nat.reduceEqDiff, reduceCtorEq, decide_true, g4]
                  refine weak_of rfl ?_ ?_ ?_
                  · (simp only [go_sem, eq_self, Nat.reduceEqDiff, reduceCtorEq]; try rfl)
                  · (simp only [go_sem, eq_self, Nat.reduceEqDiff]; try rfl)
                  · (simp only [go_sem, eq_self, Nat.reduceEqDiff]; try rfl)
                · unfold KyU
                  refine Lwp.seq (Lwp.regI hT ?_)
                  simp only [L47r15, go_sem, eq_self, Nat.reduceAdd, Nat.reduceLT, Nat.reduceEqDiff, Int.reduceLT, reduceCtorEq, decide_true, decide_false]
                  refine Lwp.seq (Lwp.cond rfl (fun h => by cases h) (fun _ => Lwp.exit ?_))
                  simp only [go_sem, eq_self, Nat.reduceEqDiff, reduceCtorEq]
                  refine weak_of rfl ?_ ?_ ?_
                  · (simp only [go_sem, eq_self, Nat.reduceEqDiff, reduceCtorEq]; try rfl)
                  · (simp only [go_sem, eq_self, Nat.reduceEqDiff, z2]; try rfl)
                  · (simp only [go_sem, eq_self, Nat.reduceEqDiff]; try rfl)
              · have b1 := beq_zero_not hz
                rw [if_neg hz]
                refine Lwp.seq (Lwp.regI hT ?_)
                simp only [L47r13, go_sem, eq_self, Nat.reduceAdd, Nat.reduceLT, Nat.reduceEqDiff, Int.reduceEq, reduceCtorEq, decide_true, m4, b1]
                refine Lwp.cond rfl (fun h => by cases h) (fun _ => Lwp.skip ?_)
                simp only [go_sem]
                refine weak_of rfl ?_ ?_ ?_
                · (simp only [go_sem, eq_self, Nat.reduceEqDiff, reduceCtorEq]; try rfl)
                · (simp only [go_sem, eq_self, Nat.reduceEqDiff]; try rfl)
                · (simp only [go_sem, eq_self, Nat.reduceEqDiff]; try rfl)
            · have tl2 : (if i % 4 = 0 then sub4 t1 else t1).length = 4 := by
                split
                · exact sub4_len _
                · exact tl1
              have hT3 : tmpW i t0 = if i % 8 = 0 then pow4 ((i - 1) / 8) (if i % 4 = 0 then sub4 t1 else t1) else (if i % 4 = 0 then sub4 t1 else t1) := by
                unfold tmpW
                by_cases hz : i % 8 = 0
                · rw [if_pos hz, if_pos hz, if_pos (by omega), ← hT1, if_pos hz, show i / 8 - 1 = (i - 1) / 8 by omega]
                · rw [if_neg hz, if_neg hz, ← hT1, if_neg hz]
                  by_cases hy : i % 8 = 4
                  · rw [if_pos hy, if_pos (by omega)]
                  · rw [if_neg hy, if_neg (by omega)]
              generalize (if i % 4 = 0 then sub4 t1 else t1) = t2 at *
              refine Lwp.seqW (KyT key (tmpW i t0) i ((i + 1 - 1) / 8)) ?_ ?_
              · unfold KyT
                by_cases hz : i % 8 = 0
                · have b1 := beq_zero_of hz
                  rw [hT3, if_pos hz]
                  have f25 := S25_pw ((i - 1) / 8)
                  have pe : (i - 1) / 8 + 1 = (i + 1 - 1) / 8 := by omega
                  rw [pe] at f25
                  have q1 : t2.set 0 (xorZ .u8 (t2.getD 0 0) ((pw ((i - 1) / 8)).toNat : Int)) = pow4 ((i - 1) / 8) t2 := rfl
                  refine Lwp.seq (Lwp.regI hT ?_)
                  simp only [L47r19, go_sem, eq_self, Nat.reduceAdd, Nat.reduceLT, Nat.reduceEqDiff, Int.reduceEq, reduceCtorEq, decide_true, m8, b1]
                  refine Lwp.cond rfl (fun _ => ?_) (fun h => by cases h)
                  refine Lwp.seq (Lwp.regI hT ?_)
                  simp only [L47r20, go_sem, eq_self, Nat.reduceAdd, Nat.reduceLT, Nat.reduceLeDiff, Nat.reduceEqDiff, Int.reduceLT, Int.reduceLE, Int.reduceToNat, reduceCtorEq, decide_true, Bool.false_eq_true, ty5, ty88, tl2, q1]
                  refine Lwp.regI hT ?_
                  simp only [L47r21, go_sem, eq_self, Nat.reduceAdd, Nat.reduceLT, Nat.reduceEqDiff, reduceCtorEq, decide_true, f25]
                  refine weak_of rfl ?_ ?_ ?_
                  · (simp only [go_sem, eq_self, Nat.reduceEqDiff, reduceCtorEq]; try rfl)
                  · (simp only [go_sem, eq_self, Nat.reduceEqDiff]; try rfl)
                  · (simp only [go_sem, eq_self, Nat.reduceEqDiff]; try rfl)
                · have b1 := beq_zero_not hz
                  rw [hT3, if_neg hz]
                  have pe : (i + 1 - 1) / 8 = (i - 1) / 8 := by omega
                  rw [pe]
                  refine Lwp.seq (Lwp.regI hT ?_)
                  simp only [L47r19, go_sem, eq_self, Nat.reduceAdd, Nat.reduceLT, Nat.reduceEqDiff, Int.reduceEq, reduceCtorEq, decide_true, m8, b1]
                  refine Lwp.cond rfl (fun h => by cases h) (fun _ => Lwp.skip ?_)
                  simp only [go_sem]
                  refine weak_of rfl ?_ ?_ ?_
                  · (simp only [go_sem, eq_self, Nat.reduceEqDiff, reduceCtorEq]; try rfl)
                  · (simp only [go_sem, eq_self, Nat.reduceEqDiff]; try rfl)
                  · (simp only [go_sem, eq_self, Nat.reduceEqDiff]; try rfl)
              · have tl3 : (tmpW i t0).length = 4 := tmpW_len i tl
                have wdi : wd key i = xor4 (wd key (i - 8)) (tmpW i t0) := hi8
                clear hT3 hT1
                generalize tmpW i t0 = t3 at *
                unfold KyT
                refine Lwp.seq (Lwp.regI hT ?_)
                simp only [L47r22, go_sem, eq_self, Nat.reduceAdd, Nat.reduceLT, decide_true]
                refine Lwp.block (Lwp.range (KyW key t3 i ((i + 1 - 1) / 8)) 4 ?_ (fun k hk => ?_) ?_)
                · refine weak_of rfl ?_ ?_ ?_
                  · (simp only [go_sem, eq_self, Nat.reduceEqDiff, reduceCtorEq, KyW, Nat.add_zero]; try rfl)
                  · (simp only [go_sem, eq_self, Nat.reduceEqDiff, KyW, Nat.add_zero]; try rfl)
                  · (simp only [go_sem, eq_self, Nat.reduceEqDiff, KyW, Nat.add_zero]; try rfl)
                · have g1 : (k : Int) < 4 := by omega
                  have g2 : (0 : Int) ≤ (k : Int) := by omega
                  have g3 : k ≤ 3 := by omega
                  have g4 := wrap_succ hk (by decide)
                  have e8 : IntKind.i64.wrap ((i : Int) - 8) = ((i - 8 : Nat) : Int) := by rw [wrap_i64 (by omega) (by omega)]; omega
                  have d1 : (0 : Int) ≤ ((i - 8 : Nat) : Int) := by omega
                  have d2 : ((i - 8 : Nat) : Int) < 60 := by omega
                  have d3 : (i - 8) * 4 + k < 240 := by omega
                  have d4 : i * 4 + k + 1 ≤ 240 := by omega
                  have d5 : i * 4 + k < 240 := by omega
                  have wl2 := wfl_len key (4 * i + k)
                  have r1 : (wfl key (4 * i + k)).getD ((i - 8) * 4 + k) 0 = (wd key (i - 8)).getD k 0 := by
                    rw [wfl_at key (by omega) (by omega), Nat.mul_comm (i - 8) 4, wv_at key hk]
                  have r2 : (wfl key (4 * i + k)).set (i * 4 + k) (xorZ .u8 ((wd key (i - 8)).getD k 0) (t3.getD k 0)) = wfl key (4 * i + (k + 1)) := by
                    rw [Nat.mul_comm i 4]
                    refine wfl_set key _ ?_
                    rw [wv_at key hk, wdi]
                    unfold xor4
                    rw [tab_getD _ _ hk]
                  generalize hw2 : wfl key (4 * i + (k + 1)) = w2 at *
                  generalize hw1 : wfl key (4 * i + k) = w1 at *
                  generalize wd key (i - 8) = t8 at *
                  unfold KyW
                  rw [hw1]
                  refine Lwp.seq (Lwp.regI hT ?_)
                  simp only [L47r23, go_sem, eq_self, Nat.reduceAdd, Nat.reduceLT, Nat.reduceEqDiff, reduceCtorEq, decide_true, g1]
                  refine Lwp.seq (Lwp.cond rfl (fun _ => Lwp.skip ?_) (fun h => by cases h))
                  simp only [go_sem]
                  refine Lwp.seq (Lwp.block ?_)
                  refine Lwp.seq (Lwp.regI hT ?_)
                  simp only [L47r24, go_sem, eq_self, Nat.reduceAdd, Nat.reduceLT, Nat.reduceEqDiff, reduceCtorEq, decide_true]
                  refine Lwp.regD hT hM ?_
                  simp only [L47r25, go_sem, eq_self, Nat.reduceAdd, Nat.reduceSub, Nat.reduceLT, Nat.reduceLeDiff, Nat.reduceEqDiff, Nat.reduceDiv, Nat.reduceMod, Nat.reducePow, reduceCtorEq, decide_true, decide_false, Bool.false_eq_true, ty5, ty88, ty89, g1, g2, g3, hk, e8, d1, d2, d3, d4, i0, h1, wl2, tl3, r1, r2, Nat.mul_one, Nat.zero_add]
                  refine Lwp.regI hT ?_
                  simp only [L47r26, go_sem, eq_self, Nat.reduceAdd, Nat.reduceLT, Nat.reduceEqDiff, reduceCtorEq, decide_true, g4]
                  refine weak_of rfl ?_ ?_ ?_
                  · (simp only [go_sem, eq_self, Nat.reduceEqDiff, reduceCtorEq]; try rfl)
                  · (simp only [go_sem, eq_self, Nat.reduceEqDiff, hw2]; try rfl)
                  · (simp only [go_sem, eq_self, Nat.reduceEqDiff, hw2]; try rfl)
                · unfold KyW
                  refine Lwp.seq (Lwp.regI hT ?_)
                  simp only [L47r23, go_sem, eq_self, Nat.reduceAdd, Nat.reduceLT, Nat.reduceEqDiff, Int.reduceLT, reduceCtorEq, decide_true, decide_false]
                  refine Lwp.seq (Lwp.cond rfl (fun h => by cases h) (fun _ => Lwp.exit ?_))
                  simp only [go_sem, eq_self, Nat.reduceEqDiff, reduceCtorEq]
                  have e9 : 4 * i + 4 = 4 * (i + 1) := by omega
                  refine Lwp.regI hT ?_
                  simp only [L47r27, go_sem, eq_self, Nat.reduceAdd, Nat.reduceLT, Nat.reduceEqDiff, reduceCtorEq, decide_true, h4]
                  refine weak_of rfl ?_ ?_ ?_
                  · (simp only [go_sem, eq_self, Nat.reduceEqDiff, reduceCtorEq]; try rfl)
                  · (simp only [go_sem, eq_self, Nat.reduceEqDiff, e9]; try rfl)
                  · (simp only [go_sem, eq_self]; try rfl)
    · unfold KyH
      have z15 := zz16
      have wl240 := wfl_len key 240
      have sw : sub (ints .u8 (wfl key 240)) 0 240 = ints .u8 (wfl key 240) := sub_whole (by rw [ints_len, wl240])
      refine Lwp.seq (Lwp.regI hT ?_)
      simp only [L47r6, go_sem, eq_self, Nat.reduceAdd, Nat.reduceMul, Nat.reduceSub, Nat.reduceLT, Nat.reduceEqDiff, Nat.reduceDiv, Int.reduceLT, reduceCtorEq, decide_true, decide_false]
      refine Lwp.seq (Lwp.cond rfl (fun h => by cases h) (fun _ => Lwp.exit ?_))
      simp only [go_sem, eq_self]
      refine Lwp.seq (Lwp.regI hT ?_)
      simp only [L47r28, go_sem, eq_self, Nat.reduceAdd, Nat.reduceLT, Nat.reduceEqDiff, Int.reduceLE, Int.reduceToNat, Int.reduceMul, reduceCtorEq, decide_true, ty22, ty56, ↓zz16, zz16]
      refine Lwp.seq ?_
      refine Lwp.seq (Lwp.regI hT ?_)
      simp only [L47r29, go_sem, eq_self, Nat.reduceAdd, Nat.reduceLT, Nat.reduceEqDiff, reduceCtorEq, decide_true, ty56]
      refine Lwp.block (Lwp.range (KyO key) 15 ?_ (fun i hi => ?_) ?_)
      · refine weak_of rfl ?_ ?_ ?_
        · (simp only [go_sem, eq_self, Nat.reduceEqDiff, reduceCtorEq, KyO, Nat.mul_zero, hw0]; try rfl)
        · (simp only [go_sem, eq_self, Nat.reduceEqDiff, KyO, Nat.mul_zero, hw0]; try rfl)
        · (simp only [go_sem, eq_self, Nat.reduceEqDiff, KyO, Nat.mul_zero, hw0]; try rfl)
      · have h1 : (i : Int) < 15 := by omega
        have h4 := wrap_succ hi (by decide)
        have i0 : (0 : Int) ≤ (i : Int) := by omega
        unfold KyO
        refine Lwp.seq (Lwp.regI hT ?_)
        simp only [L47r30, go_sem, eq_self, Nat.reduceAdd, Nat.reduceLT, Nat.reduceEqDiff, decide_true, h1]
        refine Lwp.seq (Lwp.cond rfl (fun _ => Lwp.skip ?_) (fun h => by cases h))
        simp only [go_sem]
        refine Lwp.seq (Lwp.block ?_)
        refine Lwp.seq (Lwp.regI hT ?_)
        simp only [L47r31, go_sem, eq_self, Nat.reduceAdd, Nat.reduceLT, Nat.reduceEqDiff, decide_true]
        refine Lwp.seq (Lwp.regI hT ?_)
        simp only [L47r32, go_sem, eq_self, Nat.reduceAdd, Nat.reduceLT, decide_true]
        refine Lwp.block (Lwp.range (KyP key i) 16 ?_ (fun k hk => ?_) ?_)
        · refine weak_of rfl ?_ ?_ ?_
          · (simp only [go_sem, eq_self, Nat.reduceEqDiff, KyP, Nat.add_zero]; try rfl)
          · (simp only [go_sem, eq_self, Nat.reduceEqDiff, KyP, Nat.add_zero]; try rfl)
          · (simp only [go_sem, eq_self, Nat.reduceEqDiff, KyP, Nat.add_zero]; try rfl)
        · have g1 : (k : Int) < 16 := by omega
          have g2 : (0 : Int) ≤ (k : Int) := by omega
          have g4 := wrap_succ hk (by decide)
          have e1 : IntKind.i64.wrap (4 * (i : Int)) = ((4 * i : Nat) : Int) := by rw [wrap_i64 (by omega) (by omega)]; omega
          have e2 := td4 k
          have e3 : IntKind.i64.wrap (((k / 4 : Nat) : Int)) = ((k / 4 : Nat) : Int) := wrap_i64 (by omega) (by omega)
          have e4 : IntKind.i64.wrap (((4 * i : Nat) : Int) + ((k / 4 : Nat) : Int)) = ((4 * i + k / 4 : Nat) : Int) := by rw [wrap_i64 (by omega) (by omega)]; omega
          have e5 := tm4 k
          have d1 : (0 : Int) ≤ ((4 * i + k / 4 : Nat) : Int) := by omega
          have d2 : ((4 * i + k / 4 : Nat) : Int) < 60 := by omega
          have d3 : (0 : Int) ≤ ((k % 4 : Nat) : Int) := by omega
          have d4 : ((k % 4 : Nat) : Int) < 4 := by omega
          have d5 : (4 * i + k / 4) * 4 + k % 4 < 240 := by omega
          have d6 : i * 16 + k < 240 := by omega
          have d7 : i * 16 + k + 1 ≤ 240 := by omega
          have wl2 := wfl_len key (16 * i + k)
          have r1 : (wfl key 240).getD ((4 * i + k / 4) * 4 + k % 4) 0 = wv key (16 * i + k) := by
            rw [wfl_at key (by omega) (Nat.le_refl _), show (4 * i + k / 4) * 4 + k % 4 = 16 * i + k by omega]
          have r2 : (wfl key (16 * i + k)).set (i * 16 + k) (wv key (16 * i + k)) = wfl key (16 * i + (k + 1)) := by
            rw [Nat.mul_comm i 16]; exact wfl_set key _ rfl
          generalize hw2 : wfl key (16 * i + (k + 1)) = w2 at *
          generalize hw1 : wfl key (16 * i + k) = w1 at *
          generalize wv key (16 * i + k) = v at *
          generalize 4 * i + k / 4 = q at *
          generalize k % 4 = r at *
          unfold KyP
          rw [hw1]
          refine Lwp.seq (Lwp.regI hT ?_)
          simp only [L47r33, go_sem, eq_self, Nat.reduceAdd, Nat.reduceLT, Nat.reduceEqDiff, decide_true, g1]
          refine Lwp.seq (Lwp.cond rfl (fun _ => Lwp.skip ?_) (fun h => by cases h))
          simp only [go_sem]
          refine Lwp.seq (Lwp.block ?_)
          refine Lwp.seq (Lwp.regI hT ?_)
          simp only [L47r34, go_sem, eq_self, Nat.reduceAdd, Nat.reduceLT, Nat.reduceEqDiff, decide_true]
          refine Lwp.regD hT hM ?_
          simp only [L47r35, go_sem, eq_self, Nat.reduceAdd, Nat.reduceSub, Nat.reduceLT, Nat.reduceLeDiff, Nat.reduceEqDiff, Nat.reduceDiv, Nat.reduceMod, Nat.reducePow, Int.reduceEq, reduceCtorEq, decide_true, decide_false, Bool.false_eq_true, ty5, ty22, ty56, ty88, ty89, g1, g2, h1, i0, e1, e2, e3, e4, e5, d1, d2, d3, d4, d5, d7, wl2, wl240, r1, r2, Nat.mul_one, Nat.zero_add]
          refine Lwp.regI hT ?_
          simp only [L47r36, go_sem, eq_self, Nat.reduceAdd, Nat.reduceLT, Nat.reduceEqDiff, decide_true, g4]
          refine weak_of rfl ?_ ?_ ?_
          · (simp only [go_sem, eq_self, Nat.reduceEqDiff]; try rfl)
          · (simp only [go_sem, eq_self, Nat.reduceEqDiff, hw2]; try rfl)
          · (simp only [go_sem, eq_self, Nat.reduceEqDiff, hw2]; try rfl)
        · unfold KyP
          have e9 : 16 * i + 16 = 16 * (i + 1) := by omega
          refine Lwp.seq (Lwp.regI hT ?_)
          simp only [L47r33, go_sem, eq_self, Nat.reduceAdd, Nat.reduceLT, Nat.reduceEqDiff, Int.reduceLT, decide_true, decide_false]
          refine Lwp.seq (Lwp.cond rfl (fun h => by cases h) (fun _ => Lwp.exit ?_))
          simp only [go_sem, eq_self, Nat.reduceEqDiff]
          refine Lwp.regI hT ?_
          simp only [L47r37, go_sem, eq_self, Nat.reduceAdd, Nat.reduceLT, Nat.reduceEqDiff, decide_true, h4]
          refine weak_of rfl ?_ ?_ ?_
          · (simp only [go_sem, eq_self, Nat.reduceEqDiff]; try rfl)
          · (simp only [go_sem, eq_self, Nat.reduceEqDiff, e9]; try rfl)
          · (simp only [go_sem, eq_self, Nat.reduceEqDiff]; try rfl)
      · unfold KyO
        refine Lwp.seq (Lwp.regI hT ?_)
        simp only [L47r30, go_sem, eq_self, Nat.reduceAdd, Nat.reduceMul, Nat.reduceLT, Nat.reduceEqDiff, Int.reduceLT, decide_true, decide_false]
        refine Lwp.seq (Lwp.cond rfl (fun h => by cases h) (fun _ => Lwp.exit ?_))
        simp only [go_sem, eq_self]
        refine Lwp.seq (Lwp.regI hT ?_)
        simp only [L47r38, go_sem, eq_self, Nat.reduceAdd, Nat.reduceLT, Nat.reduceEqDiff, decide_true]
        refine Lwp.ret (post_val (v := .tup [.osl 101 0 15 16, .nili]) ?_ ?_)
        · simp only [go_sem, eq_self, Nat.reduceEqDiff]
        · simp only [go_sem, eq_self, Nat.reduceMul, Nat.reduceEqDiff, reduceCtorEq, wl240, sw, Nat.le_refl]
  · rw [kyV_bad hl, kyE_bad hl]
    have e : ((key.length : Int) != 32) = true := by simp; omega
    refine Lwp.seq (Lwp.regI hT ?_)
    simp only [L47r1, go_sem, eq_self, Nat.reduceAdd, Nat.reduceLT, Nat.reduceEqDiff, reduceCtorEq, decide_true, ty27, e]
    refine Lwp.cond rfl (fun _ => ?_) (fun h => by cases h)
    refine Lwp.seq (Lwp.regI hT ?_)
    simp only [L47r2, go_sem, eq_self, Nat.reduceAdd, Nat.reduceLT, Nat.reduceEqDiff, reduceCtorEq, decide_true, ty41]
    refine Lwp.ret (post_val (v := .tup [.nils, .iface 41 (.int .i64 1)]) ?_ ?_)
    · simp only [go_sem, eq_self, Nat.reduceEqDiff, reduceCtorEq]
    · simp only [go_sem, eq_self]
end Eng

