/- Contracts of the program's functions, and laws over them. There is no further condition. -/
import Derived.Test.YtmlehjafpofkoaaGreatDoorU0tq
import Derived.Test.YtmlehjafpofkoaaGreatDoorRows
import Derived.Laws.Externs
set_option linter.unusedVariables false
set_option linter.unusedSimpArgs false
set_option linter.unusedSectionVars false
set_option exponentiation.threshold 2000
namespace Eng
open Go Go.Proofs
theorem hM0 : Tryz.prog.follows .mixedOrders = true := by kernel_rfl
theorem eq24 : eqArr Tryz.prog 24 = true := by kernel_rfl
def L3r0 : List AOp := [
  ⟨(some 4), .box 24 (.tmp 0), none, 0⟩,
  ⟨(some 5), .box 24 (.tmp 1), none, 0⟩,
  ⟨(some 6), .box 24 (.tmp 2), none, 0⟩,
  ⟨(some 7), .box 24 (.tmp 3), none, 0⟩,
  ⟨(some 8), .assign (.const (.bool false)), none, 0⟩]
def L3r1 : List AOp := [
  ⟨(some 17), .call { callee := .value (.func 4), args := #[], argTypes := #[] }, none, 0⟩,
  ⟨(some 9), .assign (.tmp 17), none, 0⟩]
def L3r2 : List AOp := [
  ⟨(some 19), .load 24 (.tmp 4), none, 0⟩,
  ⟨(some 20), .load 24 (.tmp 6), none, 0⟩,
  ⟨(some 21), .call { callee := .value (.func 6), args := #[.tmp 20], argTypes := #[24] }, none, 2⟩,
  ⟨(some 22), .call { callee := .value (.func 5), args := #[.tmp 19, .tmp 21], argTypes := #[24, 27] }, none, 7⟩,
  ⟨(some 18), .move (.tmp 22), none, 15⟩,
  ⟨(some 23), .extract (.tmp 18) 0, none, 31⟩,
  ⟨(some 24), .extract (.tmp 18) 1, none, 31⟩,
  ⟨(some 25), .extract (.tmp 18) 2, none, 31⟩,
  ⟨(some 10), .alloc 27, none, 0⟩,
  ⟨none, .store 27 (.tmp 10) (.tmp 23), none, 319⟩,
  ⟨(some 11), .assign (.tmp 24), none, 895⟩,
  ⟨(some 12), .assign (.tmp 25), none, 1267650600228229401496703207423⟩]
def L3r3 : List AOp := [
  ⟨(some 27), .load 24 (.tmp 5), none, 0⟩,
  ⟨(some 28), .load 24 (.tmp 7), none, 0⟩,
  ⟨(some 29), .call { callee := .value (.func 6), args := #[.tmp 28], argTypes := #[24] }, none, 2⟩,
  ⟨(some 30), .call { callee := .value (.func 5), args := #[.tmp 27, .tmp 29], argTypes := #[24, 27] }, none, 7⟩,
  ⟨(some 26), .move (.tmp 30), none, 15⟩,
  ⟨(some 31), .extract (.tmp 26) 0, none, 31⟩,
  ⟨(some 32), .extract (.tmp 26) 1, none, 31⟩,
  ⟨(some 33), .extract (.tmp 26) 2, none, 31⟩,
  ⟨(some 13), .alloc 27, none, 0⟩,
  ⟨none, .store 27 (.tmp 13) (.tmp 31), none, 319⟩,
  ⟨(some 14), .assign (.tmp 32), none, 895⟩,
  ⟨(some 15), .assign (.tmp 33), none, 1267650600228229401496703207423⟩]
def L3r4 : List AOp := [
  ⟨(some 34), .move (.tmp 12), none, 0⟩,
  ⟨(some 35), .binOp .neq 30 (.tmp 34) (.const .nilIface) 30, none, 0⟩,
  ⟨(some 36), .move (.tmp 35), none, 0⟩,
  ⟨(some 37), .move (.tmp 15), (some (36, false)), 0⟩,
  ⟨(some 38), .binOp .neq 30 (.tmp 37) (.const .nilIface) 30, (some (36, false)), 0⟩,
  ⟨(some 39), .pick (.tmp 36) (.const (.bool true)) (.tmp 38), none, 0⟩,
  ⟨(some 40), .move (.tmp 39), none, 0⟩,
  ⟨(some 41), .move (.tmp 11), (some (40, false)), 0⟩,
  ⟨(some 42), .call { callee := .builtin .len, args := #[.tmp 41], argTypes := #[28] }, (some (40, false)), 0⟩,
  ⟨(some 43), .move (.tmp 14), (some (40, false)), 0⟩,
  ⟨(some 44), .call { callee := .builtin .len, args := #[.tmp 43], argTypes := #[28] }, (some (40, false)), 0⟩,
  ⟨(some 45), .binOp .neq 3 (.tmp 42) (.tmp 44) 3, (some (40, false)), 0⟩,
  ⟨(some 46), .pick (.tmp 40) (.const (.bool true)) (.tmp 45), none, 0⟩,
  ⟨(some 47), .move (.tmp 46), none, 0⟩,
  ⟨(some 48), .move (.tmp 11), (some (47, false)), 0⟩,
  ⟨(some 49), .call { callee := .builtin .len, args := #[.tmp 48], argTypes := #[28] }, (some (47, false)), 0⟩,
  ⟨(some 50), .binOp .eql 3 (.tmp 49) (.const (.int .i64 0)) 3, (some (47, false)), 0⟩,
  ⟨(some 51), .pick (.tmp 47) (.const (.bool true)) (.tmp 50), none, 0⟩]
def L3r5 : List AOp := [
  ⟨(some 8), .assign (.const (.bool false)), none, 0⟩]
def L3r6 : List AOp := [
  ⟨(some 16), .assign (.const (.int .i64 0)), none, 0⟩]
def L3r7 : List AOp := [
  ⟨(some 52), .move (.tmp 16), none, 0⟩,
  ⟨(some 53), .move (.tmp 11), none, 0⟩,
  ⟨(some 54), .call { callee := .builtin .len, args := #[.tmp 53], argTypes := #[28] }, none, 0⟩,
  ⟨(some 55), .binOp .lss 3 (.tmp 52) (.tmp 54) 3, none, 0⟩]
def L3r9 : List AOp := [
  ⟨(some 58), .move (.tmp 11), none, 0⟩,
  ⟨(some 59), .move (.tmp 16), none, 0⟩,
  ⟨(some 60), .indexAddr 28 (.tmp 58) (.tmp 59), none, 3⟩,
  ⟨(some 61), .load 3 (.tmp 60), none, 7⟩,
  ⟨(some 62), .move (.tmp 14), none, 0⟩,
  ⟨(some 63), .move (.tmp 16), none, 0⟩,
  ⟨(some 64), .indexAddr 28 (.tmp 62) (.tmp 63), none, 48⟩,
  ⟨(some 65), .load 3 (.tmp 64), none, 112⟩,
  ⟨(some 66), .binOp .neq 3 (.tmp 61) (.tmp 65) 3, none, 1267650600228229401496703205631⟩]
def L3r10 : List AOp := [
  ⟨(some 8), .assign (.const (.bool false)), none, 0⟩]
def L3r8 : List AOp := [
  ⟨(some 56), .move (.tmp 16), none, 0⟩,
  ⟨(some 57), .binOp .add 3 (.tmp 56) (.const (.int .i64 1)) 3, none, 0⟩,
  ⟨(some 16), .assign (.tmp 57), none, 0⟩]
def L3r11 : List AOp := [
  ⟨(some 67), .move (.tmp 9), none, 0⟩,
  ⟨(some 8), .assign (.tmp 67), none, 0⟩]
def L3 : LC := (.seq (.region L3r0) (.seq (.region L3r1) (.seq (.regionD L3r2) (.seq (.regionD L3r3) (.seq (.seq (.region L3r4) (.cond (.tmp 51) (.seq (.region L3r5) .ret) .skip)) (.seq (.seq (.region L3r6) (.block 0 (.loop (.seq (.seq (.region L3r7) (.cond (.tmp 55) .skip (.exit 0))) (.seq (.block 1 (.seq (.regionD L3r9) (.cond (.tmp 66) (.seq (.region L3r10) .ret) .skip))) (.region L3r8)))))) (.seq (.region L3r11) .ret)))))))
theorem nt3 : Tryz.f3.ntmps = 68 := by kernel_rfl
theorem rs3 : Tryz.f3.results.toList = [.tmp 8] := by kernel_rfl
theorem lite3 : Tryz.f3.body.map (lite okDraw) = some L3 := by kernel_rfl
def L4r0 : List AOp := [
  ⟨(some 0), .assign (.const (.bool false)), none, 0⟩]
def L4r1 : List AOp := [
  ⟨(some 6), .call { callee := .value (.func 7), args := #[.const (.int .i64 40), .const (.slice none 0 0), .const (.slice none 0 0)], argTypes := #[3, 57, 57] }, none, 0⟩,
  ⟨(some 5), .move (.tmp 6), none, 0⟩,
  ⟨(some 7), .extract (.tmp 5) 0, none, 0⟩,
  ⟨(some 8), .extract (.tmp 5) 1, none, 0⟩,
  ⟨(some 1), .assign (.tmp 7), none, 0⟩,
  ⟨(some 2), .assign (.tmp 8), none, 0⟩]
def L4r2 : List AOp := [
  ⟨(some 10), .move (.tmp 1), none, 0⟩,
  ⟨(some 11), .build 49 #[], none, 0⟩,
  ⟨(some 12), .call { callee := .value (.func 8), args := #[.tmp 10, .tmp 11, .const (.int .i64 0)], argTypes := #[35, 49, 2] }, none, 0⟩,
  ⟨(some 9), .move (.tmp 12), none, 0⟩,
  ⟨(some 13), .extract (.tmp 9) 0, none, 0⟩,
  ⟨(some 14), .extract (.tmp 9) 1, none, 0⟩,
  ⟨(some 3), .alloc 41, none, 0⟩,
  ⟨none, .store 41 (.tmp 3) (.tmp 13), none, 0⟩,
  ⟨(some 4), .assign (.tmp 14), none, 0⟩]
def L4r3 : List AOp := [
  ⟨(some 15), .move (.tmp 2), none, 0⟩,
  ⟨(some 16), .binOp .eql 30 (.tmp 15) (.const .nilIface) 30, none, 0⟩,
  ⟨(some 17), .move (.tmp 16), none, 0⟩,
  ⟨(some 18), .move (.tmp 4), (some (17, true)), 0⟩,
  ⟨(some 19), .binOp .eql 30 (.tmp 18) (.const .nilIface) 30, (some (17, true)), 0⟩,
  ⟨(some 20), .pick (.tmp 17) (.tmp 19) (.const (.bool false)), none, 0⟩,
  ⟨(some 21), .move (.tmp 20), none, 0⟩,
  ⟨(some 22), .fieldAddr 41 (.tmp 3) 0, (some (21, true)), 0⟩,
  ⟨(some 23), .load 4 (.tmp 22), (some (21, true)), 0⟩,
  ⟨(some 24), .unOp .not 4 (.tmp 23), (some (21, true)), 0⟩,
  ⟨(some 25), .pick (.tmp 21) (.tmp 24) (.const (.bool false)), none, 0⟩,
  ⟨(some 26), .move (.tmp 25), none, 0⟩,
  ⟨(some 27), .fieldAddr 41 (.tmp 3) 4, (some (26, true)), 0⟩,
  ⟨(some 28), .indexAddr 39 (.tmp 27) (.const (.int .i64 0)), (some (26, true)), 0⟩,
  ⟨(some 29), .load 38 (.tmp 28), (some (26, true)), 0⟩,
  ⟨(some 30), .binOp .eql 38 (.tmp 29) (.const (.int .i64 7)) 38, (some (26, true)), 0⟩,
  ⟨(some 31), .pick (.tmp 26) (.tmp 30) (.const (.bool false)), none, 0⟩,
  ⟨(some 32), .move (.tmp 31), none, 0⟩,
  ⟨(some 33), .fieldAddr 41 (.tmp 3) 4, (some (32, true)), 0⟩,
  ⟨(some 34), .indexAddr 39 (.tmp 33) (.const (.int .i64 1)), (some (32, true)), 0⟩,
  ⟨(some 35), .load 38 (.tmp 34), (some (32, true)), 0⟩,
  ⟨(some 36), .binOp .eql 38 (.tmp 35) (.const (.int .i64 7)) 38, (some (32, true)), 0⟩,
  ⟨(some 37), .pick (.tmp 32) (.tmp 36) (.const (.bool false)), none, 0⟩,
  ⟨(some 0), .assign (.tmp 37), none, 0⟩]
def L4 : LC := (.seq (.region L4r0) (.seq (.region L4r1) (.seq (.region L4r2) (.seq (.region L4r3) .ret))))
theorem nt4 : Tryz.f4.ntmps = 38 := by kernel_rfl
theorem rs4 : Tryz.f4.results.toList = [.tmp 0] := by kernel_rfl
theorem lite4 : Tryz.f4.body.map (lite okDraw) = some L4 := by kernel_rfl
def L6r0 : List AOp := [
  ⟨(some 1), .box 24 (.tmp 0), none, 0⟩,
  ⟨(some 2), .alloc 27, none, 0⟩]
def L6r1 : List AOp := [
  ⟨(some 3), .load 24 (.tmp 1), none, 0⟩,
  ⟨(some 4), .call { callee := .value (.func 14), args := #[], argTypes := #[] }, none, 0⟩,
  ⟨(some 5), .call { callee := .value (.func 11), args := #[.tmp 4], argTypes := #[27] }, none, 2⟩,
  ⟨(some 6), .call { callee := .value (.func 10), args := #[.tmp 3, .tmp 5, .func 15], argTypes := #[24, 52, 55] }, none, 1267650600228229401496703205383⟩,
  ⟨(some 7), .call { callee := .value (.func 13), args := #[.tmp 6], argTypes := #[52] }, none, 1267650600228229401496703205391⟩,
  ⟨none, .store 27 (.tmp 2) (.tmp 7), none, 1267650600228229401496703205407⟩]
def L6 : LC := (.seq (.region L6r0) (.seq (.regionD L6r1) .ret))
theorem nt6 : Tryz.f6.ntmps = 8 := by kernel_rfl
theorem rs6 : Tryz.f6.results.toList = [.cell 2 27] := by kernel_rfl
theorem lite6 : Tryz.f6.body.map (lite okDraw) = some L6 := by kernel_rfl
def L7r0 : List AOp := [
  ⟨(some 6), .assign (.const (.pointer none)), none, 0⟩,
  ⟨(some 7), .assign (.const .nilIface), none, 0⟩]
def L7r1 : List AOp := [
  ⟨(some 9), .move (.tmp 0), none, 0⟩,
  ⟨(some 10), .binOp .lss 3 (.tmp 9) (.const (.int .i64 0)) 3, none, 0⟩,
  ⟨(some 11), .move (.tmp 10), none, 0⟩,
  ⟨(some 12), .move (.tmp 0), (some (11, false)), 0⟩,
  ⟨(some 13), .binOp .gtr 3 (.tmp 12) (.const (.int .i64 65536)) 3, (some (11, false)), 0⟩,
  ⟨(some 14), .pick (.tmp 11) (.const (.bool true)) (.tmp 13), none, 0⟩,
  ⟨(some 8), .assign (.tmp 14), none, 0⟩]
def L7r2 : List AOp := [
  ⟨(some 15), .makeInterface 38 (.const (.int .i64 1)), none, 0⟩,
  ⟨(some 6), .assign (.const (.pointer none)), none, 0⟩,
  ⟨(some 7), .assign (.tmp 15), none, 0⟩]
def L7r3 : List AOp := [
  ⟨(some 17), .move (.tmp 1), none, 0⟩,
  ⟨(some 18), .call { callee := .builtin .len, args := #[.tmp 17], argTypes := #[57] }, none, 0⟩,
  ⟨(some 19), .binOp .gtr 3 (.tmp 18) (.const (.int .i64 262144)) 3, none, 0⟩,
  ⟨(some 20), .move (.tmp 19), none, 0⟩,
  ⟨(some 21), .move (.tmp 2), (some (20, false)), 0⟩,
  ⟨(some 22), .call { callee := .builtin .len, args := #[.tmp 21], argTypes := #[57] }, (some (20, false)), 0⟩,
  ⟨(some 23), .binOp .gtr 3 (.tmp 22) (.const (.int .i64 262144)) 3, (some (20, false)), 0⟩,
  ⟨(some 24), .pick (.tmp 20) (.const (.bool true)) (.tmp 23), none, 0⟩,
  ⟨(some 16), .assign (.tmp 24), none, 0⟩]
def L7r4 : List AOp := [
  ⟨(some 25), .makeInterface 38 (.const (.int .i64 2)), none, 0⟩,
  ⟨(some 6), .assign (.const (.pointer none)), none, 0⟩,
  ⟨(some 7), .assign (.tmp 25), none, 0⟩]
def L7r5 : List AOp := [
  ⟨(some 26), .move (.tmp 1), none, 0⟩,
  ⟨(some 27), .call { callee := .value (.func 16), args := #[.tmp 26], argTypes := #[57] }, none, 1⟩,
  ⟨(some 28), .move (.tmp 2), none, 0⟩,
  ⟨(some 29), .call { callee := .value (.func 16), args := #[.tmp 28], argTypes := #[57] }, none, 7⟩,
  ⟨(some 30), .build 59 #[(0, .tmp 27), (1, .tmp 29)], none, 15⟩,
  ⟨(some 31), .move (.tmp 0), none, 0⟩,
  ⟨(some 32), .makeSlice 57 (.tmp 31) (.tmp 31), none, 32⟩,
  ⟨(some 33), .build 61 #[(0, .tmp 30), (1, .tmp 32)], none, 1267650600228229401496703205503⟩,
  ⟨(some 34), .box 61 (.tmp 33), none, 1267650600228229401496703205631⟩,
  ⟨(some 6), .assign (.tmp 34), none, 1267650600228229401496703205887⟩,
  ⟨(some 7), .assign (.const .nilIface), none, 1267650600228229401496703206399⟩]
def L7 : LC := (.seq (.region L7r0) (.seq (.block 0 (.seq (.region L7r1) (.cond (.tmp 8) (.seq (.region L7r2) .ret) (.seq (.region L7r3) (.cond (.tmp 16) (.seq (.region L7r4) .ret) .skip))))) (.seq (.regionD L7r5) .ret)))
theorem nt7 : Tryz.f7.ntmps = 35 := by kernel_rfl
theorem rs7 : Tryz.f7.results.toList = [.tmp 6, .tmp 7] := by kernel_rfl
theorem lite7 : Tryz.f7.body.map (lite okDraw) = some L7 := by kernel_rfl
def L9r0 : List AOp := [
  ⟨(some 1), .box 27 (.tmp 0), none, 0⟩,
  ⟨(some 2), .assign (.const (.bool false)), none, 0⟩]
def L9r1 : List AOp := [
  ⟨(some 6), .fieldAddr 27 (.tmp 1) 2, none, 0⟩,
  ⟨(some 7), .load 4 (.tmp 6), none, 0⟩,
  ⟨(some 5), .assign (.tmp 7), none, 0⟩]
def L9r2 : List AOp := [
  ⟨(some 8), .load 27 (.tmp 1), none, 0⟩,
  ⟨(some 9), .build 27 #[(2, .const (.bool true))], none, 0⟩,
  ⟨(some 10), .binOp .eql 27 (.tmp 8) (.tmp 9) 27, none, 0⟩,
  ⟨(some 2), .assign (.tmp 10), none, 0⟩]
def L9r3 : List AOp := [
  ⟨(some 12), .fieldAddr 27 (.tmp 1) 0, none, 0⟩,
  ⟨(some 13), .load 24 (.tmp 12), none, 1⟩,
  ⟨(some 14), .call { callee := .value (.func 26), args := #[], argTypes := #[] }, none, 0⟩,
  ⟨(some 15), .call { callee := .value (.func 25), args := #[.tmp 13, .tmp 14], argTypes := #[24, 24] }, none, 1267650600228229401496703205383⟩,
  ⟨(some 16), .binOp .eql 22 (.tmp 15) (.const (.int .u64 0)) 22, none, 1267650600228229401496703205391⟩,
  ⟨(some 17), .move (.tmp 16), none, 1267650600228229401496703205407⟩,
  ⟨(some 18), .fieldAddr 27 (.tmp 1) 1, (some (17, false)), 63⟩,
  ⟨(some 19), .load 24 (.tmp 18), (some (17, false)), 127⟩,
  ⟨(some 20), .call { callee := .value (.func 26), args := #[], argTypes := #[] }, (some (17, false)), 63⟩,
  ⟨(some 21), .call { callee := .value (.func 25), args := #[.tmp 19, .tmp 20], argTypes := #[24, 24] }, (some (17, false)), 1267650600228229401496703205887⟩,
  ⟨(some 22), .binOp .eql 22 (.tmp 21) (.const (.int .u64 0)) 22, (some (17, false)), 1267650600228229401496703206399⟩,
  ⟨(some 23), .pick (.tmp 17) (.const (.bool true)) (.tmp 22), none, 1267650600228229401496703207423⟩,
  ⟨(some 11), .assign (.tmp 23), none, 1267650600228229401496703209471⟩]
def L9r4 : List AOp := [
  ⟨(some 2), .assign (.const (.bool false)), none, 0⟩]
def L9r5 : List AOp := [
  ⟨(some 24), .fieldAddr 27 (.tmp 1) 0, none, 0⟩,
  ⟨(some 25), .load 24 (.tmp 24), none, 1⟩,
  ⟨(some 26), .fieldAddr 27 (.tmp 1) 0, none, 0⟩,
  ⟨(some 27), .load 24 (.tmp 26), none, 4⟩,
  ⟨(some 28), .call { callee := .value (.func 27), args := #[.tmp 25, .tmp 27], argTypes := #[24, 24] }, none, 15⟩,
  ⟨(some 29), .fieldAddr 27 (.tmp 1) 0, none, 0⟩,
  ⟨(some 30), .load 24 (.tmp 29), none, 32⟩,
  ⟨(some 31), .call { callee := .value (.func 27), args := #[.tmp 28, .tmp 30], argTypes := #[24, 24] }, none, 127⟩,
  ⟨(some 3), .alloc 24, none, 0⟩,
  ⟨none, .store 24 (.tmp 3) (.tmp 31), none, 1267650600228229401496703205887⟩]
def L9r6 : List AOp := [
  ⟨(some 32), .load 24 (.tmp 3), none, 0⟩,
  ⟨(some 33), .build 24 #[(0, .const (.int .u64 3))], none, 0⟩,
  ⟨(some 34), .fieldAddr 27 (.tmp 1) 0, none, 0⟩,
  ⟨(some 35), .load 24 (.tmp 34), none, 4⟩,
  ⟨(some 36), .call { callee := .value (.func 27), args := #[.tmp 33, .tmp 35], argTypes := #[24, 24] }, none, 14⟩,
  ⟨(some 37), .call { callee := .value (.func 29), args := #[.tmp 32, .tmp 36], argTypes := #[24, 24] }, none, 31⟩,
  ⟨(some 38), .call { callee := .value (.func 30), args := #[], argTypes := #[] }, none, 63⟩,
  ⟨(some 39), .call { callee := .value (.func 28), args := #[.tmp 37, .tmp 38], argTypes := #[24, 24] }, none, 127⟩,
  ⟨(some 4), .alloc 24, none, 0⟩,
  ⟨none, .store 24 (.tmp 4) (.tmp 39), none, 1267650600228229401496703205887⟩]
def L9r7 : List AOp := [
  ⟨(some 40), .fieldAddr 27 (.tmp 1) 1, none, 0⟩,
  ⟨(some 41), .load 24 (.tmp 40), none, 1⟩,
  ⟨(some 42), .fieldAddr 27 (.tmp 1) 1, none, 0⟩,
  ⟨(some 43), .load 24 (.tmp 42), none, 4⟩,
  ⟨(some 44), .call { callee := .value (.func 27), args := #[.tmp 41, .tmp 43], argTypes := #[24, 24] }, none, 15⟩,
  ⟨(some 45), .load 24 (.tmp 4), none, 0⟩,
  ⟨(some 46), .binOp .eql 24 (.tmp 44) (.tmp 45) 24, none, 1267650600228229401496703205439⟩,
  ⟨(some 2), .assign (.tmp 46), none, 1267650600228229401496703205503⟩]
def L9 : LC := (.seq (.region L9r0) (.seq (.block 0 (.seq (.region L9r1) (.cond (.tmp 5) (.seq (.region L9r2) .ret) (.seq (.regionD L9r3) (.cond (.tmp 11) (.seq (.region L9r4) .ret) .skip))))) (.seq (.regionD L9r5) (.seq (.regionD L9r6) (.seq (.regionD L9r7) .ret)))))
theorem nt9 : Tryz.f9.ntmps = 47 := by kernel_rfl
theorem rs9 : Tryz.f9.results.toList = [.tmp 2] := by kernel_rfl
theorem lite9 : Tryz.f9.body.map (lite okDraw) = some L9 := by kernel_rfl
def L10r0 : List AOp := [
  ⟨(some 3), .box 24 (.tmp 0), none, 0⟩,
  ⟨(some 4), .box 52 (.tmp 1), none, 0⟩,
  ⟨(some 6), .alloc 52, none, 0⟩]
def L10r1 : List AOp := [
  ⟨(some 10), .build 27 #[(2, .const (.bool true))], none, 0⟩,
  ⟨(some 11), .call { callee := .value (.func 11), args := #[.tmp 10], argTypes := #[27] }, none, 0⟩,
  ⟨(some 7), .alloc 52, none, 0⟩,
  ⟨none, .store 52 (.tmp 7) (.tmp 11), none, 0⟩]
def L10r2 : List AOp := [
  ⟨(some 8), .assign (.const (.int .i64 383)), none, 0⟩]
def L10r3 : List AOp := [
  ⟨(some 12), .move (.tmp 8), none, 0⟩,
  ⟨(some 13), .binOp .geq 3 (.tmp 12) (.const (.int .i64 0)) 3, none, 0⟩]
def L10r5 : List AOp := [
  ⟨(some 16), .move (.tmp 2), none, 0⟩,
  ⟨(some 17), .call { callee := .value (.tmp 16), args := #[.const (.int .i64 1)], argTypes := #[3] }, none, 0⟩]
def L10r6 : List AOp := [
  ⟨(some 18), .load 52 (.tmp 7), none, 0⟩,
  ⟨(some 19), .load 52 (.tmp 7), none, 0⟩,
  ⟨(some 20), .call { callee := .value (.func 31), args := #[.tmp 18, .tmp 19], argTypes := #[52, 52] }, none, 0⟩,
  ⟨none, .store 52 (.tmp 7) (.tmp 20), none, 0⟩]
def L10r7 : List AOp := [
  ⟨(some 21), .move (.tmp 2), none, 0⟩,
  ⟨(some 22), .call { callee := .value (.tmp 21), args := #[.const (.int .i64 2)], argTypes := #[3] }, none, 0⟩]
def L10r8 : List AOp := [
  ⟨(some 23), .load 52 (.tmp 7), none, 0⟩,
  ⟨(some 24), .load 52 (.tmp 4), none, 0⟩,
  ⟨(some 25), .call { callee := .value (.func 31), args := #[.tmp 23, .tmp 24], argTypes := #[52, 52] }, none, 0⟩,
  ⟨(some 9), .alloc 52, none, 0⟩,
  ⟨none, .store 52 (.tmp 9) (.tmp 25), none, 0⟩]
def L10r9 : List AOp := [
  ⟨(some 26), .move (.tmp 2), none, 0⟩,
  ⟨(some 27), .call { callee := .value (.tmp 26), args := #[.const (.int .i64 3)], argTypes := #[3] }, none, 0⟩]
def L10r10 : List AOp := [
  ⟨(some 28), .load 24 (.tmp 3), none, 0⟩,
  ⟨(some 29), .move (.tmp 8), none, 0⟩,
  ⟨(some 30), .call { callee := .value (.func 33), args := #[.tmp 28, .tmp 29], argTypes := #[24, 3] }, none, 3⟩,
  ⟨(some 31), .load 52 (.tmp 7), none, 0⟩,
  ⟨(some 32), .load 52 (.tmp 9), none, 0⟩,
  ⟨(some 33), .call { callee := .value (.func 32), args := #[.tmp 30, .tmp 31, .tmp 32], argTypes := #[22, 52, 52] }, none, 1267650600228229401496703205407⟩,
  ⟨none, .store 52 (.tmp 7) (.tmp 33), none, 1267650600228229401496703205439⟩]
def L10r4 : List AOp := [
  ⟨(some 14), .move (.tmp 8), none, 0⟩,
  ⟨(some 15), .binOp .sub 3 (.tmp 14) (.const (.int .i64 1)) 3, none, 0⟩,
  ⟨(some 8), .assign (.tmp 15), none, 0⟩]
def L10r11 : List AOp := [
  ⟨(some 34), .load 52 (.tmp 7), none, 0⟩,
  ⟨none, .store 52 (.tmp 6) (.tmp 34), none, 0⟩]
def L10 : LC := (.seq (.region L10r0) (.seq (.region L10r1) (.seq (.seq (.region L10r2) (.block 0 (.loop (.seq (.seq (.region L10r3) (.cond (.tmp 13) .skip (.exit 0))) (.seq (.block 1 (.seq (.region L10r5) (.seq (.region L10r6) (.seq (.region L10r7) (.seq (.region L10r8) (.seq (.region L10r9) (.regionD L10r10))))))) (.region L10r4)))))) (.seq (.region L10r11) .ret))))
theorem nt10 : Tryz.f10.ntmps = 35 := by kernel_rfl
theorem rs10 : Tryz.f10.results.toList = [.cell 6 52] := by kernel_rfl
theorem lite10 : Tryz.f10.body.map (lite okDraw) = some L10 := by kernel_rfl
def L11r0 : List AOp := [
  ⟨(some 1), .box 27 (.tmp 0), none, 0⟩,
  ⟨(some 2), .alloc 52, none, 0⟩]
def L11r1 : List AOp := [
  ⟨(some 3), .fieldAddr 27 (.tmp 1) 2, none, 0⟩,
  ⟨(some 4), .load 4 (.tmp 3), none, 0⟩]
def L11r2 : List AOp := [
  ⟨(some 5), .load 24 (.global 0), none, 0⟩,
  ⟨(some 6), .build 52 #[(1, .tmp 5)], none, 0⟩,
  ⟨none, .store 52 (.tmp 2) (.tmp 6), none, 0⟩]
def L11r3 : List AOp := [
  ⟨(some 7), .fieldAddr 27 (.tmp 1) 0, none, 0⟩,
  ⟨(some 8), .load 24 (.tmp 7), none, 1⟩,
  ⟨(some 9), .fieldAddr 81 (.global 1) 2, none, 0⟩,
  ⟨(some 10), .load 24 (.tmp 9), none, 4⟩,
  ⟨(some 11), .call { callee := .value (.func 34), args := #[.tmp 8, .tmp 10], argTypes := #[24, 24] }, none, 15⟩,
  ⟨(some 12), .fieldAddr 27 (.tmp 1) 1, none, 0⟩,
  ⟨(some 13), .load 24 (.tmp 12), none, 32⟩,
  ⟨(some 14), .fieldAddr 81 (.global 1) 2, none, 0⟩,
  ⟨(some 15), .load 24 (.tmp 14), none, 128⟩,
  ⟨(some 16), .call { callee := .value (.func 34), args := #[.tmp 13, .tmp 15], argTypes := #[24, 24] }, none, 511⟩,
  ⟨(some 17), .load 24 (.global 0), none, 0⟩,
  ⟨(some 18), .build 52 #[(0, .tmp 11), (1, .tmp 16), (2, .tmp 17)], none, 1267650600228229401496703207423⟩,
  ⟨none, .store 52 (.tmp 2) (.tmp 18), none, 1267650600228229401496703209471⟩]
def L11 : LC := (.seq (.region L11r0) (.seq (.seq (.region L11r1) (.cond (.tmp 4) (.seq (.region L11r2) .ret) .skip)) (.seq (.regionD L11r3) .ret)))
theorem nt11 : Tryz.f11.ntmps = 19 := by kernel_rfl
theorem rs11 : Tryz.f11.results.toList = [.cell 2 52] := by kernel_rfl
theorem lite11 : Tryz.f11.body.map (lite okDraw) = some L11 := by kernel_rfl
def L12r0 : List AOp := [
  ⟨(some 3), .load 28 (.tmp 1), none, 0⟩,
  ⟨(some 4), .move (.tmp 0), none, 0⟩,
  ⟨(some 5), .buildSlice 28 1 #[(0, .tmp 4)], none, 0⟩,
  ⟨(some 6), .call { callee := .builtin .append, args := #[.tmp 3, .tmp 5], argTypes := #[28, 28] }, none, 0⟩,
  ⟨none, .store 28 (.tmp 1) (.tmp 6), none, 0⟩]
def L12 : LC := (.region L12r0)
theorem nt12 : Tryz.f12.ntmps = 7 := by kernel_rfl
theorem rs12 : Tryz.f12.results.toList = [] := by kernel_rfl
theorem lite12 : Tryz.f12.body.map (lite okDraw) = some L12 := by kernel_rfl
def L13r0 : List AOp := [
  ⟨(some 1), .box 52 (.tmp 0), none, 0⟩,
  ⟨(some 2), .alloc 27, none, 0⟩]
def L13r1 : List AOp := [
  ⟨(some 4), .fieldAddr 52 (.tmp 1) 2, none, 0⟩,
  ⟨(some 5), .load 24 (.tmp 4), none, 0⟩,
  ⟨(some 6), .build 24 #[], none, 0⟩,
  ⟨(some 7), .binOp .eql 24 (.tmp 5) (.tmp 6) 24, none, 0⟩]
def L13r2 : List AOp := [
  ⟨(some 8), .build 27 #[(2, .const (.bool true))], none, 0⟩,
  ⟨none, .store 27 (.tmp 2) (.tmp 8), none, 0⟩]
def L13r3 : List AOp := [
  ⟨(some 9), .fieldAddr 52 (.tmp 1) 2, none, 0⟩,
  ⟨(some 10), .load 24 (.tmp 9), none, 0⟩,
  ⟨(some 11), .build 24 #[(0, .const (.int .u64 1))], none, 0⟩,
  ⟨(some 12), .call { callee := .value (.func 34), args := #[.tmp 10, .tmp 11], argTypes := #[24, 24] }, none, 0⟩,
  ⟨(some 13), .call { callee := .value (.func 35), args := #[.tmp 12], argTypes := #[24] }, none, 0⟩,
  ⟨(some 3), .alloc 24, none, 0⟩,
  ⟨none, .store 24 (.tmp 3) (.tmp 13), none, 0⟩]
def L13r4 : List AOp := [
  ⟨(some 14), .fieldAddr 52 (.tmp 1) 0, none, 0⟩,
  ⟨(some 15), .load 24 (.tmp 14), none, 1⟩,
  ⟨(some 16), .load 24 (.tmp 3), none, 0⟩,
  ⟨(some 17), .call { callee := .value (.func 34), args := #[.tmp 15, .tmp 16], argTypes := #[24, 24] }, none, 7⟩,
  ⟨(some 18), .fieldAddr 52 (.tmp 1) 1, none, 0⟩,
  ⟨(some 19), .load 24 (.tmp 18), none, 16⟩,
  ⟨(some 20), .load 24 (.tmp 3), none, 0⟩,
  ⟨(some 21), .call { callee := .value (.func 34), args := #[.tmp 19, .tmp 20], argTypes := #[24, 24] }, none, 1267650600228229401496703205503⟩,
  ⟨(some 22), .build 27 #[(0, .tmp 17), (1, .tmp 21)], none, 1267650600228229401496703205631⟩,
  ⟨none, .store 27 (.tmp 2) (.tmp 22), none, 1267650600228229401496703205887⟩]
def L13 : LC := (.seq (.region L13r0) (.seq (.seq (.region L13r1) (.cond (.tmp 7) (.seq (.region L13r2) .ret) .skip)) (.seq (.region L13r3) (.seq (.regionD L13r4) .ret))))
theorem nt13 : Tryz.f13.ntmps = 23 := by kernel_rfl
theorem rs13 : Tryz.f13.results.toList = [.cell 2 27] := by kernel_rfl
theorem lite13 : Tryz.f13.body.map (lite okDraw) = some L13 := by kernel_rfl
def L14r0 : List AOp := [
  ⟨(some 0), .alloc 27, none, 0⟩]
def L14r1 : List AOp := [
  ⟨(some 1), .load 27 (.global 2), none, 0⟩,
  ⟨none, .store 27 (.tmp 0) (.tmp 1), none, 0⟩]
def L14 : LC := (.seq (.region L14r0) (.seq (.region L14r1) .ret))
theorem nt14 : Tryz.f14.ntmps = 2 := by kernel_rfl
theorem rs14 : Tryz.f14.results.toList = [.cell 0 27] := by kernel_rfl
theorem lite14 : Tryz.f14.body.map (lite okDraw) = some L14 := by kernel_rfl

def L15 : LC := .skip
theorem nt15 : Tryz.f15.ntmps = 2 := by kernel_rfl
theorem rs15 : Tryz.f15.results.toList = [] := by kernel_rfl
theorem lite15 : Tryz.f15.body.map (lite okDraw) = some L15 := by kernel_rfl
def L16r0 : List AOp := [
  ⟨(some 2), .assign (.const (.slice none 0 0)), none, 0⟩]
def L16r1 : List AOp := [
  ⟨(some 3), .move (.tmp 0), none, 0⟩,
  ⟨(some 4), .binOp .eql 57 (.tmp 3) (.const (.slice none 0 0)) 57, none, 0⟩]
def L16r2 : List AOp := [
  ⟨(some 2), .assign (.const (.slice none 0 0)), none, 0⟩]
def L16r3 : List AOp := [
  ⟨(some 5), .buildSlice 57 0 #[], none, 0⟩,
  ⟨(some 6), .move (.tmp 0), none, 0⟩,
  ⟨(some 7), .call { callee := .builtin .append, args := #[.tmp 5, .tmp 6], argTypes := #[57, 57] }, none, 0⟩,
  ⟨(some 2), .assign (.tmp 7), none, 0⟩]
def L16 : LC := (.seq (.region L16r0) (.seq (.seq (.region L16r1) (.cond (.tmp 4) (.seq (.region L16r2) .ret) .skip)) (.seq (.region L16r3) .ret)))
theorem nt16 : Tryz.f16.ntmps = 8 := by kernel_rfl
theorem rs16 : Tryz.f16.results.toList = [.tmp 2] := by kernel_rfl
theorem lite16 : Tryz.f16.body.map (lite okDraw) = some L16 := by kernel_rfl
def L17r0 : List AOp := [
  ⟨(some 2), .assign (.const (.bool false)), none, 0⟩]
def L17r1 : List AOp := [
  ⟨(some 3), .move (.tmp 0), none, 0⟩,
  ⟨(some 4), .nilCheck (.tmp 3), none, 0⟩,
  ⟨(some 5), .fieldAddr 61 (.tmp 4) 3, none, 0⟩,
  ⟨(some 6), .load 4 (.tmp 5), none, 0⟩,
  ⟨(some 7), .unOp .not 4 (.tmp 6), none, 0⟩,
  ⟨(some 2), .assign (.tmp 7), none, 0⟩]
def L17 : LC := (.seq (.region L17r0) (.seq (.region L17r1) .ret))
theorem nt17 : Tryz.f17.ntmps = 8 := by kernel_rfl
theorem rs17 : Tryz.f17.results.toList = [.tmp 2] := by kernel_rfl
theorem lite17 : Tryz.f17.body.map (lite okDraw) = some L17 := by kernel_rfl
def L18r0 : List AOp := [
  ⟨(some 2), .assign (.const (.int .i64 0)), none, 0⟩]
def L18r1 : List AOp := [
  ⟨(some 3), .move (.tmp 0), none, 0⟩,
  ⟨(some 4), .nilCheck (.tmp 3), none, 0⟩,
  ⟨(some 5), .fieldAddr 61 (.tmp 4) 2, none, 0⟩,
  ⟨(some 6), .load 22 (.tmp 5), none, 0⟩,
  ⟨(some 7), .unOp .xor 22 (.tmp 6), none, 0⟩,
  ⟨(some 8), .call { callee := .value (.func 36), args := #[.tmp 7], argTypes := #[22] }, none, 0⟩,
  ⟨(some 2), .assign (.tmp 8), none, 0⟩]
def L18 : LC := (.seq (.region L18r0) (.seq (.region L18r1) .ret))
theorem nt18 : Tryz.f18.ntmps = 9 := by kernel_rfl
theorem rs18 : Tryz.f18.results.toList = [.tmp 2] := by kernel_rfl
theorem lite18 : Tryz.f18.body.map (lite okDraw) = some L18 := by kernel_rfl
def L19r0 : List AOp := [
  ⟨(some 2), .assign (.const (.slice none 0 0)), none, 0⟩]
def L19r1 : List AOp := [
  ⟨(some 3), .move (.tmp 0), none, 0⟩,
  ⟨(some 4), .nilCheck (.tmp 3), none, 0⟩,
  ⟨(some 5), .fieldAddr 61 (.tmp 4) 1, none, 0⟩,
  ⟨(some 6), .load 57 (.tmp 5), none, 0⟩,
  ⟨(some 7), .call { callee := .value (.func 16), args := #[.tmp 6], argTypes := #[57] }, none, 0⟩,
  ⟨(some 2), .assign (.tmp 7), none, 0⟩]
def L19 : LC := (.seq (.region L19r0) (.seq (.region L19r1) .ret))
theorem nt19 : Tryz.f19.ntmps = 8 := by kernel_rfl
theorem rs19 : Tryz.f19.results.toList = [.tmp 2] := by kernel_rfl
theorem lite19 : Tryz.f19.body.map (lite okDraw) = some L19 := by kernel_rfl
def L20r0 : List AOp := [
  ⟨(some 4), .assign (.const (.slice none 0 0)), none, 0⟩,
  ⟨(some 5), .assign (.const .nilIface), none, 0⟩]
def L20r1 : List AOp := [
  ⟨(some 6), .move (.tmp 1), none, 0⟩,
  ⟨(some 7), .call { callee := .value (.func 37), args := #[.tmp 6], argTypes := #[3] }, none, 0⟩,
  ⟨(some 8), .unOp .not 4 (.tmp 7), none, 0⟩]
def L20r2 : List AOp := [
  ⟨(some 9), .makeInterface 38 (.const (.int .i64 1)), none, 0⟩,
  ⟨(some 4), .assign (.const (.slice none 0 0)), none, 0⟩,
  ⟨(some 5), .assign (.tmp 9), none, 0⟩]
def L20r3 : List AOp := [
  ⟨(some 10), .move (.tmp 0), none, 0⟩,
  ⟨(some 11), .move (.tmp 1), none, 0⟩,
  ⟨(some 12), .nilCheck (.tmp 10), none, 0⟩,
  ⟨(some 13), .fieldAddr 61 (.tmp 12) 0, none, 0⟩,
  ⟨(some 14), .indexAddr 59 (.tmp 13) (.tmp 11), none, 0⟩,
  ⟨(some 15), .load 57 (.tmp 14), none, 0⟩,
  ⟨(some 16), .call { callee := .value (.func 16), args := #[.tmp 15], argTypes := #[57] }, none, 0⟩,
  ⟨(some 4), .assign (.tmp 16), none, 0⟩,
  ⟨(some 5), .assign (.const .nilIface), none, 0⟩]
def L20 : LC := (.seq (.region L20r0) (.seq (.seq (.region L20r1) (.cond (.tmp 8) (.seq (.region L20r2) .ret) .skip)) (.seq (.region L20r3) .ret)))
theorem nt20 : Tryz.f20.ntmps = 17 := by kernel_rfl
theorem rs20 : Tryz.f20.results.toList = [.tmp 4, .tmp 5] := by kernel_rfl
theorem lite20 : Tryz.f20.body.map (lite okDraw) = some L20 := by kernel_rfl
def L21r0 : List AOp := [
  ⟨(some 6), .box 49 (.tmp 1), none, 0⟩,
  ⟨(some 10), .alloc 67, none, 0⟩,
  ⟨(some 11), .assign (.const (.slice none 0 0)), none, 0⟩,
  ⟨(some 12), .assign (.const .nilIface), none, 0⟩]
def L21r1 : List AOp := [
  ⟨(some 20), .move (.tmp 0), none, 0⟩,
  ⟨(some 21), .call { callee := .value (.func 38), args := #[.tmp 20], argTypes := #[57] }, none, 0⟩,
  ⟨(some 19), .move (.tmp 21), none, 0⟩,
  ⟨(some 22), .extract (.tmp 19) 0, none, 0⟩,
  ⟨(some 23), .extract (.tmp 19) 1, none, 0⟩,
  ⟨(some 13), .alloc 90, none, 0⟩,
  ⟨none, .store 90 (.tmp 13) (.tmp 22), none, 0⟩,
  ⟨(some 14), .assign (.tmp 23), none, 0⟩]
def L21r2 : List AOp := [
  ⟨(some 24), .move (.tmp 14), none, 0⟩,
  ⟨(some 25), .binOp .neq 30 (.tmp 24) (.const .nilIface) 30, none, 0⟩]
def L21r3 : List AOp := [
  ⟨(some 26), .build 67 #[], none, 0⟩,
  ⟨(some 27), .move (.tmp 14), none, 0⟩,
  ⟨none, .store 67 (.tmp 10) (.tmp 26), none, 0⟩,
  ⟨(some 11), .assign (.const (.slice none 0 0)), none, 0⟩,
  ⟨(some 12), .assign (.tmp 27), none, 0⟩]
def L21r4 : List AOp := [
  ⟨(some 29), .fieldAddr 90 (.tmp 13) 0, none, 0⟩,
  ⟨(some 30), .load 85 (.tmp 29), none, 0⟩,
  ⟨(some 31), .fieldAddr 49 (.tmp 6) 0, none, 0⟩,
  ⟨(some 32), .load 47 (.tmp 31), none, 0⟩,
  ⟨(some 33), .move (.tmp 2), none, 0⟩,
  ⟨(some 34), .fieldAddr 90 (.tmp 13) 1, none, 0⟩,
  ⟨(some 35), .load 86 (.tmp 34), none, 0⟩,
  ⟨(some 36), .call { callee := .value (.func 39), args := #[.tmp 30, .tmp 32, .tmp 33, .tmp 35], argTypes := #[85, 47, 2, 86] }, none, 0⟩,
  ⟨(some 28), .move (.tmp 36), none, 0⟩,
  ⟨(some 37), .extract (.tmp 28) 0, none, 0⟩,
  ⟨(some 38), .extract (.tmp 28) 1, none, 0⟩,
  ⟨(some 15), .assign (.tmp 37), none, 0⟩,
  ⟨(some 14), .assign (.tmp 38), none, 0⟩]
def L21r5 : List AOp := [
  ⟨(some 40), .move (.tmp 14), none, 0⟩,
  ⟨(some 41), .binOp .neq 30 (.tmp 40) (.const .nilIface) 30, none, 0⟩,
  ⟨(some 39), .assign (.tmp 41), none, 0⟩]
def L21r6 : List AOp := [
  ⟨(some 42), .build 67 #[], none, 0⟩,
  ⟨(some 43), .move (.tmp 14), none, 0⟩,
  ⟨none, .store 67 (.tmp 10) (.tmp 42), none, 0⟩,
  ⟨(some 11), .assign (.const (.slice none 0 0)), none, 0⟩,
  ⟨(some 12), .assign (.tmp 43), none, 0⟩]
def L21r7 : List AOp := [
  ⟨(some 45), .fieldAddr 90 (.tmp 13) 0, none, 0⟩,
  ⟨(some 46), .load 85 (.tmp 45), none, 1⟩,
  ⟨(some 47), .move (.tmp 15), none, 0⟩,
  ⟨(some 48), .indexAddr 28 (.tmp 47) (.const (.int .i64 0)), none, 4⟩,
  ⟨(some 49), .load 3 (.tmp 48), none, 12⟩,
  ⟨(some 50), .indexAddr 85 (.tmp 46) (.tmp 49), none, 31⟩,
  ⟨(some 51), .fieldAddr 99 (.tmp 50) 5, none, 63⟩,
  ⟨(some 52), .load 27 (.tmp 51), none, 127⟩,
  ⟨(some 53), .fieldAddr 90 (.tmp 13) 2, none, 0⟩,
  ⟨(some 54), .load 57 (.tmp 53), none, 256⟩,
  ⟨(some 55), .call { callee := .value (.func 41), args := #[.tmp 54], argTypes := #[57] }, none, 768⟩,
  ⟨(some 56), .fieldAddr 90 (.tmp 13) 3, none, 0⟩,
  ⟨(some 57), .load 88 (.tmp 56), none, 2048⟩,
  ⟨(some 58), .call { callee := .value (.func 40), args := #[.tmp 52, .tmp 55, .tmp 57], argTypes := #[27, 57, 88] }, none, 1267650600228229401496703213567⟩,
  ⟨(some 59), .binOp .neq 30 (.tmp 58) (.const .nilIface) 30, none, 1267650600228229401496703221759⟩,
  ⟨(some 44), .assign (.tmp 59), none, 1267650600228229401496703238143⟩]
def L21r8 : List AOp := [
  ⟨(some 60), .build 67 #[], none, 0⟩,
  ⟨(some 61), .makeInterface 38 (.const (.int .i64 10)), none, 0⟩,
  ⟨none, .store 67 (.tmp 10) (.tmp 60), none, 0⟩,
  ⟨(some 11), .assign (.const (.slice none 0 0)), none, 0⟩,
  ⟨(some 12), .assign (.tmp 61), none, 0⟩]
def L21r9 : List AOp := [
  ⟨(some 63), .fieldAddr 90 (.tmp 13) 4, none, 0⟩,
  ⟨(some 64), .fieldAddr 67 (.tmp 63) 1, none, 0⟩,
  ⟨(some 65), .load 3 (.tmp 64), none, 0⟩,
  ⟨(some 66), .fieldAddr 49 (.tmp 6) 2, none, 0⟩,
  ⟨(some 67), .load 3 (.tmp 66), none, 0⟩,
  ⟨(some 68), .binOp .neq 3 (.tmp 65) (.tmp 67) 3, none, 0⟩,
  ⟨(some 62), .assign (.tmp 68), none, 0⟩]
def L21r10 : List AOp := [
  ⟨(some 69), .build 67 #[], none, 0⟩,
  ⟨(some 70), .makeInterface 38 (.const (.int .i64 19)), none, 0⟩,
  ⟨none, .store 67 (.tmp 10) (.tmp 69), none, 0⟩,
  ⟨(some 11), .assign (.const (.slice none 0 0)), none, 0⟩,
  ⟨(some 12), .assign (.tmp 70), none, 0⟩]
def L21r11 : List AOp := [
  ⟨(some 71), .fieldAddr 90 (.tmp 13) 4, none, 0⟩,
  ⟨(some 72), .load 67 (.tmp 71), none, 0⟩,
  ⟨(some 73), .move (.tmp 4), none, 0⟩,
  ⟨(some 74), .call { callee := .value (.func 42), args := #[.tmp 72, .tmp 73], argTypes := #[67, 3] }, none, 0⟩,
  ⟨(some 16), .assign (.tmp 74), none, 0⟩]
def L21r12 : List AOp := [
  ⟨(some 75), .move (.tmp 16), none, 0⟩,
  ⟨(some 76), .binOp .neq 30 (.tmp 75) (.const .nilIface) 30, none, 0⟩]
def L21r13 : List AOp := [
  ⟨(some 77), .build 67 #[], none, 0⟩,
  ⟨(some 78), .move (.tmp 16), none, 0⟩,
  ⟨none, .store 67 (.tmp 10) (.tmp 77), none, 0⟩,
  ⟨(some 11), .assign (.const (.slice none 0 0)), none, 0⟩,
  ⟨(some 12), .assign (.tmp 78), none, 0⟩]
def L21r14 : List AOp := [
  ⟨(some 80), .fieldAddr 90 (.tmp 13) 4, none, 0⟩,
  ⟨(some 81), .fieldAddr 67 (.tmp 80) 0, none, 0⟩,
  ⟨(some 82), .load 3 (.tmp 81), none, 0⟩,
  ⟨(some 83), .move (.tmp 3), none, 0⟩,
  ⟨(some 84), .binOp .lss 3 (.tmp 82) (.tmp 83) 3, none, 0⟩,
  ⟨(some 79), .assign (.tmp 84), none, 0⟩]
def L21r15 : List AOp := [
  ⟨(some 85), .build 67 #[], none, 0⟩,
  ⟨(some 86), .makeInterface 38 (.const (.int .i64 16)), none, 0⟩,
  ⟨none, .store 67 (.tmp 10) (.tmp 85), none, 0⟩,
  ⟨(some 11), .assign (.const (.slice none 0 0)), none, 0⟩,
  ⟨(some 12), .assign (.tmp 86), none, 0⟩]
def L21r16 : List AOp := [
  ⟨(some 88), .fieldAddr 90 (.tmp 13) 5, none, 0⟩,
  ⟨(some 89), .load 57 (.tmp 88), none, 1⟩,
  ⟨(some 90), .call { callee := .value (.func 41), args := #[.tmp 89], argTypes := #[57] }, none, 3⟩,
  ⟨(some 91), .fieldAddr 90 (.tmp 13) 4, none, 0⟩,
  ⟨(some 92), .fieldAddr 67 (.tmp 91) 6, none, 8⟩,
  ⟨(some 93), .load 57 (.tmp 92), none, 24⟩,
  ⟨(some 94), .call { callee := .value (.func 43), args := #[.tmp 90, .tmp 93], argTypes := #[57, 57] }, none, 1267650600228229401496703205439⟩,
  ⟨(some 95), .unOp .not 4 (.tmp 94), none, 1267650600228229401496703205503⟩,
  ⟨(some 87), .assign (.tmp 95), none, 1267650600228229401496703205631⟩]
def L21r17 : List AOp := [
  ⟨(some 96), .build 67 #[], none, 0⟩,
  ⟨(some 97), .makeInterface 38 (.const (.int .i64 21)), none, 0⟩,
  ⟨none, .store 67 (.tmp 10) (.tmp 96), none, 0⟩,
  ⟨(some 11), .assign (.const (.slice none 0 0)), none, 0⟩,
  ⟨(some 12), .assign (.tmp 97), none, 0⟩]
def L21r18 : List AOp := [
  ⟨(some 99), .fieldAddr 49 (.tmp 6) 1, none, 0⟩,
  ⟨(some 100), .load 24 (.tmp 99), none, 0⟩,
  ⟨(some 101), .fieldAddr 90 (.tmp 13) 4, none, 0⟩,
  ⟨(some 102), .fieldAddr 67 (.tmp 101) 5, none, 0⟩,
  ⟨(some 103), .load 57 (.tmp 102), none, 0⟩,
  ⟨(some 104), .call { callee := .value (.func 44), args := #[.tmp 100, .tmp 103], argTypes := #[24, 57] }, none, 0⟩,
  ⟨(some 98), .move (.tmp 104), none, 0⟩,
  ⟨(some 105), .extract (.tmp 98) 0, none, 0⟩,
  ⟨(some 106), .extract (.tmp 98) 1, none, 0⟩,
  ⟨(some 17), .assign (.tmp 105), none, 0⟩,
  ⟨(some 14), .assign (.tmp 106), none, 0⟩]
def L21r19 : List AOp := [
  ⟨(some 107), .move (.tmp 14), none, 0⟩,
  ⟨(some 108), .binOp .neq 30 (.tmp 107) (.const .nilIface) 30, none, 0⟩]
def L21r20 : List AOp := [
  ⟨(some 109), .build 67 #[], none, 0⟩,
  ⟨(some 110), .move (.tmp 14), none, 0⟩,
  ⟨none, .store 67 (.tmp 10) (.tmp 109), none, 0⟩,
  ⟨(some 11), .assign (.const (.slice none 0 0)), none, 0⟩,
  ⟨(some 12), .assign (.tmp 110), none, 0⟩]
def L21r21 : List AOp := [
  ⟨(some 112), .move (.tmp 17), none, 0⟩,
  ⟨(some 113), .fieldAddr 90 (.tmp 13) 4, none, 0⟩,
  ⟨(some 114), .fieldAddr 67 (.tmp 113) 4, none, 0⟩,
  ⟨(some 115), .load 57 (.tmp 114), none, 0⟩,
  ⟨(some 116), .fieldAddr 90 (.tmp 13) 4, none, 0⟩,
  ⟨(some 117), .fieldAddr 67 (.tmp 116) 5, none, 0⟩,
  ⟨(some 118), .load 57 (.tmp 117), none, 0⟩,
  ⟨(some 119), .fieldAddr 90 (.tmp 13) 5, none, 0⟩,
  ⟨(some 120), .load 57 (.tmp 119), none, 0⟩,
  ⟨(some 121), .call { callee := .value (.func 45), args := #[.tmp 112, .tmp 115, .tmp 118, .tmp 120], argTypes := #[57, 57, 57, 57] }, none, 0⟩,
  ⟨(some 111), .move (.tmp 121), none, 0⟩,
  ⟨(some 122), .extract (.tmp 111) 0, none, 0⟩,
  ⟨(some 123), .extract (.tmp 111) 1, none, 0⟩,
  ⟨(some 18), .assign (.tmp 122), none, 0⟩,
  ⟨(some 14), .assign (.tmp 123), none, 0⟩]
def L21r22 : List AOp := [
  ⟨(some 125), .move (.tmp 14), none, 0⟩,
  ⟨(some 126), .binOp .neq 30 (.tmp 125) (.const .nilIface) 30, none, 0⟩,
  ⟨(some 124), .assign (.tmp 126), none, 0⟩]
def L21r23 : List AOp := [
  ⟨(some 127), .build 67 #[], none, 0⟩,
  ⟨(some 128), .move (.tmp 14), none, 0⟩,
  ⟨none, .store 67 (.tmp 10) (.tmp 127), none, 0⟩,
  ⟨(some 11), .assign (.const (.slice none 0 0)), none, 0⟩,
  ⟨(some 12), .assign (.tmp 128), none, 0⟩]
def L21r24 : List AOp := [
  ⟨(some 130), .move (.tmp 18), none, 0⟩,
  ⟨(some 131), .call { callee := .builtin .len, args := #[.tmp 130], argTypes := #[57] }, none, 0⟩,
  ⟨(some 132), .fieldAddr 90 (.tmp 13) 4, none, 0⟩,
  ⟨(some 133), .fieldAddr 67 (.tmp 132) 3, none, 0⟩,
  ⟨(some 134), .load 3 (.tmp 133), none, 0⟩,
  ⟨(some 135), .binOp .neq 3 (.tmp 131) (.tmp 134) 3, none, 0⟩,
  ⟨(some 129), .assign (.tmp 135), none, 0⟩]
def L21r25 : List AOp := [
  ⟨(some 136), .build 67 #[], none, 0⟩,
  ⟨(some 137), .makeInterface 38 (.const (.int .i64 20)), none, 0⟩,
  ⟨none, .store 67 (.tmp 10) (.tmp 136), none, 0⟩,
  ⟨(some 11), .assign (.const (.slice none 0 0)), none, 0⟩,
  ⟨(some 12), .assign (.tmp 137), none, 0⟩]
def L21r26 : List AOp := [
  ⟨(some 138), .fieldAddr 90 (.tmp 13) 4, none, 0⟩,
  ⟨(some 139), .load 67 (.tmp 138), none, 0⟩,
  ⟨(some 140), .move (.tmp 18), none, 0⟩,
  ⟨none, .store 67 (.tmp 10) (.tmp 139), none, 0⟩,
  ⟨(some 11), .assign (.tmp 140), none, 0⟩,
  ⟨(some 12), .assign (.const .nilIface), none, 0⟩]
def L21 : LC := (.seq (.region L21r0) (.seq (.region L21r1) (.seq (.seq (.region L21r2) (.cond (.tmp 25) (.seq (.region L21r3) .ret) .skip)) (.seq (.region L21r4) (.seq (.block 0 (.seq (.region L21r5) (.cond (.tmp 39) (.seq (.region L21r6) .ret) (.seq (.regionD L21r7) (.cond (.tmp 44) (.seq (.region L21r8) .ret) (.seq (.region L21r9) (.cond (.tmp 62) (.seq (.region L21r10) .ret) .skip))))))) (.seq (.seq (.region L21r11) (.seq (.region L21r12) (.cond (.tmp 76) (.seq (.region L21r13) .ret) .skip))) (.seq (.block 1 (.seq (.region L21r14) (.cond (.tmp 79) (.seq (.region L21r15) .ret) (.seq (.regionD L21r16) (.cond (.tmp 87) (.seq (.region L21r17) .ret) .skip))))) (.seq (.region L21r18) (.seq (.seq (.region L21r19) (.cond (.tmp 108) (.seq (.region L21r20) .ret) .skip)) (.seq (.region L21r21) (.seq (.block 2 (.seq (.region L21r22) (.cond (.tmp 124) (.seq (.region L21r23) .ret) (.seq (.region L21r24) (.cond (.tmp 129) (.seq (.region L21r25) .ret) .skip))))) (.seq (.region L21r26) .ret))))))))))))
theorem nt21 : Tryz.f21.ntmps = 141 := by kernel_rfl
theorem rs21 : Tryz.f21.results.toList = [.cell 10 67, .tmp 11, .tmp 12] := by kernel_rfl
theorem lite21 : Tryz.f21.body.map (lite okDraw) = some L21 := by kernel_rfl
def L23r0 : List AOp := [
  ⟨(some 6), .assign (.const .nilIface), none, 0⟩]
def L23r1 : List AOp := [
  ⟨(some 9), .move (.tmp 0), none, 0⟩,
  ⟨(some 10), .nilCheck (.tmp 9), none, 0⟩,
  ⟨(some 11), .fieldAddr 61 (.tmp 10) 3, none, 0⟩,
  ⟨(some 12), .load 4 (.tmp 11), none, 0⟩,
  ⟨(some 8), .assign (.tmp 12), none, 0⟩]
def L23r2 : List AOp := [
  ⟨(some 13), .makeInterface 38 (.const (.int .i64 15)), none, 0⟩,
  ⟨(some 6), .assign (.tmp 13), none, 0⟩]
def L23r3 : List AOp := [
  ⟨(some 15), .move (.tmp 1), none, 0⟩,
  ⟨(some 16), .binOp .lss 3 (.tmp 15) (.const (.int .i64 0)) 3, none, 0⟩,
  ⟨(some 17), .move (.tmp 16), none, 0⟩,
  ⟨(some 18), .move (.tmp 2), (some (17, false)), 0⟩,
  ⟨(some 19), .call { callee := .builtin .len, args := #[.tmp 18], argTypes := #[57] }, (some (17, false)), 0⟩,
  ⟨(some 20), .move (.tmp 0), (some (17, false)), 0⟩,
  ⟨(some 21), .nilCheck (.tmp 20), (some (17, false)), 0⟩,
  ⟨(some 22), .fieldAddr 61 (.tmp 21) 1, (some (17, false)), 0⟩,
  ⟨(some 23), .load 57 (.tmp 22), (some (17, false)), 0⟩,
  ⟨(some 24), .call { callee := .builtin .len, args := #[.tmp 23], argTypes := #[57] }, (some (17, false)), 0⟩,
  ⟨(some 25), .binOp .gtr 3 (.tmp 19) (.tmp 24) 3, (some (17, false)), 0⟩,
  ⟨(some 26), .pick (.tmp 17) (.const (.bool true)) (.tmp 25), none, 0⟩,
  ⟨(some 27), .move (.tmp 26), none, 0⟩,
  ⟨(some 28), .move (.tmp 1), (some (27, false)), 0⟩,
  ⟨(some 29), .move (.tmp 0), (some (27, false)), 0⟩,
  ⟨(some 30), .nilCheck (.tmp 29), (some (27, false)), 0⟩,
  ⟨(some 31), .fieldAddr 61 (.tmp 30) 1, (some (27, false)), 0⟩,
  ⟨(some 32), .load 57 (.tmp 31), (some (27, false)), 0⟩,
  ⟨(some 33), .call { callee := .builtin .len, args := #[.tmp 32], argTypes := #[57] }, (some (27, false)), 0⟩,
  ⟨(some 34), .move (.tmp 2), (some (27, false)), 0⟩,
  ⟨(some 35), .call { callee := .builtin .len, args := #[.tmp 34], argTypes := #[57] }, (some (27, false)), 0⟩,
  ⟨(some 36), .binOp .sub 3 (.tmp 33) (.tmp 35) 3, (some (27, false)), 0⟩,
  ⟨(some 37), .binOp .gtr 3 (.tmp 28) (.tmp 36) 3, (some (27, false)), 0⟩,
  ⟨(some 38), .pick (.tmp 27) (.const (.bool true)) (.tmp 37), none, 0⟩,
  ⟨(some 14), .assign (.tmp 38), none, 0⟩]
def L23r4 : List AOp := [
  ⟨(some 39), .makeInterface 38 (.const (.int .i64 20)), none, 0⟩,
  ⟨(some 6), .assign (.tmp 39), none, 0⟩]
def L23r5 : List AOp := [
  ⟨(some 40), .move (.tmp 2), none, 0⟩,
  ⟨(some 41), .call { callee := .builtin .len, args := #[.tmp 40], argTypes := #[57] }, none, 0⟩,
  ⟨(some 42), .binOp .gtr 3 (.tmp 41) (.const (.int .i64 0)) 3, none, 0⟩]
def L23r6 : List AOp := [
  ⟨(some 43), .move (.tmp 2), none, 0⟩,
  ⟨(some 44), .call { callee := .builtin .len, args := #[.tmp 43], argTypes := #[57] }, none, 0⟩,
  ⟨(some 45), .call { callee := .builtin .min, args := #[.tmp 44, .const (.int .i64 16)], argTypes := #[3, 3] }, none, 0⟩,
  ⟨(some 7), .assign (.tmp 45), none, 0⟩]
def L23r7 : List AOp := [
  ⟨(some 46), .move (.tmp 0), none, 0⟩,
  ⟨(some 47), .call { callee := .value (.func 50), args := #[.tmp 46], argTypes := #[35] }, none, 0⟩,
  ⟨(some 48), .unOp .not 4 (.tmp 47), none, 0⟩]
def L23r8 : List AOp := [
  ⟨(some 49), .makeInterface 38 (.const (.int .i64 15)), none, 0⟩,
  ⟨(some 6), .assign (.tmp 49), none, 0⟩]
def L23r9 : List AOp := [
  ⟨(some 50), .move (.tmp 0), none, 0⟩,
  ⟨(some 51), .nilCheck (.tmp 50), none, 1⟩,
  ⟨(some 52), .fieldAddr 61 (.tmp 51) 1, none, 3⟩,
  ⟨(some 53), .load 57 (.tmp 52), none, 7⟩,
  ⟨(some 54), .move (.tmp 1), none, 0⟩,
  ⟨(some 55), .slice 57 (.tmp 53) (some (.tmp 54)) none none, none, 31⟩,
  ⟨(some 56), .move (.tmp 2), none, 0⟩,
  ⟨(some 57), .move (.tmp 7), none, 0⟩,
  ⟨(some 58), .slice 57 (.tmp 56) none (some (.tmp 57)) none, none, 192⟩,
  ⟨(some 59), .call { callee := .builtin .copy, args := #[.tmp 55, .tmp 58], argTypes := #[57, 57] }, none, 1267650600228229401496703205887⟩]
def L23r10 : List AOp := [
  ⟨(some 60), .move (.tmp 1), none, 0⟩,
  ⟨(some 61), .move (.tmp 7), none, 0⟩,
  ⟨(some 62), .binOp .add 3 (.tmp 60) (.tmp 61) 3, none, 3⟩,
  ⟨(some 63), .move (.tmp 2), none, 0⟩,
  ⟨(some 64), .move (.tmp 7), none, 0⟩,
  ⟨(some 65), .slice 57 (.tmp 63) (some (.tmp 64)) none none, none, 24⟩,
  ⟨(some 1), .assign (.tmp 62), none, 7⟩,
  ⟨(some 2), .assign (.tmp 65), none, 1267650600228229401496703205503⟩]
def L23r11 : List AOp := [
  ⟨(some 6), .assign (.const .nilIface), none, 0⟩]
def L23 : LC := (.seq (.region L23r0) (.seq (.block 0 (.seq (.region L23r1) (.cond (.tmp 8) (.seq (.region L23r2) .ret) (.seq (.region L23r3) (.cond (.tmp 14) (.seq (.region L23r4) .ret) .skip))))) (.seq (.block 1 (.loop (.seq (.seq (.region L23r5) (.cond (.tmp 42) .skip (.exit 1))) (.block 2 (.seq (.region L23r6) (.seq (.seq (.region L23r7) (.cond (.tmp 48) (.seq (.region L23r8) .ret) .skip)) (.seq (.regionD L23r9) (.regionD L23r10)))))))) (.seq (.region L23r11) .ret))))
theorem nt23 : Tryz.f23.ntmps = 66 := by kernel_rfl
theorem rs23 : Tryz.f23.results.toList = [.tmp 6] := by kernel_rfl
theorem lite23 : Tryz.f23.body.map (lite okDraw) = some L23 := by kernel_rfl
def L25r0 : List AOp := [
  ⟨(some 2), .box 24 (.tmp 0), none, 0⟩,
  ⟨(some 3), .box 24 (.tmp 1), none, 0⟩,
  ⟨(some 4), .assign (.const (.int .u64 0)), none, 0⟩]
def L25r1 : List AOp := [
  ⟨(some 8), .load 24 (.tmp 2), none, 0⟩,
  ⟨(some 9), .load 24 (.tmp 3), none, 0⟩,
  ⟨(some 10), .call { callee := .value (.func 51), args := #[.tmp 8, .tmp 9], argTypes := #[24, 24] }, none, 0⟩,
  ⟨(some 7), .move (.tmp 10), none, 0⟩,
  ⟨(some 11), .extract (.tmp 7) 0, none, 0⟩,
  ⟨(some 12), .extract (.tmp 7) 1, none, 0⟩,
  ⟨(some 5), .alloc 24, none, 0⟩,
  ⟨none, .store 24 (.tmp 5) (.tmp 11), none, 0⟩,
  ⟨(some 6), .assign (.tmp 12), none, 0⟩]
def L25r2 : List AOp := [
  ⟨(some 13), .move (.tmp 6), none, 0⟩,
  ⟨(some 4), .assign (.tmp 13), none, 0⟩]
def L25 : LC := (.seq (.region L25r0) (.seq (.region L25r1) (.seq (.region L25r2) .ret)))
theorem nt25 : Tryz.f25.ntmps = 14 := by kernel_rfl
theorem rs25 : Tryz.f25.results.toList = [.tmp 4] := by kernel_rfl
theorem lite25 : Tryz.f25.body.map (lite okDraw) = some L25 := by kernel_rfl
def L26r0 : List AOp := [
  ⟨(some 0), .alloc 24, none, 0⟩]
def L26r1 : List AOp := [
  ⟨(some 1), .fieldAddr 81 (.global 4) 0, none, 0⟩,
  ⟨(some 2), .load 24 (.tmp 1), none, 0⟩,
  ⟨none, .store 24 (.tmp 0) (.tmp 2), none, 0⟩]
def L26 : LC := (.seq (.region L26r0) (.seq (.region L26r1) .ret))
theorem nt26 : Tryz.f26.ntmps = 3 := by kernel_rfl
theorem rs26 : Tryz.f26.results.toList = [.cell 0 24] := by kernel_rfl
theorem lite26 : Tryz.f26.body.map (lite okDraw) = some L26 := by kernel_rfl
def L27r0 : List AOp := [
  ⟨(some 2), .box 24 (.tmp 0), none, 0⟩,
  ⟨(some 3), .box 24 (.tmp 1), none, 0⟩,
  ⟨(some 4), .alloc 24, none, 0⟩]
def L27r1 : List AOp := [
  ⟨(some 5), .load 24 (.tmp 2), none, 0⟩,
  ⟨(some 6), .load 24 (.tmp 3), none, 0⟩,
  ⟨(some 7), .load 81 (.global 4), none, 0⟩,
  ⟨(some 8), .call { callee := .value (.func 52), args := #[.tmp 5, .tmp 6, .tmp 7], argTypes := #[24, 24, 81] }, none, 0⟩,
  ⟨none, .store 24 (.tmp 4) (.tmp 8), none, 0⟩]
def L27 : LC := (.seq (.region L27r0) (.seq (.region L27r1) .ret))
theorem nt27 : Tryz.f27.ntmps = 9 := by kernel_rfl
theorem rs27 : Tryz.f27.results.toList = [.cell 4 24] := by kernel_rfl
theorem lite27 : Tryz.f27.body.map (lite okDraw) = some L27 := by kernel_rfl
def L28r0 : List AOp := [
  ⟨(some 2), .box 24 (.tmp 0), none, 0⟩,
  ⟨(some 3), .box 24 (.tmp 1), none, 0⟩,
  ⟨(some 4), .alloc 24, none, 0⟩]
def L28r1 : List AOp := [
  ⟨(some 5), .load 24 (.tmp 2), none, 0⟩,
  ⟨(some 6), .load 24 (.tmp 3), none, 0⟩,
  ⟨(some 7), .load 81 (.global 4), none, 0⟩,
  ⟨(some 8), .call { callee := .value (.func 53), args := #[.tmp 5, .tmp 6, .tmp 7], argTypes := #[24, 24, 81] }, none, 0⟩,
  ⟨none, .store 24 (.tmp 4) (.tmp 8), none, 0⟩]
def L28 : LC := (.seq (.region L28r0) (.seq (.region L28r1) .ret))
theorem nt28 : Tryz.f28.ntmps = 9 := by kernel_rfl
theorem rs28 : Tryz.f28.results.toList = [.cell 4 24] := by kernel_rfl
theorem lite28 : Tryz.f28.body.map (lite okDraw) = some L28 := by kernel_rfl
def L29r0 : List AOp := [
  ⟨(some 2), .box 24 (.tmp 0), none, 0⟩,
  ⟨(some 3), .box 24 (.tmp 1), none, 0⟩,
  ⟨(some 4), .alloc 24, none, 0⟩]
def L29r1 : List AOp := [
  ⟨(some 5), .load 24 (.tmp 2), none, 0⟩,
  ⟨(some 6), .load 24 (.tmp 3), none, 0⟩,
  ⟨(some 7), .load 81 (.global 4), none, 0⟩,
  ⟨(some 8), .call { callee := .value (.func 54), args := #[.tmp 5, .tmp 6, .tmp 7], argTypes := #[24, 24, 81] }, none, 0⟩,
  ⟨none, .store 24 (.tmp 4) (.tmp 8), none, 0⟩]
def L29 : LC := (.seq (.region L29r0) (.seq (.region L29r1) .ret))
theorem nt29 : Tryz.f29.ntmps = 9 := by kernel_rfl
theorem rs29 : Tryz.f29.results.toList = [.cell 4 24] := by kernel_rfl
theorem lite29 : Tryz.f29.body.map (lite okDraw) = some L29 := by kernel_rfl
def L30r0 : List AOp := [
  ⟨(some 0), .alloc 24, none, 0⟩]
def L30r1 : List AOp := [
  ⟨(some 1), .load 24 (.global 5), none, 0⟩,
  ⟨(some 2), .build 24 #[(0, .const (.int .u64 1))], none, 0⟩,
  ⟨(some 3), .call { callee := .value (.func 56), args := #[.tmp 1, .tmp 2], argTypes := #[24, 24] }, none, 3⟩,
  ⟨(some 4), .load 81 (.global 1), none, 0⟩,
  ⟨(some 5), .call { callee := .value (.func 55), args := #[.tmp 3, .tmp 4], argTypes := #[121, 81] }, none, 1267650600228229401496703205391⟩,
  ⟨none, .store 24 (.tmp 0) (.tmp 5), none, 1267650600228229401496703205407⟩]
def L30 : LC := (.seq (.region L30r0) (.seq (.regionD L30r1) .ret))
theorem nt30 : Tryz.f30.ntmps = 6 := by kernel_rfl
theorem rs30 : Tryz.f30.results.toList = [.cell 0 24] := by kernel_rfl
theorem lite30 : Tryz.f30.body.map (lite okDraw) = some L30 := by kernel_rfl
def L31r0 : List AOp := [
  ⟨(some 2), .box 52 (.tmp 0), none, 0⟩,
  ⟨(some 3), .box 52 (.tmp 1), none, 0⟩,
  ⟨(some 4), .alloc 52, none, 0⟩]
def L31r1 : List AOp := [
  ⟨(some 13), .fieldAddr 52 (.tmp 2) 0, none, 0⟩,
  ⟨(some 14), .load 24 (.tmp 13), none, 1⟩,
  ⟨(some 15), .fieldAddr 52 (.tmp 3) 0, none, 0⟩,
  ⟨(some 16), .load 24 (.tmp 15), none, 4⟩,
  ⟨(some 17), .call { callee := .value (.func 34), args := #[.tmp 14, .tmp 16], argTypes := #[24, 24] }, none, 15⟩,
  ⟨(some 18), .fieldAddr 52 (.tmp 2) 1, none, 0⟩,
  ⟨(some 19), .load 24 (.tmp 18), none, 32⟩,
  ⟨(some 20), .fieldAddr 52 (.tmp 3) 1, none, 0⟩,
  ⟨(some 21), .load 24 (.tmp 20), none, 128⟩,
  ⟨(some 22), .call { callee := .value (.func 34), args := #[.tmp 19, .tmp 21], argTypes := #[24, 24] }, none, 511⟩,
  ⟨(some 23), .fieldAddr 52 (.tmp 2) 2, none, 0⟩,
  ⟨(some 24), .load 24 (.tmp 23), none, 1024⟩,
  ⟨(some 25), .fieldAddr 52 (.tmp 3) 2, none, 0⟩,
  ⟨(some 26), .load 24 (.tmp 25), none, 4096⟩,
  ⟨(some 27), .call { callee := .value (.func 34), args := #[.tmp 24, .tmp 26], argTypes := #[24, 24] }, none, 16383⟩,
  ⟨(some 5), .alloc 24, none, 0⟩,
  ⟨(some 6), .alloc 24, none, 0⟩,
  ⟨(some 7), .alloc 24, none, 0⟩,
  ⟨none, .store 24 (.tmp 5) (.tmp 17), none, 1267650600228229401496703467519⟩,
  ⟨none, .store 24 (.tmp 6) (.tmp 22), none, 1267650600228229401496703729663⟩,
  ⟨none, .store 24 (.tmp 7) (.tmp 27), none, 1267650600228229401496704253951⟩]
def L31r2 : List AOp := [
  ⟨(some 28), .fieldAddr 52 (.tmp 2) 0, none, 0⟩,
  ⟨(some 29), .load 24 (.tmp 28), none, 1⟩,
  ⟨(some 30), .fieldAddr 52 (.tmp 2) 1, none, 0⟩,
  ⟨(some 31), .load 24 (.tmp 30), none, 4⟩,
  ⟨(some 32), .call { callee := .value (.func 58), args := #[.tmp 29, .tmp 31], argTypes := #[24, 24] }, none, 15⟩,
  ⟨(some 33), .fieldAddr 52 (.tmp 3) 0, none, 0⟩,
  ⟨(some 34), .load 24 (.tmp 33), none, 32⟩,
  ⟨(some 35), .fieldAddr 52 (.tmp 3) 1, none, 0⟩,
  ⟨(some 36), .load 24 (.tmp 35), none, 128⟩,
  ⟨(some 37), .call { callee := .value (.func 58), args := #[.tmp 34, .tmp 36], argTypes := #[24, 24] }, none, 511⟩,
  ⟨(some 38), .call { callee := .value (.func 34), args := #[.tmp 32, .tmp 37], argTypes := #[24, 24] }, none, 1023⟩,
  ⟨(some 39), .load 24 (.tmp 5), none, 0⟩,
  ⟨(some 40), .load 24 (.tmp 6), none, 0⟩,
  ⟨(some 41), .call { callee := .value (.func 58), args := #[.tmp 39, .tmp 40], argTypes := #[24, 24] }, none, 8191⟩,
  ⟨(some 42), .call { callee := .value (.func 57), args := #[.tmp 38, .tmp 41], argTypes := #[24, 24] }, none, 16383⟩,
  ⟨(some 8), .alloc 24, none, 0⟩,
  ⟨none, .store 24 (.tmp 8) (.tmp 42), none, 1267650600228229401496703270911⟩]
def L31r3 : List AOp := [
  ⟨(some 43), .fieldAddr 52 (.tmp 2) 1, none, 0⟩,
  ⟨(some 44), .load 24 (.tmp 43), none, 1⟩,
  ⟨(some 45), .fieldAddr 52 (.tmp 2) 2, none, 0⟩,
  ⟨(some 46), .load 24 (.tmp 45), none, 4⟩,
  ⟨(some 47), .call { callee := .value (.func 58), args := #[.tmp 44, .tmp 46], argTypes := #[24, 24] }, none, 15⟩,
  ⟨(some 48), .fieldAddr 52 (.tmp 3) 1, none, 0⟩,
  ⟨(some 49), .load 24 (.tmp 48), none, 32⟩,
  ⟨(some 50), .fieldAddr 52 (.tmp 3) 2, none, 0⟩,
  ⟨(some 51), .load 24 (.tmp 50), none, 128⟩,
  ⟨(some 52), .call { callee := .value (.func 58), args := #[.tmp 49, .tmp 51], argTypes := #[24, 24] }, none, 511⟩,
  ⟨(some 53), .call { callee := .value (.func 34), args := #[.tmp 47, .tmp 52], argTypes := #[24, 24] }, none, 1023⟩,
  ⟨(some 54), .load 24 (.tmp 6), none, 0⟩,
  ⟨(some 55), .load 24 (.tmp 7), none, 0⟩,
  ⟨(some 56), .call { callee := .value (.func 58), args := #[.tmp 54, .tmp 55], argTypes := #[24, 24] }, none, 8191⟩,
  ⟨(some 57), .call { callee := .value (.func 57), args := #[.tmp 53, .tmp 56], argTypes := #[24, 24] }, none, 16383⟩,
  ⟨(some 9), .alloc 24, none, 0⟩,
  ⟨none, .store 24 (.tmp 9) (.tmp 57), none, 1267650600228229401496703270911⟩]
def L31r4 : List AOp := [
  ⟨(some 58), .fieldAddr 52 (.tmp 2) 0, none, 0⟩,
  ⟨(some 59), .load 24 (.tmp 58), none, 1⟩,
  ⟨(some 60), .fieldAddr 52 (.tmp 2) 2, none, 0⟩,
  ⟨(some 61), .load 24 (.tmp 60), none, 4⟩,
  ⟨(some 62), .call { callee := .value (.func 58), args := #[.tmp 59, .tmp 61], argTypes := #[24, 24] }, none, 15⟩,
  ⟨(some 63), .fieldAddr 52 (.tmp 3) 0, none, 0⟩,
  ⟨(some 64), .load 24 (.tmp 63), none, 32⟩,
  ⟨(some 65), .fieldAddr 52 (.tmp 3) 2, none, 0⟩,
  ⟨(some 66), .load 24 (.tmp 65), none, 128⟩,
  ⟨(some 67), .call { callee := .value (.func 58), args := #[.tmp 64, .tmp 66], argTypes := #[24, 24] }, none, 511⟩,
  ⟨(some 68), .call { callee := .value (.func 34), args := #[.tmp 62, .tmp 67], argTypes := #[24, 24] }, none, 1023⟩,
  ⟨(some 69), .load 24 (.tmp 5), none, 0⟩,
  ⟨(some 70), .load 24 (.tmp 7), none, 0⟩,
  ⟨(some 71), .call { callee := .value (.func 58), args := #[.tmp 69, .tmp 70], argTypes := #[24, 24] }, none, 8191⟩,
  ⟨(some 72), .call { callee := .value (.func 57), args := #[.tmp 68, .tmp 71], argTypes := #[24, 24] }, none, 16383⟩,
  ⟨(some 10), .alloc 24, none, 0⟩,
  ⟨none, .store 24 (.tmp 10) (.tmp 72), none, 1267650600228229401496703270911⟩]
def L31r5 : List AOp := [
  ⟨(some 73), .load 24 (.tmp 10), none, 0⟩,
  ⟨(some 74), .load 24 (.global 5), none, 0⟩,
  ⟨(some 75), .load 24 (.tmp 7), none, 0⟩,
  ⟨(some 76), .call { callee := .value (.func 34), args := #[.tmp 74, .tmp 75], argTypes := #[24, 24] }, none, 6⟩,
  ⟨(some 77), .call { callee := .value (.func 57), args := #[.tmp 73, .tmp 76], argTypes := #[24, 24] }, none, 15⟩,
  ⟨(some 78), .call { callee := .value (.func 59), args := #[.tmp 77], argTypes := #[24] }, none, 31⟩,
  ⟨(some 11), .alloc 24, none, 0⟩,
  ⟨none, .store 24 (.tmp 11) (.tmp 78), none, 1267650600228229401496703205503⟩]
def L31r6 : List AOp := [
  ⟨(some 79), .load 24 (.tmp 6), none, 0⟩,
  ⟨(some 80), .load 24 (.tmp 11), none, 0⟩,
  ⟨(some 81), .call { callee := .value (.func 57), args := #[.tmp 79, .tmp 80], argTypes := #[24, 24] }, none, 0⟩,
  ⟨(some 12), .alloc 24, none, 0⟩,
  ⟨none, .store 24 (.tmp 12) (.tmp 81), none, 0⟩]
def L31r7 : List AOp := [
  ⟨(some 82), .load 24 (.tmp 6), none, 0⟩,
  ⟨(some 83), .load 24 (.tmp 11), none, 0⟩,
  ⟨(some 84), .call { callee := .value (.func 58), args := #[.tmp 82, .tmp 83], argTypes := #[24, 24] }, none, 0⟩,
  ⟨none, .store 24 (.tmp 11) (.tmp 84), none, 0⟩]
def L31r8 : List AOp := [
  ⟨(some 85), .load 24 (.tmp 7), none, 0⟩,
  ⟨(some 86), .call { callee := .value (.func 59), args := #[.tmp 85], argTypes := #[24] }, none, 0⟩,
  ⟨none, .store 24 (.tmp 7) (.tmp 86), none, 0⟩]
def L31r9 : List AOp := [
  ⟨(some 87), .load 24 (.global 5), none, 0⟩,
  ⟨(some 88), .load 24 (.tmp 10), none, 0⟩,
  ⟨(some 89), .call { callee := .value (.func 34), args := #[.tmp 87, .tmp 88], argTypes := #[24, 24] }, none, 3⟩,
  ⟨(some 90), .load 24 (.tmp 7), none, 0⟩,
  ⟨(some 91), .call { callee := .value (.func 57), args := #[.tmp 89, .tmp 90], argTypes := #[24, 24] }, none, 15⟩,
  ⟨(some 92), .load 24 (.tmp 5), none, 0⟩,
  ⟨(some 93), .call { callee := .value (.func 57), args := #[.tmp 91, .tmp 92], argTypes := #[24, 24] }, none, 1267650600228229401496703205439⟩,
  ⟨(some 94), .call { callee := .value (.func 59), args := #[.tmp 93], argTypes := #[24] }, none, 1267650600228229401496703205503⟩,
  ⟨none, .store 24 (.tmp 10) (.tmp 94), none, 1267650600228229401496703205631⟩]
def L31r10 : List AOp := [
  ⟨(some 95), .load 24 (.tmp 5), none, 0⟩,
  ⟨(some 96), .call { callee := .value (.func 59), args := #[.tmp 95], argTypes := #[24] }, none, 1⟩,
  ⟨(some 97), .load 24 (.tmp 7), none, 0⟩,
  ⟨(some 98), .call { callee := .value (.func 57), args := #[.tmp 96, .tmp 97], argTypes := #[24, 24] }, none, 1267650600228229401496703205383⟩,
  ⟨none, .store 24 (.tmp 5) (.tmp 98), none, 1267650600228229401496703205391⟩]
def L31r11 : List AOp := [
  ⟨(some 99), .load 24 (.tmp 9), none, 0⟩,
  ⟨(some 100), .load 24 (.tmp 10), none, 0⟩,
  ⟨(some 101), .call { callee := .value (.func 34), args := #[.tmp 99, .tmp 100], argTypes := #[24, 24] }, none, 3⟩,
  ⟨(some 102), .load 24 (.tmp 5), none, 0⟩,
  ⟨(some 103), .load 24 (.tmp 10), none, 0⟩,
  ⟨(some 104), .call { callee := .value (.func 34), args := #[.tmp 102, .tmp 103], argTypes := #[24, 24] }, none, 1267650600228229401496703205407⟩,
  ⟨none, .store 24 (.tmp 6) (.tmp 101), none, 1267650600228229401496703205439⟩,
  ⟨none, .store 24 (.tmp 7) (.tmp 104), none, 1267650600228229401496703205503⟩]
def L31r12 : List AOp := [
  ⟨(some 105), .load 24 (.tmp 8), none, 0⟩,
  ⟨(some 106), .load 24 (.tmp 11), none, 0⟩,
  ⟨(some 107), .call { callee := .value (.func 34), args := #[.tmp 105, .tmp 106], argTypes := #[24, 24] }, none, 3⟩,
  ⟨(some 108), .load 24 (.tmp 6), none, 0⟩,
  ⟨(some 109), .call { callee := .value (.func 57), args := #[.tmp 107, .tmp 108], argTypes := #[24, 24] }, none, 15⟩,
  ⟨(some 110), .load 24 (.tmp 11), none, 0⟩,
  ⟨(some 111), .load 24 (.tmp 12), none, 0⟩,
  ⟨(some 112), .call { callee := .value (.func 34), args := #[.tmp 110, .tmp 111], argTypes := #[24, 24] }, none, 127⟩,
  ⟨(some 113), .load 24 (.tmp 7), none, 0⟩,
  ⟨(some 114), .call { callee := .value (.func 58), args := #[.tmp 112, .tmp 113], argTypes := #[24, 24] }, none, 511⟩,
  ⟨(some 115), .load 24 (.tmp 9), none, 0⟩,
  ⟨(some 116), .load 24 (.tmp 12), none, 0⟩,
  ⟨(some 117), .call { callee := .value (.func 34), args := #[.tmp 115, .tmp 116], argTypes := #[24, 24] }, none, 4095⟩,
  ⟨(some 118), .load 24 (.tmp 8), none, 0⟩,
  ⟨(some 119), .load 24 (.tmp 5), none, 0⟩,
  ⟨(some 120), .call { callee := .value (.func 34), args := #[.tmp 118, .tmp 119], argTypes := #[24, 24] }, none, 1267650600228229401496703238143⟩,
  ⟨(some 121), .call { callee := .value (.func 58), args := #[.tmp 117, .tmp 120], argTypes := #[24, 24] }, none, 1267650600228229401496703270911⟩,
  ⟨(some 122), .build 52 #[(0, .tmp 109), (1, .tmp 114), (2, .tmp 121)], none, 1267650600228229401496703336447⟩,
  ⟨none, .store 52 (.tmp 4) (.tmp 122), none, 1267650600228229401496703467519⟩]
def L31 : LC := (.seq (.region L31r0) (.seq (.regionD L31r1) (.seq (.regionD L31r2) (.seq (.regionD L31r3) (.seq (.regionD L31r4) (.seq (.regionD L31r5) (.seq (.region L31r6) (.seq (.region L31r7) (.seq (.region L31r8) (.seq (.regionD L31r9) (.seq (.regionD L31r10) (.seq (.regionD L31r11) (.seq (.regionD L31r12) .ret)))))))))))))
theorem nt31 : Tryz.f31.ntmps = 123 := by kernel_rfl
theorem rs31 : Tryz.f31.results.toList = [.cell 4 52] := by kernel_rfl
theorem lite31 : Tryz.f31.body.map (lite okDraw) = some L31 := by kernel_rfl
def L32r0 : List AOp := [
  ⟨(some 4), .box 52 (.tmp 1), none, 0⟩,
  ⟨(some 5), .box 52 (.tmp 2), none, 0⟩,
  ⟨(some 6), .alloc 52, none, 0⟩]
def L32r1 : List AOp := [
  ⟨(some 7), .move (.tmp 0), none, 0⟩,
  ⟨(some 8), .fieldAddr 52 (.tmp 4) 0, none, 0⟩,
  ⟨(some 9), .load 24 (.tmp 8), none, 2⟩,
  ⟨(some 10), .fieldAddr 52 (.tmp 5) 0, none, 0⟩,
  ⟨(some 11), .load 24 (.tmp 10), none, 8⟩,
  ⟨(some 12), .call { callee := .value (.func 60), args := #[.tmp 7, .tmp 9, .tmp 11], argTypes := #[22, 24, 24] }, none, 31⟩,
  ⟨(some 13), .move (.tmp 0), none, 0⟩,
  ⟨(some 14), .fieldAddr 52 (.tmp 4) 1, none, 0⟩,
  ⟨(some 15), .load 24 (.tmp 14), none, 128⟩,
  ⟨(some 16), .fieldAddr 52 (.tmp 5) 1, none, 0⟩,
  ⟨(some 17), .load 24 (.tmp 16), none, 512⟩,
  ⟨(some 18), .call { callee := .value (.func 60), args := #[.tmp 13, .tmp 15, .tmp 17], argTypes := #[22, 24, 24] }, none, 2047⟩,
  ⟨(some 19), .move (.tmp 0), none, 0⟩,
  ⟨(some 20), .fieldAddr 52 (.tmp 4) 2, none, 0⟩,
  ⟨(some 21), .load 24 (.tmp 20), none, 8192⟩,
  ⟨(some 22), .fieldAddr 52 (.tmp 5) 2, none, 0⟩,
  ⟨(some 23), .load 24 (.tmp 22), none, 32768⟩,
  ⟨(some 24), .call { callee := .value (.func 60), args := #[.tmp 19, .tmp 21, .tmp 23], argTypes := #[22, 24, 24] }, none, 1267650600228229401496703336447⟩,
  ⟨(some 25), .build 52 #[(0, .tmp 12), (1, .tmp 18), (2, .tmp 24)], none, 1267650600228229401496703467519⟩,
  ⟨none, .store 52 (.tmp 6) (.tmp 25), none, 1267650600228229401496703729663⟩]
def L32 : LC := (.seq (.region L32r0) (.seq (.regionD L32r1) .ret))
theorem nt32 : Tryz.f32.ntmps = 26 := by kernel_rfl
theorem rs32 : Tryz.f32.results.toList = [.cell 6 52] := by kernel_rfl
theorem lite32 : Tryz.f32.body.map (lite okDraw) = some L32 := by kernel_rfl
def L33r0 : List AOp := [
  ⟨(some 2), .box 24 (.tmp 0), none, 0⟩,
  ⟨(some 4), .assign (.const (.int .u64 0)), none, 0⟩]
def L33r1 : List AOp := [
  ⟨(some 5), .move (.tmp 1), none, 0⟩,
  ⟨(some 6), .binOp .lss 3 (.tmp 5) (.const (.int .i64 0)) 3, none, 0⟩,
  ⟨(some 7), .move (.tmp 6), none, 0⟩,
  ⟨(some 8), .move (.tmp 1), (some (7, false)), 0⟩,
  ⟨(some 9), .binOp .geq 3 (.tmp 8) (.const (.int .i64 384)) 3, (some (7, false)), 0⟩,
  ⟨(some 10), .pick (.tmp 7) (.const (.bool true)) (.tmp 9), none, 0⟩]
def L33r2 : List AOp := [
  ⟨(some 4), .assign (.const (.int .u64 0)), none, 0⟩]
def L33r3 : List AOp := [
  ⟨(some 11), .move (.tmp 1), none, 0⟩,
  ⟨(some 12), .binOp .quo 3 (.tmp 11) (.const (.int .i64 64)) 3, none, 0⟩,
  ⟨(some 13), .indexAddr 24 (.tmp 2) (.tmp 12), none, 0⟩,
  ⟨(some 14), .load 22 (.tmp 13), none, 0⟩,
  ⟨(some 15), .move (.tmp 1), none, 0⟩,
  ⟨(some 16), .binOp .rem 3 (.tmp 15) (.const (.int .i64 64)) 3, none, 0⟩,
  ⟨(some 17), .binOp .shr 22 (.tmp 14) (.tmp 16) 3, none, 0⟩,
  ⟨(some 18), .binOp .and 22 (.tmp 17) (.const (.int .u64 1)) 22, none, 0⟩,
  ⟨(some 4), .assign (.tmp 18), none, 0⟩]
def L33 : LC := (.seq (.region L33r0) (.seq (.seq (.region L33r1) (.cond (.tmp 10) (.seq (.region L33r2) .ret) .skip)) (.seq (.region L33r3) .ret)))
theorem nt33 : Tryz.f33.ntmps = 19 := by kernel_rfl
theorem rs33 : Tryz.f33.results.toList = [.tmp 4] := by kernel_rfl
theorem lite33 : Tryz.f33.body.map (lite okDraw) = some L33 := by kernel_rfl
def L34r0 : List AOp := [
  ⟨(some 2), .box 24 (.tmp 0), none, 0⟩,
  ⟨(some 3), .box 24 (.tmp 1), none, 0⟩,
  ⟨(some 4), .alloc 24, none, 0⟩]
def L34r1 : List AOp := [
  ⟨(some 5), .load 24 (.tmp 2), none, 0⟩,
  ⟨(some 6), .load 24 (.tmp 3), none, 0⟩,
  ⟨(some 7), .call { callee := .value (.func 56), args := #[.tmp 5, .tmp 6], argTypes := #[24, 24] }, none, 3⟩,
  ⟨(some 8), .load 81 (.global 1), none, 0⟩,
  ⟨(some 9), .call { callee := .value (.func 55), args := #[.tmp 7, .tmp 8], argTypes := #[121, 81] }, none, 1267650600228229401496703205391⟩,
  ⟨none, .store 24 (.tmp 4) (.tmp 9), none, 1267650600228229401496703205407⟩]
def L34 : LC := (.seq (.region L34r0) (.seq (.regionD L34r1) .ret))
theorem nt34 : Tryz.f34.ntmps = 10 := by kernel_rfl
theorem rs34 : Tryz.f34.results.toList = [.cell 4 24] := by kernel_rfl
theorem lite34 : Tryz.f34.body.map (lite okDraw) = some L34 := by kernel_rfl
def L35r0 : List AOp := [
  ⟨(some 1), .box 24 (.tmp 0), none, 0⟩,
  ⟨(some 2), .alloc 24, none, 0⟩]
def L35r1 : List AOp := [
  ⟨(some 6), .fieldAddr 81 (.global 4) 0, none, 0⟩,
  ⟨(some 7), .load 24 (.tmp 6), none, 0⟩,
  ⟨(some 8), .build 24 #[(0, .const (.int .u64 2))], none, 0⟩,
  ⟨(some 9), .call { callee := .value (.func 51), args := #[.tmp 7, .tmp 8], argTypes := #[24, 24] }, none, 0⟩,
  ⟨(some 5), .move (.tmp 9), none, 0⟩,
  ⟨(some 10), .extract (.tmp 5) 0, none, 0⟩,
  ⟨(some 11), .extract (.tmp 5) 1, none, 0⟩,
  ⟨(some 3), .alloc 24, none, 0⟩,
  ⟨none, .store 24 (.tmp 3) (.tmp 10), none, 0⟩,
  ⟨(some 4), .assign (.tmp 11), none, 0⟩]
def L35r2 : List AOp := [
  ⟨(some 12), .load 24 (.tmp 1), none, 0⟩,
  ⟨(some 13), .load 24 (.tmp 3), none, 0⟩,
  ⟨(some 14), .load 81 (.global 4), none, 0⟩,
  ⟨(some 15), .call { callee := .value (.func 61), args := #[.tmp 12, .tmp 13, .tmp 14], argTypes := #[24, 24, 81] }, none, 0⟩,
  ⟨none, .store 24 (.tmp 2) (.tmp 15), none, 0⟩]
def L35 : LC := (.seq (.region L35r0) (.seq (.region L35r1) (.seq (.region L35r2) .ret)))
theorem nt35 : Tryz.f35.ntmps = 16 := by kernel_rfl
theorem rs35 : Tryz.f35.results.toList = [.cell 2 24] := by kernel_rfl
theorem lite35 : Tryz.f35.body.map (lite okDraw) = some L35 := by kernel_rfl
def L36r0 : List AOp := [
  ⟨(some 2), .assign (.const (.int .i64 0)), none, 0⟩]
def L36r1 : List AOp := [
  ⟨(some 3), .move (.tmp 0), none, 0⟩,
  ⟨(some 4), .binOp .eql 22 (.tmp 3) (.const (.int .u64 0)) 22, none, 0⟩]
def L36r2 : List AOp := [
  ⟨(some 2), .assign (.const (.int .i64 64)), none, 0⟩]
def L36r3 : List AOp := [
  ⟨(some 5), .move (.tmp 0), none, 0⟩,
  ⟨(some 6), .move (.tmp 0), none, 0⟩,
  ⟨(some 7), .unOp .neg 22 (.tmp 6), none, 0⟩,
  ⟨(some 8), .binOp .and 22 (.tmp 5) (.tmp 7) 22, none, 0⟩,
  ⟨(some 9), .binOp .mul 22 (.tmp 8) (.const (.int .u64 285870213051353865)) 22, none, 0⟩,
  ⟨(some 10), .binOp .shr 22 (.tmp 9) (.const (.int .u64 58)) 125, none, 0⟩,
  ⟨(some 11), .indexAddr 124 (.global 6) (.tmp 10), none, 0⟩,
  ⟨(some 12), .load 5 (.tmp 11), none, 0⟩,
  ⟨(some 13), .convert 5 3 (.tmp 12), none, 0⟩,
  ⟨(some 2), .assign (.tmp 13), none, 0⟩]
def L36 : LC := (.seq (.region L36r0) (.seq (.seq (.region L36r1) (.cond (.tmp 4) (.seq (.region L36r2) .ret) .skip)) (.seq (.region L36r3) .ret)))
theorem nt36 : Tryz.f36.ntmps = 14 := by kernel_rfl
theorem rs36 : Tryz.f36.results.toList = [.tmp 2] := by kernel_rfl
theorem lite36 : Tryz.f36.body.map (lite okDraw) = some L36 := by kernel_rfl
def L37r0 : List AOp := [
  ⟨(some 2), .assign (.const (.bool false)), none, 0⟩]
def L37r1 : List AOp := [
  ⟨(some 3), .move (.tmp 0), none, 0⟩,
  ⟨(some 4), .binOp .eql 3 (.tmp 3) (.const (.int .i64 0)) 3, none, 0⟩,
  ⟨(some 5), .move (.tmp 4), none, 0⟩,
  ⟨(some 6), .move (.tmp 0), (some (5, false)), 0⟩,
  ⟨(some 7), .binOp .eql 3 (.tmp 6) (.const (.int .i64 1)) 3, (some (5, false)), 0⟩,
  ⟨(some 8), .pick (.tmp 5) (.const (.bool true)) (.tmp 7), none, 0⟩,
  ⟨(some 2), .assign (.tmp 8), none, 0⟩]
def L37 : LC := (.seq (.region L37r0) (.seq (.region L37r1) .ret))
theorem nt37 : Tryz.f37.ntmps = 9 := by kernel_rfl
theorem rs37 : Tryz.f37.results.toList = [.tmp 2] := by kernel_rfl
theorem lite37 : Tryz.f37.body.map (lite okDraw) = some L37 := by kernel_rfl
def L38r0 : List AOp := [
  ⟨(some 2), .alloc 90, none, 0⟩,
  ⟨(some 3), .assign (.const .nilIface), none, 0⟩]
def L38r1 : List AOp := [
  ⟨(some 21), .move (.tmp 0), none, 0⟩,
  ⟨(some 22), .call { callee := .value (.func 62), args := #[.tmp 21], argTypes := #[57] }, none, 0⟩,
  ⟨(some 20), .move (.tmp 22), none, 0⟩,
  ⟨(some 23), .extract (.tmp 20) 0, none, 0⟩,
  ⟨(some 24), .extract (.tmp 20) 1, none, 0⟩,
  ⟨(some 4), .alloc 128, none, 0⟩,
  ⟨none, .store 128 (.tmp 4) (.tmp 23), none, 0⟩,
  ⟨(some 5), .assign (.tmp 24), none, 0⟩]
def L38r2 : List AOp := [
  ⟨(some 25), .move (.tmp 5), none, 0⟩,
  ⟨(some 26), .binOp .neq 30 (.tmp 25) (.const .nilIface) 30, none, 0⟩,
  ⟨(some 27), .move (.tmp 26), none, 0⟩,
  ⟨(some 28), .load 128 (.tmp 4), (some (27, false)), 0⟩,
  ⟨(some 29), .call { callee := .value (.func 63), args := #[.tmp 28, .const (.int .i64 4)], argTypes := #[128, 3] }, (some (27, false)), 0⟩,
  ⟨(some 30), .unOp .not 4 (.tmp 29), (some (27, false)), 0⟩,
  ⟨(some 31), .pick (.tmp 27) (.const (.bool true)) (.tmp 30), none, 0⟩,
  ⟨(some 32), .move (.tmp 31), none, 0⟩,
  ⟨(some 33), .fieldAddr 128 (.tmp 4) 4, (some (32, false)), 0⟩,
  ⟨(some 34), .load 126 (.tmp 33), (some (32, false)), 0⟩,
  ⟨(some 35), .indexAddr 126 (.tmp 34) (.const (.int .i64 0)), (some (32, false)), 0⟩,
  ⟨(some 36), .load 128 (.tmp 35), (some (32, false)), 0⟩,
  ⟨(some 37), .call { callee := .value (.func 63), args := #[.tmp 36, .const (.int .i64 (-1))], argTypes := #[128, 3] }, (some (32, false)), 0⟩,
  ⟨(some 38), .unOp .not 4 (.tmp 37), (some (32, false)), 0⟩,
  ⟨(some 39), .pick (.tmp 32) (.const (.bool true)) (.tmp 38), none, 0⟩,
  ⟨(some 40), .move (.tmp 39), none, 0⟩,
  ⟨(some 41), .fieldAddr 128 (.tmp 4) 4, (some (40, false)), 0⟩,
  ⟨(some 42), .load 126 (.tmp 41), (some (40, false)), 0⟩,
  ⟨(some 43), .indexAddr 126 (.tmp 42) (.const (.int .i64 1)), (some (40, false)), 0⟩,
  ⟨(some 44), .load 128 (.tmp 43), (some (40, false)), 0⟩,
  ⟨(some 45), .call { callee := .value (.func 63), args := #[.tmp 44, .const (.int .i64 (-1))], argTypes := #[128, 3] }, (some (40, false)), 0⟩,
  ⟨(some 46), .unOp .not 4 (.tmp 45), (some (40, false)), 0⟩,
  ⟨(some 47), .pick (.tmp 40) (.const (.bool true)) (.tmp 46), none, 0⟩,
  ⟨(some 48), .move (.tmp 47), none, 0⟩,
  ⟨(some 49), .fieldAddr 128 (.tmp 4) 4, (some (48, false)), 0⟩,
  ⟨(some 50), .load 126 (.tmp 49), (some (48, false)), 0⟩,
  ⟨(some 51), .indexAddr 126 (.tmp 50) (.const (.int .i64 3)), (some (48, false)), 0⟩,
  ⟨(some 52), .load 128 (.tmp 51), (some (48, false)), 0⟩,
  ⟨(some 53), .call { callee := .value (.func 64), args := #[.tmp 52, .const (.int .i64 4)], argTypes := #[128, 3] }, (some (48, false)), 0⟩,
  ⟨(some 54), .unOp .not 4 (.tmp 53), (some (48, false)), 0⟩,
  ⟨(some 55), .pick (.tmp 48) (.const (.bool true)) (.tmp 54), none, 0⟩]
def L38r3 : List AOp := [
  ⟨(some 56), .build 90 #[], none, 0⟩,
  ⟨(some 57), .makeInterface 38 (.const (.int .i64 7)), none, 0⟩,
  ⟨none, .store 90 (.tmp 2) (.tmp 56), none, 0⟩,
  ⟨(some 3), .assign (.tmp 57), none, 0⟩]
def L38r4 : List AOp := [
  ⟨(some 58), .fieldAddr 128 (.tmp 4) 4, none, 0⟩,
  ⟨(some 59), .load 126 (.tmp 58), none, 1⟩,
  ⟨(some 60), .indexAddr 126 (.tmp 59) (.const (.int .i64 0)), none, 3⟩,
  ⟨(some 61), .fieldAddr 128 (.tmp 60) 4, none, 7⟩,
  ⟨(some 62), .load 126 (.tmp 61), none, 15⟩,
  ⟨(some 63), .fieldAddr 128 (.tmp 4) 4, none, 0⟩,
  ⟨(some 64), .load 126 (.tmp 63), none, 32⟩,
  ⟨(some 65), .indexAddr 126 (.tmp 64) (.const (.int .i64 1)), none, 96⟩,
  ⟨(some 66), .fieldAddr 128 (.tmp 65) 4, none, 224⟩,
  ⟨(some 67), .load 126 (.tmp 66), none, 480⟩,
  ⟨(some 6), .assign (.tmp 62), none, 31⟩,
  ⟨(some 7), .assign (.tmp 67), none, 1267650600228229401496703207423⟩]
def L38r5 : List AOp := [
  ⟨(some 68), .move (.tmp 6), none, 0⟩,
  ⟨(some 69), .call { callee := .builtin .len, args := #[.tmp 68], argTypes := #[126] }, none, 0⟩,
  ⟨(some 70), .binOp .gtr 3 (.tmp 69) (.const (.int .i64 4)) 3, none, 0⟩,
  ⟨(some 71), .move (.tmp 70), none, 0⟩,
  ⟨(some 72), .move (.tmp 7), (some (71, false)), 0⟩,
  ⟨(some 73), .call { callee := .builtin .len, args := #[.tmp 72], argTypes := #[126] }, (some (71, false)), 0⟩,
  ⟨(some 74), .binOp .gtr 3 (.tmp 73) (.const (.int .i64 4)) 3, (some (71, false)), 0⟩,
  ⟨(some 75), .pick (.tmp 71) (.const (.bool true)) (.tmp 74), none, 0⟩]
def L38r6 : List AOp := [
  ⟨(some 76), .build 90 #[], none, 0⟩,
  ⟨(some 77), .makeInterface 38 (.const (.int .i64 2)), none, 0⟩,
  ⟨none, .store 90 (.tmp 2) (.tmp 76), none, 0⟩,
  ⟨(some 3), .assign (.tmp 77), none, 0⟩]
def L38r7 : List AOp := [
  ⟨(some 78), .fieldAddr 128 (.tmp 4) 4, none, 0⟩,
  ⟨(some 79), .load 126 (.tmp 78), none, 0⟩,
  ⟨(some 80), .indexAddr 126 (.tmp 79) (.const (.int .i64 3)), none, 0⟩,
  ⟨(some 81), .fieldAddr 128 (.tmp 80) 3, none, 0⟩,
  ⟨(some 82), .load 57 (.tmp 81), none, 0⟩,
  ⟨(some 83), .build 90 #[(5, .tmp 82)], none, 0⟩,
  ⟨(some 8), .alloc 90, none, 0⟩,
  ⟨none, .store 90 (.tmp 8) (.tmp 83), none, 0⟩]
def L38r8 : List AOp := [
  ⟨(some 84), .move (.tmp 6), none, 0⟩,
  ⟨(some 85), .call { callee := .builtin .len, args := #[.tmp 84], argTypes := #[126] }, none, 0⟩,
  ⟨(some 86), .move (.const (.int .i64 0)), none, 0⟩]
def L38r9 : List AOp := [
  ⟨(some 87), .binOp .lss 3 (.tmp 86) (.tmp 85) 3, none, 0⟩]
def L38r10 : List AOp := [
  ⟨(some 88), .indexAddr 126 (.tmp 84) (.tmp 86), none, 0⟩,
  ⟨(some 89), .load 128 (.tmp 88), none, 0⟩,
  ⟨(some 10), .alloc 128, none, 0⟩,
  ⟨none, .store 128 (.tmp 10) (.tmp 89), none, 0⟩]
def L38r11 : List AOp := [
  ⟨(some 91), .load 128 (.tmp 10), none, 0⟩,
  ⟨(some 92), .call { callee := .value (.func 65), args := #[.tmp 91], argTypes := #[128] }, none, 0⟩,
  ⟨(some 90), .move (.tmp 92), none, 0⟩,
  ⟨(some 93), .extract (.tmp 90) 0, none, 0⟩,
  ⟨(some 94), .extract (.tmp 90) 1, none, 0⟩,
  ⟨(some 11), .assign (.tmp 93), none, 0⟩,
  ⟨(some 12), .assign (.tmp 94), none, 0⟩]
def L38r12 : List AOp := [
  ⟨(some 95), .move (.tmp 12), none, 0⟩,
  ⟨(some 96), .binOp .neq 30 (.tmp 95) (.const .nilIface) 30, none, 0⟩]
def L38r13 : List AOp := [
  ⟨(some 97), .build 90 #[], none, 0⟩,
  ⟨(some 98), .makeInterface 38 (.const (.int .i64 7)), none, 0⟩,
  ⟨none, .store 90 (.tmp 2) (.tmp 97), none, 0⟩,
  ⟨(some 3), .assign (.tmp 98), none, 0⟩]
def L38r14 : List AOp := [
  ⟨(some 100), .move (.tmp 11), none, 0⟩,
  ⟨(some 101), .call { callee := .value (.func 66), args := #[.tmp 100], argTypes := #[57] }, none, 0⟩,
  ⟨(some 99), .move (.tmp 101), none, 0⟩,
  ⟨(some 102), .extract (.tmp 99) 0, none, 0⟩,
  ⟨(some 103), .extract (.tmp 99) 1, none, 0⟩,
  ⟨(some 13), .alloc 99, none, 0⟩,
  ⟨none, .store 99 (.tmp 13) (.tmp 102), none, 0⟩,
  ⟨(some 12), .assign (.tmp 103), none, 0⟩]
def L38r15 : List AOp := [
  ⟨(some 104), .move (.tmp 12), none, 0⟩,
  ⟨(some 105), .binOp .neq 30 (.tmp 104) (.const .nilIface) 30, none, 0⟩]
def L38r16 : List AOp := [
  ⟨(some 106), .build 90 #[], none, 0⟩,
  ⟨(some 107), .makeInterface 38 (.const (.int .i64 7)), none, 0⟩,
  ⟨none, .store 90 (.tmp 2) (.tmp 106), none, 0⟩,
  ⟨(some 3), .assign (.tmp 107), none, 0⟩]
def L38r17 : List AOp := [
  ⟨(some 108), .fieldAddr 90 (.tmp 8) 0, none, 0⟩,
  ⟨(some 109), .load 85 (.tmp 108), none, 0⟩,
  ⟨(some 110), .load 99 (.tmp 13), none, 0⟩,
  ⟨(some 111), .buildSlice 85 1 #[(0, .tmp 110)], none, 0⟩,
  ⟨(some 112), .call { callee := .builtin .append, args := #[.tmp 109, .tmp 111], argTypes := #[85, 85] }, none, 0⟩,
  ⟨(some 113), .fieldAddr 90 (.tmp 8) 0, none, 0⟩,
  ⟨none, .store 85 (.tmp 113) (.tmp 112), none, 0⟩]
def L38r18 : List AOp := [
  ⟨(some 114), .binOp .add 3 (.tmp 86) (.const (.int .i64 1)) 3, none, 0⟩,
  ⟨(some 86), .move (.tmp 114), none, 0⟩]
def L38r19 : List AOp := [
  ⟨(some 115), .move (.tmp 7), none, 0⟩,
  ⟨(some 116), .call { callee := .builtin .len, args := #[.tmp 115], argTypes := #[126] }, none, 0⟩,
  ⟨(some 117), .move (.const (.int .i64 0)), none, 0⟩]
def L38r20 : List AOp := [
  ⟨(some 118), .binOp .lss 3 (.tmp 117) (.tmp 116) 3, none, 0⟩]
def L38r21 : List AOp := [
  ⟨(some 119), .indexAddr 126 (.tmp 115) (.tmp 117), none, 0⟩,
  ⟨(some 120), .load 128 (.tmp 119), none, 0⟩,
  ⟨(some 15), .alloc 128, none, 0⟩,
  ⟨none, .store 128 (.tmp 15) (.tmp 120), none, 0⟩]
def L38r22 : List AOp := [
  ⟨(some 122), .load 128 (.tmp 15), none, 0⟩,
  ⟨(some 123), .call { callee := .value (.func 65), args := #[.tmp 122], argTypes := #[128] }, none, 0⟩,
  ⟨(some 121), .move (.tmp 123), none, 0⟩,
  ⟨(some 124), .extract (.tmp 121) 0, none, 0⟩,
  ⟨(some 125), .extract (.tmp 121) 1, none, 0⟩,
  ⟨(some 16), .assign (.tmp 124), none, 0⟩,
  ⟨(some 17), .assign (.tmp 125), none, 0⟩]
def L38r23 : List AOp := [
  ⟨(some 126), .move (.tmp 17), none, 0⟩,
  ⟨(some 127), .binOp .neq 30 (.tmp 126) (.const .nilIface) 30, none, 0⟩]
def L38r24 : List AOp := [
  ⟨(some 128), .build 90 #[], none, 0⟩,
  ⟨(some 129), .makeInterface 38 (.const (.int .i64 7)), none, 0⟩,
  ⟨none, .store 90 (.tmp 2) (.tmp 128), none, 0⟩,
  ⟨(some 3), .assign (.tmp 129), none, 0⟩]
def L38r25 : List AOp := [
  ⟨(some 131), .move (.tmp 16), none, 0⟩,
  ⟨(some 132), .call { callee := .value (.func 67), args := #[.tmp 131], argTypes := #[57] }, none, 0⟩,
  ⟨(some 130), .move (.tmp 132), none, 0⟩,
  ⟨(some 133), .extract (.tmp 130) 0, none, 0⟩,
  ⟨(some 134), .extract (.tmp 130) 1, none, 0⟩,
  ⟨(some 18), .alloc 137, none, 0⟩,
  ⟨none, .store 137 (.tmp 18) (.tmp 133), none, 0⟩,
  ⟨(some 17), .assign (.tmp 134), none, 0⟩]
def L38r26 : List AOp := [
  ⟨(some 135), .move (.tmp 17), none, 0⟩,
  ⟨(some 136), .binOp .neq 30 (.tmp 135) (.const .nilIface) 30, none, 0⟩]
def L38r27 : List AOp := [
  ⟨(some 137), .build 90 #[], none, 0⟩,
  ⟨(some 138), .makeInterface 38 (.const (.int .i64 7)), none, 0⟩,
  ⟨none, .store 90 (.tmp 2) (.tmp 137), none, 0⟩,
  ⟨(some 3), .assign (.tmp 138), none, 0⟩]
def L38r28 : List AOp := [
  ⟨(some 139), .fieldAddr 90 (.tmp 8) 1, none, 0⟩,
  ⟨(some 140), .load 86 (.tmp 139), none, 0⟩,
  ⟨(some 141), .load 137 (.tmp 18), none, 0⟩,
  ⟨(some 142), .buildSlice 86 1 #[(0, .tmp 141)], none, 0⟩,
  ⟨(some 143), .call { callee := .builtin .append, args := #[.tmp 140, .tmp 142], argTypes := #[86, 86] }, none, 0⟩,
  ⟨(some 144), .fieldAddr 90 (.tmp 8) 1, none, 0⟩,
  ⟨none, .store 86 (.tmp 144) (.tmp 143), none, 0⟩]
def L38r29 : List AOp := [
  ⟨(some 145), .binOp .add 3 (.tmp 117) (.const (.int .i64 1)) 3, none, 0⟩,
  ⟨(some 117), .move (.tmp 145), none, 0⟩]
def L38r30 : List AOp := [
  ⟨(some 147), .fieldAddr 128 (.tmp 4) 4, none, 0⟩,
  ⟨(some 148), .load 126 (.tmp 147), none, 0⟩,
  ⟨(some 149), .indexAddr 126 (.tmp 148) (.const (.int .i64 2)), none, 0⟩,
  ⟨(some 150), .load 128 (.tmp 149), none, 0⟩,
  ⟨(some 151), .call { callee := .value (.func 65), args := #[.tmp 150], argTypes := #[128] }, none, 0⟩,
  ⟨(some 146), .move (.tmp 151), none, 0⟩,
  ⟨(some 152), .extract (.tmp 146) 0, none, 0⟩,
  ⟨(some 153), .extract (.tmp 146) 1, none, 0⟩,
  ⟨(some 19), .assign (.tmp 152), none, 0⟩,
  ⟨(some 5), .assign (.tmp 153), none, 0⟩]
def L38r31 : List AOp := [
  ⟨(some 154), .move (.tmp 5), none, 0⟩,
  ⟨(some 155), .binOp .neq 30 (.tmp 154) (.const .nilIface) 30, none, 0⟩]
def L38r32 : List AOp := [
  ⟨(some 156), .build 90 #[], none, 0⟩,
  ⟨(some 157), .makeInterface 38 (.const (.int .i64 7)), none, 0⟩,
  ⟨none, .store 90 (.tmp 2) (.tmp 156), none, 0⟩,
  ⟨(some 3), .assign (.tmp 157), none, 0⟩]
def L38r33 : List AOp := [
  ⟨(some 159), .move (.tmp 19), none, 0⟩,
  ⟨(some 160), .call { callee := .value (.func 68), args := #[.tmp 159], argTypes := #[57] }, none, 0⟩,
  ⟨(some 158), .move (.tmp 160), none, 0⟩,
  ⟨(some 161), .extract (.tmp 158) 0, none, 0⟩,
  ⟨(some 162), .extract (.tmp 158) 1, none, 0⟩,
  ⟨(some 163), .extract (.tmp 158) 2, none, 0⟩,
  ⟨(some 164), .fieldAddr 90 (.tmp 8) 2, none, 0⟩,
  ⟨none, .store 57 (.tmp 164) (.tmp 161), none, 0⟩,
  ⟨(some 165), .fieldAddr 90 (.tmp 8) 3, none, 0⟩,
  ⟨none, .store 88 (.tmp 165) (.tmp 162), none, 0⟩,
  ⟨(some 5), .assign (.tmp 163), none, 0⟩]
def L38r34 : List AOp := [
  ⟨(some 166), .move (.tmp 5), none, 0⟩,
  ⟨(some 167), .binOp .neq 30 (.tmp 166) (.const .nilIface) 30, none, 0⟩]
def L38r35 : List AOp := [
  ⟨(some 168), .build 90 #[], none, 0⟩,
  ⟨(some 169), .makeInterface 38 (.const (.int .i64 7)), none, 0⟩,
  ⟨none, .store 90 (.tmp 2) (.tmp 168), none, 0⟩,
  ⟨(some 3), .assign (.tmp 169), none, 0⟩]
def L38r36 : List AOp := [
  ⟨(some 171), .fieldAddr 90 (.tmp 8) 2, none, 0⟩,
  ⟨(some 172), .load 57 (.tmp 171), none, 0⟩,
  ⟨(some 173), .call { callee := .value (.func 69), args := #[.tmp 172], argTypes := #[57] }, none, 0⟩,
  ⟨(some 170), .move (.tmp 173), none, 0⟩,
  ⟨(some 174), .extract (.tmp 170) 0, none, 0⟩,
  ⟨(some 175), .extract (.tmp 170) 1, none, 0⟩,
  ⟨(some 176), .fieldAddr 90 (.tmp 8) 4, none, 0⟩,
  ⟨none, .store 67 (.tmp 176) (.tmp 174), none, 0⟩,
  ⟨(some 5), .assign (.tmp 175), none, 0⟩]
def L38r37 : List AOp := [
  ⟨(some 177), .move (.tmp 5), none, 0⟩,
  ⟨(some 178), .binOp .neq 30 (.tmp 177) (.const .nilIface) 30, none, 0⟩]
def L38r38 : List AOp := [
  ⟨(some 179), .build 90 #[], none, 0⟩,
  ⟨(some 180), .makeInterface 38 (.const (.int .i64 7)), none, 0⟩,
  ⟨none, .store 90 (.tmp 2) (.tmp 179), none, 0⟩,
  ⟨(some 3), .assign (.tmp 180), none, 0⟩]
def L38r39 : List AOp := [
  ⟨(some 181), .load 90 (.tmp 8), none, 0⟩,
  ⟨none, .store 90 (.tmp 2) (.tmp 181), none, 0⟩,
  ⟨(some 3), .assign (.const .nilIface), none, 0⟩]
def L38 : LC := (.seq (.region L38r0) (.seq (.region L38r1) (.seq (.seq (.region L38r2) (.cond (.tmp 55) (.seq (.region L38r3) .ret) .skip)) (.seq (.regionD L38r4) (.seq (.seq (.region L38r5) (.cond (.tmp 75) (.seq (.region L38r6) .ret) .skip)) (.seq (.region L38r7) (.seq (.seq (.region L38r8) (.block 0 (.loop (.seq (.region L38r9) (.seq (.cond (.tmp 87) .skip (.exit 0)) (.seq (.block 1 (.seq (.region L38r10) (.seq (.region L38r11) (.seq (.seq (.region L38r12) (.cond (.tmp 96) (.seq (.region L38r13) .ret) .skip)) (.seq (.region L38r14) (.seq (.seq (.region L38r15) (.cond (.tmp 105) (.seq (.region L38r16) .ret) .skip)) (.region L38r17))))))) (.region L38r18))))))) (.seq (.seq (.region L38r19) (.block 2 (.loop (.seq (.region L38r20) (.seq (.cond (.tmp 118) .skip (.exit 2)) (.seq (.block 3 (.seq (.region L38r21) (.seq (.region L38r22) (.seq (.seq (.region L38r23) (.cond (.tmp 127) (.seq (.region L38r24) .ret) .skip)) (.seq (.region L38r25) (.seq (.seq (.region L38r26) (.cond (.tmp 136) (.seq (.region L38r27) .ret) .skip)) (.region L38r28))))))) (.region L38r29))))))) (.seq (.region L38r30) (.seq (.seq (.region L38r31) (.cond (.tmp 155) (.seq (.region L38r32) .ret) .skip)) (.seq (.seq (.region L38r33) (.seq (.region L38r34) (.cond (.tmp 167) (.seq (.region L38r35) .ret) .skip))) (.seq (.seq (.region L38r36) (.seq (.region L38r37) (.cond (.tmp 178) (.seq (.region L38r38) .ret) .skip))) (.seq (.region L38r39) .ret)))))))))))))
theorem nt38 : Tryz.f38.ntmps = 182 := by kernel_rfl
theorem rs38 : Tryz.f38.results.toList = [.cell 2 90, .tmp 3] := by kernel_rfl
theorem lite38 : Tryz.f38.body.map (lite okDraw) = some L38 := by kernel_rfl
def L50r0 : List AOp := [
  ⟨(some 2), .assign (.const (.bool false)), none, 0⟩]
def L50r1 : List AOp := [
  ⟨(some 3), .move (.tmp 0), none, 0⟩,
  ⟨(some 4), .nilCheck (.tmp 3), none, 0⟩,
  ⟨(some 5), .fieldAddr 61 (.tmp 4) 5, none, 0⟩,
  ⟨(some 6), .load 3 (.tmp 5), none, 0⟩]
def L50r3 : List AOp := [
  ⟨(some 15), .binOp .eql 3 (.tmp 6) (.const (.int .i64 0)) 3, none, 0⟩,
  ⟨(some 14), .assign (.tmp 15), none, 0⟩]
def L50r4 : List AOp := [
  ⟨(some 17), .binOp .eql 3 (.tmp 6) (.const (.int .i64 1)) 3, none, 0⟩,
  ⟨(some 16), .assign (.tmp 17), none, 0⟩]
def L50r5 : List AOp := [
  ⟨(some 18), .move (.tmp 0), none, 0⟩,
  ⟨(some 19), .nilCheck (.tmp 18), none, 0⟩,
  ⟨(some 20), .fieldAddr 61 (.tmp 19) 3, none, 0⟩,
  ⟨none, .store 4 (.tmp 20) (.const (.bool true)), none, 0⟩]
def L50r6 : List AOp := [
  ⟨(some 21), .move (.tmp 0), none, 0⟩,
  ⟨(some 22), .nilCheck (.tmp 21), none, 0⟩,
  ⟨(some 23), .fieldAddr 61 (.tmp 22) 1, none, 0⟩,
  ⟨(some 24), .load 57 (.tmp 23), none, 0⟩,
  ⟨none, .call { callee := .builtin .clear, args := #[.tmp 24], argTypes := #[57] }, none, 0⟩]
def L50r7 : List AOp := [
  ⟨(some 2), .assign (.const (.bool false)), none, 0⟩]
def L50r2 : List AOp := [
  ⟨(some 7), .move (.tmp 0), none, 0⟩,
  ⟨(some 8), .nilCheck (.tmp 7), none, 0⟩,
  ⟨(some 9), .fieldAddr 61 (.tmp 8) 5, none, 0⟩,
  ⟨(some 10), .load 3 (.tmp 9), none, 0⟩,
  ⟨(some 11), .binOp .sub 3 (.tmp 10) (.const (.int .i64 1)) 3, none, 0⟩,
  ⟨(some 12), .nilCheck (.tmp 7), none, 0⟩,
  ⟨(some 13), .fieldAddr 61 (.tmp 12) 5, none, 0⟩,
  ⟨none, .store 3 (.tmp 13) (.tmp 11), none, 0⟩]
def L50r8 : List AOp := [
  ⟨(some 25), .move (.tmp 0), none, 0⟩,
  ⟨(some 26), .nilCheck (.tmp 25), none, 0⟩,
  ⟨(some 27), .fieldAddr 61 (.tmp 26) 4, none, 0⟩,
  ⟨(some 28), .load 3 (.tmp 27), none, 0⟩,
  ⟨(some 29), .binOp .add 3 (.tmp 28) (.const (.int .i64 1)) 3, none, 0⟩,
  ⟨(some 30), .nilCheck (.tmp 25), none, 0⟩,
  ⟨(some 31), .fieldAddr 61 (.tmp 30) 4, none, 0⟩,
  ⟨none, .store 3 (.tmp 31) (.tmp 29), none, 0⟩]
def L50r9 : List AOp := [
  ⟨(some 2), .assign (.const (.bool true)), none, 0⟩]
def L50 : LC := (.seq (.region L50r0) (.seq (.seq (.region L50r1) (.block 0 (.seq (.region L50r3) (.cond (.tmp 14) .skip (.seq (.region L50r4) (.cond (.tmp 16) (.seq (.region L50r5) (.seq (.region L50r6) (.seq (.region L50r7) .ret))) (.region L50r2))))))) (.seq (.region L50r8) (.seq (.region L50r9) .ret))))
theorem nt50 : Tryz.f50.ntmps = 32 := by kernel_rfl
theorem rs50 : Tryz.f50.results.toList = [.tmp 2] := by kernel_rfl
theorem lite50 : Tryz.f50.body.map (lite okDraw) = some L50 := by kernel_rfl
def L51r0 : List AOp := [
  ⟨(some 2), .box 24 (.tmp 0), none, 0⟩,
  ⟨(some 3), .box 24 (.tmp 1), none, 0⟩,
  ⟨(some 4), .alloc 24, none, 0⟩,
  ⟨(some 5), .assign (.const (.int .u64 0)), none, 0⟩]
def L51r1 : List AOp := [
  ⟨(some 6), .alloc 24, none, 0⟩]
def L51r2 : List AOp := [
  ⟨(some 7), .assign (.const (.int .u64 0)), none, 0⟩]
def L51r3 : List AOp := [
  ⟨(some 9), .move (.const (.int .i64 0)), none, 0⟩]
def L51r4 : List AOp := [
  ⟨(some 10), .binOp .lss 3 (.tmp 9) (.const (.int .i64 6)) 3, none, 0⟩]
def L51r5 : List AOp := [
  ⟨(some 11), .move (.tmp 9), none, 0⟩,
  ⟨(some 8), .assign (.tmp 11), none, 0⟩]
def L51r6 : List AOp := [
  ⟨(some 13), .move (.tmp 8), none, 0⟩,
  ⟨(some 14), .move (.tmp 8), none, 0⟩,
  ⟨(some 15), .indexAddr 24 (.tmp 2) (.tmp 14), none, 2⟩,
  ⟨(some 16), .load 22 (.tmp 15), none, 6⟩,
  ⟨(some 17), .move (.tmp 8), none, 0⟩,
  ⟨(some 18), .indexAddr 24 (.tmp 3) (.tmp 17), none, 16⟩,
  ⟨(some 19), .load 22 (.tmp 18), none, 48⟩,
  ⟨(some 20), .move (.tmp 7), none, 0⟩,
  ⟨(some 21), .call { callee := .value (.func 95), args := #[.tmp 16, .tmp 19, .tmp 20], argTypes := #[22, 22, 22] }, none, 254⟩,
  ⟨(some 12), .move (.tmp 21), none, 510⟩,
  ⟨(some 22), .extract (.tmp 12) 0, none, 1022⟩,
  ⟨(some 23), .extract (.tmp 12) 1, none, 1022⟩,
  ⟨(some 24), .indexAddr 24 (.tmp 6) (.tmp 13), none, 2047⟩,
  ⟨none, .store 22 (.tmp 24) (.tmp 22), none, 6143⟩,
  ⟨(some 7), .assign (.tmp 23), none, 1267650600228229401496703221759⟩]
def L51r7 : List AOp := [
  ⟨(some 25), .binOp .add 3 (.tmp 9) (.const (.int .i64 1)) 3, none, 0⟩,
  ⟨(some 9), .move (.tmp 25), none, 0⟩]
def L51r8 : List AOp := [
  ⟨(some 26), .load 24 (.tmp 6), none, 0⟩,
  ⟨(some 27), .move (.tmp 7), none, 0⟩,
  ⟨none, .store 24 (.tmp 4) (.tmp 26), none, 0⟩,
  ⟨(some 5), .assign (.tmp 27), none, 0⟩]
def L51 : LC := (.seq (.region L51r0) (.seq (.region L51r1) (.seq (.region L51r2) (.seq (.seq (.region L51r3) (.block 0 (.loop (.seq (.region L51r4) (.seq (.cond (.tmp 10) .skip (.exit 0)) (.seq (.block 1 (.seq (.region L51r5) (.regionD L51r6))) (.region L51r7))))))) (.seq (.region L51r8) .ret)))))
theorem nt51 : Tryz.f51.ntmps = 28 := by kernel_rfl
theorem rs51 : Tryz.f51.results.toList = [.cell 4 24, .tmp 5] := by kernel_rfl
theorem lite51 : Tryz.f51.body.map (lite okDraw) = some L51 := by kernel_rfl
def L52r0 : List AOp := [
  ⟨(some 3), .box 24 (.tmp 0), none, 0⟩,
  ⟨(some 4), .box 24 (.tmp 1), none, 0⟩,
  ⟨(some 5), .box 81 (.tmp 2), none, 0⟩,
  ⟨(some 6), .alloc 24, none, 0⟩]
def L52r1 : List AOp := [
  ⟨(some 7), .load 24 (.tmp 3), none, 0⟩,
  ⟨(some 8), .fieldAddr 81 (.tmp 5) 2, none, 0⟩,
  ⟨(some 9), .load 24 (.tmp 8), none, 2⟩,
  ⟨(some 10), .load 81 (.tmp 5), none, 0⟩,
  ⟨(some 11), .call { callee := .value (.func 96), args := #[.tmp 7, .tmp 9, .tmp 10], argTypes := #[24, 24, 81] }, none, 15⟩,
  ⟨(some 12), .load 24 (.tmp 4), none, 0⟩,
  ⟨(some 13), .load 81 (.tmp 5), none, 0⟩,
  ⟨(some 14), .call { callee := .value (.func 96), args := #[.tmp 11, .tmp 12, .tmp 13], argTypes := #[24, 24, 81] }, none, 1267650600228229401496703205503⟩,
  ⟨none, .store 24 (.tmp 6) (.tmp 14), none, 1267650600228229401496703205631⟩]
def L52 : LC := (.seq (.region L52r0) (.seq (.regionD L52r1) .ret))
theorem nt52 : Tryz.f52.ntmps = 15 := by kernel_rfl
theorem rs52 : Tryz.f52.results.toList = [.cell 6 24] := by kernel_rfl
theorem lite52 : Tryz.f52.body.map (lite okDraw) = some L52 := by kernel_rfl
def L53r0 : List AOp := [
  ⟨(some 3), .box 24 (.tmp 0), none, 0⟩,
  ⟨(some 4), .box 24 (.tmp 1), none, 0⟩,
  ⟨(some 5), .box 81 (.tmp 2), none, 0⟩,
  ⟨(some 6), .alloc 24, none, 0⟩]
def L53r1 : List AOp := [
  ⟨(some 10), .load 24 (.tmp 3), none, 0⟩,
  ⟨(some 11), .load 81 (.tmp 5), none, 0⟩,
  ⟨(some 12), .call { callee := .value (.func 98), args := #[.tmp 10, .tmp 11], argTypes := #[24, 81] }, none, 3⟩,
  ⟨(some 13), .load 24 (.tmp 4), none, 0⟩,
  ⟨(some 14), .load 81 (.tmp 5), none, 0⟩,
  ⟨(some 15), .call { callee := .value (.func 98), args := #[.tmp 13, .tmp 14], argTypes := #[24, 81] }, none, 31⟩,
  ⟨(some 16), .call { callee := .value (.func 97), args := #[.tmp 12, .tmp 15], argTypes := #[24, 24] }, none, 63⟩,
  ⟨(some 9), .move (.tmp 16), none, 127⟩,
  ⟨(some 17), .extract (.tmp 9) 0, none, 255⟩,
  ⟨(some 18), .extract (.tmp 9) 1, none, 255⟩,
  ⟨(some 7), .alloc 24, none, 0⟩,
  ⟨none, .store 24 (.tmp 7) (.tmp 17), none, 1535⟩,
  ⟨(some 8), .assign (.tmp 18), none, 1267650600228229401496703209471⟩]
def L53r2 : List AOp := [
  ⟨(some 19), .load 24 (.tmp 7), none, 0⟩,
  ⟨(some 20), .move (.tmp 8), none, 0⟩,
  ⟨(some 21), .fieldAddr 81 (.tmp 5) 0, none, 0⟩,
  ⟨(some 22), .load 24 (.tmp 21), none, 0⟩,
  ⟨(some 23), .call { callee := .value (.func 99), args := #[.tmp 19, .tmp 20, .tmp 22], argTypes := #[24, 22, 24] }, none, 0⟩,
  ⟨none, .store 24 (.tmp 6) (.tmp 23), none, 0⟩]
def L53 : LC := (.seq (.region L53r0) (.seq (.regionD L53r1) (.seq (.region L53r2) .ret)))
theorem nt53 : Tryz.f53.ntmps = 24 := by kernel_rfl
theorem rs53 : Tryz.f53.results.toList = [.cell 6 24] := by kernel_rfl
theorem lite53 : Tryz.f53.body.map (lite okDraw) = some L53 := by kernel_rfl
def L54r0 : List AOp := [
  ⟨(some 3), .box 24 (.tmp 0), none, 0⟩,
  ⟨(some 4), .box 24 (.tmp 1), none, 0⟩,
  ⟨(some 5), .box 81 (.tmp 2), none, 0⟩,
  ⟨(some 6), .alloc 24, none, 0⟩]
def L54r1 : List AOp := [
  ⟨(some 12), .load 24 (.tmp 3), none, 0⟩,
  ⟨(some 13), .load 81 (.tmp 5), none, 0⟩,
  ⟨(some 14), .call { callee := .value (.func 98), args := #[.tmp 12, .tmp 13], argTypes := #[24, 81] }, none, 3⟩,
  ⟨(some 15), .load 24 (.tmp 4), none, 0⟩,
  ⟨(some 16), .load 81 (.tmp 5), none, 0⟩,
  ⟨(some 17), .call { callee := .value (.func 98), args := #[.tmp 15, .tmp 16], argTypes := #[24, 81] }, none, 31⟩,
  ⟨(some 18), .call { callee := .value (.func 51), args := #[.tmp 14, .tmp 17], argTypes := #[24, 24] }, none, 63⟩,
  ⟨(some 11), .move (.tmp 18), none, 127⟩,
  ⟨(some 19), .extract (.tmp 11) 0, none, 255⟩,
  ⟨(some 20), .extract (.tmp 11) 1, none, 255⟩,
  ⟨(some 7), .alloc 24, none, 0⟩,
  ⟨none, .store 24 (.tmp 7) (.tmp 19), none, 1535⟩,
  ⟨(some 8), .assign (.tmp 20), none, 1267650600228229401496703209471⟩]
def L54r2 : List AOp := [
  ⟨(some 22), .load 24 (.tmp 7), none, 0⟩,
  ⟨(some 23), .fieldAddr 81 (.tmp 5) 0, none, 0⟩,
  ⟨(some 24), .load 24 (.tmp 23), none, 0⟩,
  ⟨(some 25), .call { callee := .value (.func 97), args := #[.tmp 22, .tmp 24], argTypes := #[24, 24] }, none, 0⟩,
  ⟨(some 21), .move (.tmp 25), none, 0⟩,
  ⟨(some 26), .extract (.tmp 21) 0, none, 0⟩,
  ⟨(some 27), .extract (.tmp 21) 1, none, 0⟩,
  ⟨(some 9), .alloc 24, none, 0⟩,
  ⟨none, .store 24 (.tmp 9) (.tmp 26), none, 0⟩,
  ⟨(some 10), .assign (.tmp 27), none, 0⟩]
def L54r3 : List AOp := [
  ⟨(some 28), .move (.tmp 8), none, 0⟩,
  ⟨(some 29), .load 24 (.tmp 7), none, 0⟩,
  ⟨(some 30), .load 24 (.tmp 9), none, 0⟩,
  ⟨(some 31), .call { callee := .value (.func 60), args := #[.tmp 28, .tmp 29, .tmp 30], argTypes := #[22, 24, 24] }, none, 0⟩,
  ⟨none, .store 24 (.tmp 6) (.tmp 31), none, 0⟩]
def L54 : LC := (.seq (.region L54r0) (.seq (.regionD L54r1) (.seq (.region L54r2) (.seq (.region L54r3) .ret))))
theorem nt54 : Tryz.f54.ntmps = 32 := by kernel_rfl
theorem rs54 : Tryz.f54.results.toList = [.cell 6 24] := by kernel_rfl
theorem lite54 : Tryz.f54.body.map (lite okDraw) = some L54 := by kernel_rfl
def L55r0 : List AOp := [
  ⟨(some 2), .box 121 (.tmp 0), none, 0⟩,
  ⟨(some 3), .box 81 (.tmp 1), none, 0⟩,
  ⟨(some 4), .alloc 24, none, 0⟩]
def L55r1 : List AOp := [
  ⟨(some 5), .assign (.const (.int .u64 0)), none, 0⟩]
def L55r2 : List AOp := [
  ⟨(some 16), .move (.const (.int .i64 0)), none, 0⟩]
def L55r3 : List AOp := [
  ⟨(some 17), .binOp .lss 3 (.tmp 16) (.const (.int .i64 6)) 3, none, 0⟩]
def L55r4 : List AOp := [
  ⟨(some 18), .move (.tmp 16), none, 0⟩,
  ⟨(some 6), .assign (.tmp 18), none, 0⟩]
def L55r5 : List AOp := [
  ⟨(some 19), .move (.tmp 6), none, 0⟩,
  ⟨(some 20), .indexAddr 121 (.tmp 2) (.tmp 19), none, 1⟩,
  ⟨(some 21), .load 22 (.tmp 20), none, 3⟩,
  ⟨(some 22), .fieldAddr 81 (.tmp 3) 1, none, 0⟩,
  ⟨(some 23), .load 22 (.tmp 22), none, 8⟩,
  ⟨(some 24), .binOp .mul 22 (.tmp 21) (.tmp 23) 22, none, 1267650600228229401496703205407⟩,
  ⟨(some 7), .assign (.tmp 24), none, 1267650600228229401496703205439⟩]
def L55r6 : List AOp := [
  ⟨(some 8), .assign (.const (.int .u64 0)), none, 0⟩]
def L55r7 : List AOp := [
  ⟨(some 25), .move (.const (.int .i64 0)), none, 0⟩]
def L55r8 : List AOp := [
  ⟨(some 26), .binOp .lss 3 (.tmp 25) (.const (.int .i64 6)) 3, none, 0⟩]
def L55r9 : List AOp := [
  ⟨(some 27), .move (.tmp 25), none, 0⟩,
  ⟨(some 9), .assign (.tmp 27), none, 0⟩]
def L55r10 : List AOp := [
  ⟨(some 29), .move (.tmp 7), none, 0⟩,
  ⟨(some 30), .move (.tmp 9), none, 0⟩,
  ⟨(some 31), .fieldAddr 81 (.tmp 3) 0, none, 0⟩,
  ⟨(some 32), .indexAddr 24 (.tmp 31) (.tmp 30), none, 0⟩,
  ⟨(some 33), .load 22 (.tmp 32), none, 0⟩,
  ⟨(some 34), .call { callee := .value (.func 100), args := #[.tmp 29, .tmp 33], argTypes := #[22, 22] }, none, 0⟩,
  ⟨(some 28), .move (.tmp 34), none, 0⟩,
  ⟨(some 35), .extract (.tmp 28) 0, none, 0⟩,
  ⟨(some 36), .extract (.tmp 28) 1, none, 0⟩,
  ⟨(some 10), .assign (.tmp 35), none, 0⟩,
  ⟨(some 11), .assign (.tmp 36), none, 0⟩]
def L55r11 : List AOp := [
  ⟨(some 12), .assign (.const (.int .u64 0)), none, 0⟩]
def L55r12 : List AOp := [
  ⟨(some 38), .move (.tmp 11), none, 0⟩,
  ⟨(some 39), .move (.tmp 6), none, 0⟩,
  ⟨(some 40), .move (.tmp 9), none, 0⟩,
  ⟨(some 41), .binOp .add 3 (.tmp 39) (.tmp 40) 3, none, 0⟩,
  ⟨(some 42), .indexAddr 121 (.tmp 2) (.tmp 41), none, 0⟩,
  ⟨(some 43), .load 22 (.tmp 42), none, 0⟩,
  ⟨(some 44), .call { callee := .value (.func 101), args := #[.tmp 38, .tmp 43, .const (.int .u64 0)], argTypes := #[22, 22, 22] }, none, 0⟩,
  ⟨(some 37), .move (.tmp 44), none, 0⟩,
  ⟨(some 45), .extract (.tmp 37) 0, none, 0⟩,
  ⟨(some 46), .extract (.tmp 37) 1, none, 0⟩,
  ⟨(some 11), .assign (.tmp 45), none, 0⟩,
  ⟨(some 12), .assign (.tmp 46), none, 0⟩]
def L55r13 : List AOp := [
  ⟨(some 47), .move (.tmp 10), none, 0⟩,
  ⟨(some 48), .move (.tmp 12), none, 0⟩,
  ⟨(some 49), .binOp .add 22 (.tmp 47) (.tmp 48) 22, none, 0⟩,
  ⟨(some 10), .assign (.tmp 49), none, 0⟩]
def L55r14 : List AOp := [
  ⟨(some 51), .move (.tmp 11), none, 0⟩,
  ⟨(some 52), .move (.tmp 8), none, 0⟩,
  ⟨(some 53), .call { callee := .value (.func 101), args := #[.tmp 51, .tmp 52, .const (.int .u64 0)], argTypes := #[22, 22, 22] }, none, 0⟩,
  ⟨(some 50), .move (.tmp 53), none, 0⟩,
  ⟨(some 54), .extract (.tmp 50) 0, none, 0⟩,
  ⟨(some 55), .extract (.tmp 50) 1, none, 0⟩,
  ⟨(some 11), .assign (.tmp 54), none, 0⟩,
  ⟨(some 12), .assign (.tmp 55), none, 0⟩]
def L55r15 : List AOp := [
  ⟨(some 56), .move (.tmp 6), none, 0⟩,
  ⟨(some 57), .move (.tmp 9), none, 0⟩,
  ⟨(some 58), .binOp .add 3 (.tmp 56) (.tmp 57) 3, none, 0⟩,
  ⟨(some 59), .move (.tmp 11), none, 0⟩,
  ⟨(some 60), .move (.tmp 10), none, 0⟩,
  ⟨(some 61), .move (.tmp 12), none, 0⟩,
  ⟨(some 62), .binOp .add 22 (.tmp 60) (.tmp 61) 22, none, 0⟩,
  ⟨(some 63), .indexAddr 121 (.tmp 2) (.tmp 58), none, 0⟩,
  ⟨none, .store 22 (.tmp 63) (.tmp 59), none, 0⟩,
  ⟨(some 8), .assign (.tmp 62), none, 0⟩]
def L55r16 : List AOp := [
  ⟨(some 64), .binOp .add 3 (.tmp 25) (.const (.int .i64 1)) 3, none, 0⟩,
  ⟨(some 25), .move (.tmp 64), none, 0⟩]
def L55r17 : List AOp := [
  ⟨(some 13), .assign (.const (.int .u64 0)), none, 0⟩]
def L55r18 : List AOp := [
  ⟨(some 65), .move (.tmp 6), none, 0⟩,
  ⟨(some 66), .binOp .add 3 (.tmp 65) (.const (.int .i64 6)) 3, none, 0⟩,
  ⟨(some 14), .assign (.tmp 66), none, 0⟩]
def L55r19 : List AOp := [
  ⟨(some 67), .move (.tmp 14), none, 0⟩,
  ⟨(some 68), .binOp .lss 3 (.tmp 67) (.const (.int .i64 12)) 3, none, 0⟩]
def L55r21 : List AOp := [
  ⟨(some 72), .move (.tmp 14), none, 0⟩,
  ⟨(some 73), .move (.tmp 14), none, 0⟩,
  ⟨(some 74), .indexAddr 121 (.tmp 2) (.tmp 73), none, 0⟩,
  ⟨(some 75), .load 22 (.tmp 74), none, 0⟩,
  ⟨(some 76), .move (.tmp 8), none, 0⟩,
  ⟨(some 77), .call { callee := .value (.func 101), args := #[.tmp 75, .tmp 76, .const (.int .u64 0)], argTypes := #[22, 22, 22] }, none, 0⟩,
  ⟨(some 71), .move (.tmp 77), none, 0⟩,
  ⟨(some 78), .extract (.tmp 71) 0, none, 0⟩,
  ⟨(some 79), .extract (.tmp 71) 1, none, 0⟩,
  ⟨(some 80), .indexAddr 121 (.tmp 2) (.tmp 72), none, 0⟩,
  ⟨none, .store 22 (.tmp 80) (.tmp 78), none, 0⟩,
  ⟨(some 13), .assign (.tmp 79), none, 0⟩]
def L55r22 : List AOp := [
  ⟨(some 81), .move (.tmp 13), none, 0⟩,
  ⟨(some 8), .assign (.tmp 81), none, 0⟩]
def L55r20 : List AOp := [
  ⟨(some 69), .move (.tmp 14), none, 0⟩,
  ⟨(some 70), .binOp .add 3 (.tmp 69) (.const (.int .i64 1)) 3, none, 0⟩,
  ⟨(some 14), .assign (.tmp 70), none, 0⟩]
def L55r23 : List AOp := [
  ⟨(some 82), .move (.tmp 5), none, 0⟩,
  ⟨(some 83), .move (.tmp 8), none, 0⟩,
  ⟨(some 84), .binOp .add 22 (.tmp 82) (.tmp 83) 22, none, 0⟩,
  ⟨(some 5), .assign (.tmp 84), none, 0⟩]
def L55r24 : List AOp := [
  ⟨(some 85), .binOp .add 3 (.tmp 16) (.const (.int .i64 1)) 3, none, 0⟩,
  ⟨(some 16), .move (.tmp 85), none, 0⟩]
def L55r25 : List AOp := [
  ⟨(some 86), .slice 121 (.tmp 2) (some (.const (.int .i64 6))) none none, none, 0⟩,
  ⟨(some 87), .sliceToArrayPointer 24 (.tmp 86), none, 0⟩,
  ⟨(some 88), .load 24 (.tmp 87), none, 0⟩,
  ⟨(some 15), .alloc 24, none, 0⟩,
  ⟨none, .store 24 (.tmp 15) (.tmp 88), none, 0⟩]
def L55r26 : List AOp := [
  ⟨(some 89), .load 24 (.tmp 15), none, 0⟩,
  ⟨(some 90), .move (.tmp 5), none, 0⟩,
  ⟨(some 91), .fieldAddr 81 (.tmp 3) 0, none, 0⟩,
  ⟨(some 92), .load 24 (.tmp 91), none, 0⟩,
  ⟨(some 93), .call { callee := .value (.func 99), args := #[.tmp 89, .tmp 90, .tmp 92], argTypes := #[24, 22, 24] }, none, 0⟩,
  ⟨none, .store 24 (.tmp 15) (.tmp 93), none, 0⟩]
def L55r27 : List AOp := [
  ⟨(some 94), .load 24 (.tmp 15), none, 0⟩,
  ⟨(some 95), .fieldAddr 81 (.tmp 3) 0, none, 0⟩,
  ⟨(some 96), .load 24 (.tmp 95), none, 0⟩,
  ⟨(some 97), .call { callee := .value (.func 99), args := #[.tmp 94, .const (.int .u64 0), .tmp 96], argTypes := #[24, 22, 24] }, none, 0⟩,
  ⟨none, .store 24 (.tmp 4) (.tmp 97), none, 0⟩]
def L55 : LC := (.seq (.region L55r0) (.seq (.region L55r1) (.seq (.seq (.region L55r2) (.block 0 (.loop (.seq (.region L55r3) (.seq (.cond (.tmp 17) .skip (.exit 0)) (.seq (.block 1 (.seq (.region L55r4) (.seq (.regionD L55r5) (.seq (.region L55r6) (.seq (.seq (.region L55r7) (.block 2 (.loop (.seq (.region L55r8) (.seq (.cond (.tmp 26) .skip (.exit 2)) (.seq (.block 3 (.seq (.region L55r9) (.seq (.region L55r10) (.seq (.region L55r11) (.seq (.region L55r12) (.seq (.region L55r13) (.seq (.region L55r14) (.region L55r15)))))))) (.region L55r16))))))) (.seq (.region L55r17) (.seq (.seq (.region L55r18) (.block 4 (.loop (.seq (.seq (.region L55r19) (.cond (.tmp 68) .skip (.exit 4))) (.seq (.block 5 (.seq (.region L55r21) (.region L55r22))) (.region L55r20)))))) (.region L55r23)))))))) (.region L55r24))))))) (.seq (.region L55r25) (.seq (.region L55r26) (.seq (.region L55r27) .ret))))))
theorem nt55 : Tryz.f55.ntmps = 98 := by kernel_rfl
theorem rs55 : Tryz.f55.results.toList = [.cell 4 24] := by kernel_rfl
theorem lite55 : Tryz.f55.body.map (lite okDraw) = some L55 := by kernel_rfl
def L56r0 : List AOp := [
  ⟨(some 2), .box 24 (.tmp 0), none, 0⟩,
  ⟨(some 3), .box 24 (.tmp 1), none, 0⟩,
  ⟨(some 4), .alloc 121, none, 0⟩]
def L56r1 : List AOp := [
  ⟨(some 5), .alloc 121, none, 0⟩]
def L56r2 : List AOp := [
  ⟨(some 12), .move (.const (.int .i64 0)), none, 0⟩]
def L56r3 : List AOp := [
  ⟨(some 13), .binOp .lss 3 (.tmp 12) (.const (.int .i64 6)) 3, none, 0⟩]
def L56r4 : List AOp := [
  ⟨(some 14), .move (.tmp 12), none, 0⟩,
  ⟨(some 6), .assign (.tmp 14), none, 0⟩]
def L56r5 : List AOp := [
  ⟨(some 7), .assign (.const (.int .u64 0)), none, 0⟩]
def L56r6 : List AOp := [
  ⟨(some 15), .move (.const (.int .i64 0)), none, 0⟩]
def L56r7 : List AOp := [
  ⟨(some 16), .binOp .lss 3 (.tmp 15) (.const (.int .i64 6)) 3, none, 0⟩]
def L56r8 : List AOp := [
  ⟨(some 17), .move (.tmp 15), none, 0⟩,
  ⟨(some 8), .assign (.tmp 17), none, 0⟩]
def L56r9 : List AOp := [
  ⟨(some 19), .move (.tmp 6), none, 0⟩,
  ⟨(some 20), .indexAddr 24 (.tmp 2) (.tmp 19), none, 1⟩,
  ⟨(some 21), .load 22 (.tmp 20), none, 3⟩,
  ⟨(some 22), .move (.tmp 8), none, 0⟩,
  ⟨(some 23), .indexAddr 24 (.tmp 3) (.tmp 22), none, 8⟩,
  ⟨(some 24), .load 22 (.tmp 23), none, 24⟩,
  ⟨(some 25), .call { callee := .value (.func 100), args := #[.tmp 21, .tmp 24], argTypes := #[22, 22] }, none, 1267650600228229401496703205439⟩,
  ⟨(some 18), .move (.tmp 25), none, 1267650600228229401496703205503⟩,
  ⟨(some 26), .extract (.tmp 18) 0, none, 255⟩,
  ⟨(some 27), .extract (.tmp 18) 1, none, 255⟩,
  ⟨(some 9), .assign (.tmp 26), none, 511⟩,
  ⟨(some 10), .assign (.tmp 27), none, 1267650600228229401496703207423⟩]
def L56r10 : List AOp := [
  ⟨(some 11), .assign (.const (.int .u64 0)), none, 0⟩]
def L56r11 : List AOp := [
  ⟨(some 29), .move (.tmp 10), none, 0⟩,
  ⟨(some 30), .move (.tmp 6), none, 0⟩,
  ⟨(some 31), .move (.tmp 8), none, 0⟩,
  ⟨(some 32), .binOp .add 3 (.tmp 30) (.tmp 31) 3, none, 0⟩,
  ⟨(some 33), .indexAddr 121 (.tmp 5) (.tmp 32), none, 0⟩,
  ⟨(some 34), .load 22 (.tmp 33), none, 0⟩,
  ⟨(some 35), .call { callee := .value (.func 101), args := #[.tmp 29, .tmp 34, .const (.int .u64 0)], argTypes := #[22, 22, 22] }, none, 0⟩,
  ⟨(some 28), .move (.tmp 35), none, 0⟩,
  ⟨(some 36), .extract (.tmp 28) 0, none, 0⟩,
  ⟨(some 37), .extract (.tmp 28) 1, none, 0⟩,
  ⟨(some 10), .assign (.tmp 36), none, 0⟩,
  ⟨(some 11), .assign (.tmp 37), none, 0⟩]
def L56r12 : List AOp := [
  ⟨(some 38), .move (.tmp 9), none, 0⟩,
  ⟨(some 39), .move (.tmp 11), none, 0⟩,
  ⟨(some 40), .binOp .add 22 (.tmp 38) (.tmp 39) 22, none, 0⟩,
  ⟨(some 9), .assign (.tmp 40), none, 0⟩]
def L56r13 : List AOp := [
  ⟨(some 42), .move (.tmp 10), none, 0⟩,
  ⟨(some 43), .move (.tmp 7), none, 0⟩,
  ⟨(some 44), .call { callee := .value (.func 101), args := #[.tmp 42, .tmp 43, .const (.int .u64 0)], argTypes := #[22, 22, 22] }, none, 0⟩,
  ⟨(some 41), .move (.tmp 44), none, 0⟩,
  ⟨(some 45), .extract (.tmp 41) 0, none, 0⟩,
  ⟨(some 46), .extract (.tmp 41) 1, none, 0⟩,
  ⟨(some 10), .assign (.tmp 45), none, 0⟩,
  ⟨(some 11), .assign (.tmp 46), none, 0⟩]
def L56r14 : List AOp := [
  ⟨(some 47), .move (.tmp 6), none, 0⟩,
  ⟨(some 48), .move (.tmp 8), none, 0⟩,
  ⟨(some 49), .binOp .add 3 (.tmp 47) (.tmp 48) 3, none, 0⟩,
  ⟨(some 50), .move (.tmp 10), none, 0⟩,
  ⟨(some 51), .move (.tmp 9), none, 0⟩,
  ⟨(some 52), .move (.tmp 11), none, 0⟩,
  ⟨(some 53), .binOp .add 22 (.tmp 51) (.tmp 52) 22, none, 0⟩,
  ⟨(some 54), .indexAddr 121 (.tmp 5) (.tmp 49), none, 0⟩,
  ⟨none, .store 22 (.tmp 54) (.tmp 50), none, 0⟩,
  ⟨(some 7), .assign (.tmp 53), none, 0⟩]
def L56r15 : List AOp := [
  ⟨(some 55), .binOp .add 3 (.tmp 15) (.const (.int .i64 1)) 3, none, 0⟩,
  ⟨(some 15), .move (.tmp 55), none, 0⟩]
def L56r16 : List AOp := [
  ⟨(some 56), .move (.tmp 6), none, 0⟩,
  ⟨(some 57), .binOp .add 3 (.tmp 56) (.const (.int .i64 6)) 3, none, 0⟩,
  ⟨(some 58), .move (.tmp 7), none, 0⟩,
  ⟨(some 59), .indexAddr 121 (.tmp 5) (.tmp 57), none, 0⟩,
  ⟨none, .store 22 (.tmp 59) (.tmp 58), none, 0⟩]
def L56r17 : List AOp := [
  ⟨(some 60), .binOp .add 3 (.tmp 12) (.const (.int .i64 1)) 3, none, 0⟩,
  ⟨(some 12), .move (.tmp 60), none, 0⟩]
def L56r18 : List AOp := [
  ⟨(some 61), .load 121 (.tmp 5), none, 0⟩,
  ⟨none, .store 121 (.tmp 4) (.tmp 61), none, 0⟩]
def L56 : LC := (.seq (.region L56r0) (.seq (.region L56r1) (.seq (.seq (.region L56r2) (.block 0 (.loop (.seq (.region L56r3) (.seq (.cond (.tmp 13) .skip (.exit 0)) (.seq (.block 1 (.seq (.region L56r4) (.seq (.region L56r5) (.seq (.seq (.region L56r6) (.block 2 (.loop (.seq (.region L56r7) (.seq (.cond (.tmp 16) .skip (.exit 2)) (.seq (.block 3 (.seq (.region L56r8) (.seq (.regionD L56r9) (.seq (.region L56r10) (.seq (.region L56r11) (.seq (.region L56r12) (.seq (.region L56r13) (.region L56r14)))))))) (.region L56r15))))))) (.region L56r16))))) (.region L56r17))))))) (.seq (.region L56r18) .ret))))
theorem nt56 : Tryz.f56.ntmps = 62 := by kernel_rfl
theorem rs56 : Tryz.f56.results.toList = [.cell 4 121] := by kernel_rfl
theorem lite56 : Tryz.f56.body.map (lite okDraw) = some L56 := by kernel_rfl
def L57r0 : List AOp := [
  ⟨(some 2), .box 24 (.tmp 0), none, 0⟩,
  ⟨(some 3), .box 24 (.tmp 1), none, 0⟩,
  ⟨(some 4), .alloc 24, none, 0⟩]
def L57r1 : List AOp := [
  ⟨(some 10), .load 24 (.tmp 2), none, 0⟩,
  ⟨(some 11), .load 24 (.tmp 3), none, 0⟩,
  ⟨(some 12), .call { callee := .value (.func 51), args := #[.tmp 10, .tmp 11], argTypes := #[24, 24] }, none, 0⟩,
  ⟨(some 9), .move (.tmp 12), none, 0⟩,
  ⟨(some 13), .extract (.tmp 9) 0, none, 0⟩,
  ⟨(some 14), .extract (.tmp 9) 1, none, 0⟩,
  ⟨(some 5), .alloc 24, none, 0⟩,
  ⟨none, .store 24 (.tmp 5) (.tmp 13), none, 0⟩,
  ⟨(some 6), .assign (.tmp 14), none, 0⟩]
def L57r2 : List AOp := [
  ⟨(some 16), .load 24 (.tmp 5), none, 0⟩,
  ⟨(some 17), .fieldAddr 81 (.global 1) 0, none, 0⟩,
  ⟨(some 18), .load 24 (.tmp 17), none, 0⟩,
  ⟨(some 19), .call { callee := .value (.func 97), args := #[.tmp 16, .tmp 18], argTypes := #[24, 24] }, none, 0⟩,
  ⟨(some 15), .move (.tmp 19), none, 0⟩,
  ⟨(some 20), .extract (.tmp 15) 0, none, 0⟩,
  ⟨(some 21), .extract (.tmp 15) 1, none, 0⟩,
  ⟨(some 7), .alloc 24, none, 0⟩,
  ⟨none, .store 24 (.tmp 7) (.tmp 20), none, 0⟩,
  ⟨(some 8), .assign (.tmp 21), none, 0⟩]
def L57r3 : List AOp := [
  ⟨(some 22), .move (.tmp 6), none, 0⟩,
  ⟨(some 23), .load 24 (.tmp 5), none, 0⟩,
  ⟨(some 24), .load 24 (.tmp 7), none, 0⟩,
  ⟨(some 25), .call { callee := .value (.func 60), args := #[.tmp 22, .tmp 23, .tmp 24], argTypes := #[22, 24, 24] }, none, 0⟩,
  ⟨none, .store 24 (.tmp 4) (.tmp 25), none, 0⟩]
def L57 : LC := (.seq (.region L57r0) (.seq (.region L57r1) (.seq (.region L57r2) (.seq (.region L57r3) .ret))))
theorem nt57 : Tryz.f57.ntmps = 26 := by kernel_rfl
theorem rs57 : Tryz.f57.results.toList = [.cell 4 24] := by kernel_rfl
theorem lite57 : Tryz.f57.body.map (lite okDraw) = some L57 := by kernel_rfl
def L58r0 : List AOp := [
  ⟨(some 2), .box 24 (.tmp 0), none, 0⟩,
  ⟨(some 3), .box 24 (.tmp 1), none, 0⟩,
  ⟨(some 4), .alloc 24, none, 0⟩]
def L58r1 : List AOp := [
  ⟨(some 10), .load 24 (.tmp 2), none, 0⟩,
  ⟨(some 11), .load 24 (.tmp 3), none, 0⟩,
  ⟨(some 12), .call { callee := .value (.func 97), args := #[.tmp 10, .tmp 11], argTypes := #[24, 24] }, none, 0⟩,
  ⟨(some 9), .move (.tmp 12), none, 0⟩,
  ⟨(some 13), .extract (.tmp 9) 0, none, 0⟩,
  ⟨(some 14), .extract (.tmp 9) 1, none, 0⟩,
  ⟨(some 5), .alloc 24, none, 0⟩,
  ⟨none, .store 24 (.tmp 5) (.tmp 13), none, 0⟩,
  ⟨(some 6), .assign (.tmp 14), none, 0⟩]
def L58r2 : List AOp := [
  ⟨(some 16), .load 24 (.tmp 5), none, 0⟩,
  ⟨(some 17), .fieldAddr 81 (.global 1) 0, none, 0⟩,
  ⟨(some 18), .load 24 (.tmp 17), none, 0⟩,
  ⟨(some 19), .call { callee := .value (.func 51), args := #[.tmp 16, .tmp 18], argTypes := #[24, 24] }, none, 0⟩,
  ⟨(some 15), .move (.tmp 19), none, 0⟩,
  ⟨(some 20), .extract (.tmp 15) 0, none, 0⟩,
  ⟨(some 21), .extract (.tmp 15) 1, none, 0⟩,
  ⟨(some 7), .alloc 24, none, 0⟩,
  ⟨none, .store 24 (.tmp 7) (.tmp 20), none, 0⟩,
  ⟨(some 8), .assign (.tmp 21), none, 0⟩]
def L58r3 : List AOp := [
  ⟨(some 22), .move (.tmp 6), none, 0⟩,
  ⟨(some 23), .move (.tmp 8), none, 0⟩,
  ⟨(some 24), .binOp .xor 22 (.const (.int .u64 1)) (.tmp 23) 22, none, 0⟩,
  ⟨(some 25), .binOp .or 22 (.tmp 22) (.tmp 24) 22, none, 0⟩,
  ⟨(some 26), .load 24 (.tmp 5), none, 0⟩,
  ⟨(some 27), .load 24 (.tmp 7), none, 0⟩,
  ⟨(some 28), .call { callee := .value (.func 60), args := #[.tmp 25, .tmp 26, .tmp 27], argTypes := #[22, 24, 24] }, none, 0⟩,
  ⟨none, .store 24 (.tmp 4) (.tmp 28), none, 0⟩]
def L58 : LC := (.seq (.region L58r0) (.seq (.region L58r1) (.seq (.region L58r2) (.seq (.region L58r3) .ret))))
theorem nt58 : Tryz.f58.ntmps = 29 := by kernel_rfl
theorem rs58 : Tryz.f58.results.toList = [.cell 4 24] := by kernel_rfl
theorem lite58 : Tryz.f58.body.map (lite okDraw) = some L58 := by kernel_rfl
def L59r0 : List AOp := [
  ⟨(some 1), .box 24 (.tmp 0), none, 0⟩,
  ⟨(some 2), .alloc 24, none, 0⟩]
def L59r1 : List AOp := [
  ⟨(some 3), .load 24 (.tmp 1), none, 0⟩,
  ⟨(some 4), .load 24 (.tmp 1), none, 0⟩,
  ⟨(some 5), .load 24 (.tmp 1), none, 0⟩,
  ⟨(some 6), .call { callee := .value (.func 58), args := #[.tmp 4, .tmp 5], argTypes := #[24, 24] }, none, 6⟩,
  ⟨(some 7), .call { callee := .value (.func 58), args := #[.tmp 3, .tmp 6], argTypes := #[24, 24] }, none, 1267650600228229401496703205391⟩,
  ⟨none, .store 24 (.tmp 2) (.tmp 7), none, 1267650600228229401496703205407⟩]
def L59 : LC := (.seq (.region L59r0) (.seq (.regionD L59r1) .ret))
theorem nt59 : Tryz.f59.ntmps = 8 := by kernel_rfl
theorem rs59 : Tryz.f59.results.toList = [.cell 2 24] := by kernel_rfl
theorem lite59 : Tryz.f59.body.map (lite okDraw) = some L59 := by kernel_rfl
def L60r0 : List AOp := [
  ⟨(some 4), .box 24 (.tmp 1), none, 0⟩,
  ⟨(some 5), .box 24 (.tmp 2), none, 0⟩,
  ⟨(some 6), .alloc 24, none, 0⟩]
def L60r1 : List AOp := [
  ⟨(some 10), .move (.tmp 0), none, 0⟩,
  ⟨(some 11), .binOp .and 22 (.tmp 10) (.const (.int .u64 1)) 22, none, 0⟩,
  ⟨(some 12), .unOp .neg 22 (.tmp 11), none, 0⟩,
  ⟨(some 7), .assign (.tmp 12), none, 0⟩]
def L60r2 : List AOp := [
  ⟨(some 8), .alloc 24, none, 0⟩]
def L60r3 : List AOp := [
  ⟨(some 13), .move (.const (.int .i64 0)), none, 0⟩]
def L60r4 : List AOp := [
  ⟨(some 14), .binOp .lss 3 (.tmp 13) (.const (.int .i64 6)) 3, none, 0⟩]
def L60r5 : List AOp := [
  ⟨(some 15), .move (.tmp 13), none, 0⟩,
  ⟨(some 9), .assign (.tmp 15), none, 0⟩]
def L60r6 : List AOp := [
  ⟨(some 16), .move (.tmp 9), none, 0⟩,
  ⟨(some 17), .move (.tmp 9), none, 0⟩,
  ⟨(some 18), .indexAddr 24 (.tmp 4) (.tmp 17), none, 2⟩,
  ⟨(some 19), .load 22 (.tmp 18), none, 6⟩,
  ⟨(some 20), .move (.tmp 7), none, 0⟩,
  ⟨(some 21), .binOp .andNot 22 (.tmp 19) (.tmp 20) 22, none, 30⟩,
  ⟨(some 22), .move (.tmp 9), none, 0⟩,
  ⟨(some 23), .indexAddr 24 (.tmp 5) (.tmp 22), none, 64⟩,
  ⟨(some 24), .load 22 (.tmp 23), none, 192⟩,
  ⟨(some 25), .move (.tmp 7), none, 0⟩,
  ⟨(some 26), .binOp .and 22 (.tmp 24) (.tmp 25) 22, none, 960⟩,
  ⟨(some 27), .binOp .or 22 (.tmp 21) (.tmp 26) 22, none, 2046⟩,
  ⟨(some 28), .indexAddr 24 (.tmp 8) (.tmp 16), none, 1267650600228229401496703209471⟩,
  ⟨none, .store 22 (.tmp 28) (.tmp 27), none, 1267650600228229401496703213567⟩]
def L60r7 : List AOp := [
  ⟨(some 29), .binOp .add 3 (.tmp 13) (.const (.int .i64 1)) 3, none, 0⟩,
  ⟨(some 13), .move (.tmp 29), none, 0⟩]
def L60r8 : List AOp := [
  ⟨(some 30), .load 24 (.tmp 8), none, 0⟩,
  ⟨none, .store 24 (.tmp 6) (.tmp 30), none, 0⟩]
def L60 : LC := (.seq (.region L60r0) (.seq (.region L60r1) (.seq (.region L60r2) (.seq (.seq (.region L60r3) (.block 0 (.loop (.seq (.region L60r4) (.seq (.cond (.tmp 14) .skip (.exit 0)) (.seq (.block 1 (.seq (.region L60r5) (.regionD L60r6))) (.region L60r7))))))) (.seq (.region L60r8) .ret)))))
theorem nt60 : Tryz.f60.ntmps = 31 := by kernel_rfl
theorem rs60 : Tryz.f60.results.toList = [.cell 6 24] := by kernel_rfl
theorem lite60 : Tryz.f60.body.map (lite okDraw) = some L60 := by kernel_rfl
def L61r0 : List AOp := [
  ⟨(some 3), .box 24 (.tmp 0), none, 0⟩,
  ⟨(some 4), .box 24 (.tmp 1), none, 0⟩,
  ⟨(some 5), .box 81 (.tmp 2), none, 0⟩,
  ⟨(some 6), .alloc 24, none, 0⟩]
def L61r1 : List AOp := [
  ⟨(some 10), .load 24 (.tmp 3), none, 0⟩,
  ⟨(some 11), .fieldAddr 81 (.tmp 5) 2, none, 0⟩,
  ⟨(some 12), .load 24 (.tmp 11), none, 0⟩,
  ⟨(some 13), .load 81 (.tmp 5), none, 0⟩,
  ⟨(some 14), .call { callee := .value (.func 96), args := #[.tmp 10, .tmp 12, .tmp 13], argTypes := #[24, 24, 81] }, none, 0⟩,
  ⟨(some 7), .alloc 24, none, 0⟩,
  ⟨none, .store 24 (.tmp 7) (.tmp 14), none, 0⟩]
def L61r2 : List AOp := [
  ⟨(some 15), .build 24 #[(0, .const (.int .u64 1))], none, 0⟩,
  ⟨(some 16), .fieldAddr 81 (.tmp 5) 2, none, 0⟩,
  ⟨(some 17), .load 24 (.tmp 16), none, 0⟩,
  ⟨(some 18), .load 81 (.tmp 5), none, 0⟩,
  ⟨(some 19), .call { callee := .value (.func 96), args := #[.tmp 15, .tmp 17, .tmp 18], argTypes := #[24, 24, 81] }, none, 0⟩,
  ⟨(some 8), .alloc 24, none, 0⟩,
  ⟨none, .store 24 (.tmp 8) (.tmp 19), none, 0⟩]
def L61r3 : List AOp := [
  ⟨(some 9), .assign (.const (.int .i64 383)), none, 0⟩]
def L61r4 : List AOp := [
  ⟨(some 20), .move (.tmp 9), none, 0⟩,
  ⟨(some 21), .binOp .geq 3 (.tmp 20) (.const (.int .i64 0)) 3, none, 0⟩]
def L61r6 : List AOp := [
  ⟨(some 24), .load 24 (.tmp 8), none, 0⟩,
  ⟨(some 25), .load 24 (.tmp 8), none, 0⟩,
  ⟨(some 26), .load 81 (.tmp 5), none, 0⟩,
  ⟨(some 27), .call { callee := .value (.func 96), args := #[.tmp 24, .tmp 25, .tmp 26], argTypes := #[24, 24, 81] }, none, 0⟩,
  ⟨none, .store 24 (.tmp 8) (.tmp 27), none, 0⟩]
def L61r7 : List AOp := [
  ⟨(some 28), .load 24 (.tmp 4), none, 0⟩,
  ⟨(some 29), .move (.tmp 9), none, 0⟩,
  ⟨(some 30), .call { callee := .value (.func 33), args := #[.tmp 28, .tmp 29], argTypes := #[24, 3] }, none, 3⟩,
  ⟨(some 31), .load 24 (.tmp 8), none, 0⟩,
  ⟨(some 32), .load 24 (.tmp 8), none, 0⟩,
  ⟨(some 33), .load 24 (.tmp 7), none, 0⟩,
  ⟨(some 34), .load 81 (.tmp 5), none, 0⟩,
  ⟨(some 35), .call { callee := .value (.func 96), args := #[.tmp 32, .tmp 33, .tmp 34], argTypes := #[24, 24, 81] }, none, 119⟩,
  ⟨(some 36), .call { callee := .value (.func 60), args := #[.tmp 30, .tmp 31, .tmp 35], argTypes := #[22, 24, 24] }, none, 1267650600228229401496703205631⟩,
  ⟨none, .store 24 (.tmp 8) (.tmp 36), none, 1267650600228229401496703205887⟩]
def L61r5 : List AOp := [
  ⟨(some 22), .move (.tmp 9), none, 0⟩,
  ⟨(some 23), .binOp .sub 3 (.tmp 22) (.const (.int .i64 1)) 3, none, 0⟩,
  ⟨(some 9), .assign (.tmp 23), none, 0⟩]
def L61r8 : List AOp := [
  ⟨(some 37), .load 24 (.tmp 8), none, 0⟩,
  ⟨(some 38), .build 24 #[(0, .const (.int .u64 1))], none, 0⟩,
  ⟨(some 39), .load 81 (.tmp 5), none, 0⟩,
  ⟨(some 40), .call { callee := .value (.func 96), args := #[.tmp 37, .tmp 38, .tmp 39], argTypes := #[24, 24, 81] }, none, 0⟩,
  ⟨none, .store 24 (.tmp 6) (.tmp 40), none, 0⟩]
def L61 : LC := (.seq (.region L61r0) (.seq (.region L61r1) (.seq (.region L61r2) (.seq (.seq (.region L61r3) (.block 0 (.loop (.seq (.seq (.region L61r4) (.cond (.tmp 21) .skip (.exit 0))) (.seq (.block 1 (.seq (.region L61r6) (.regionD L61r7))) (.region L61r5)))))) (.seq (.region L61r8) .ret)))))
theorem nt61 : Tryz.f61.ntmps = 41 := by kernel_rfl
theorem rs61 : Tryz.f61.results.toList = [.cell 6 24] := by kernel_rfl
theorem lite61 : Tryz.f61.body.map (lite okDraw) = some L61 := by kernel_rfl
def L62r0 : List AOp := [
  ⟨(some 2), .alloc 128, none, 0⟩,
  ⟨(some 3), .assign (.const .nilIface), none, 0⟩]
def L62r1 : List AOp := [
  ⟨(some 7), .move (.tmp 0), none, 0⟩,
  ⟨(some 8), .call { callee := .builtin .len, args := #[.tmp 7], argTypes := #[57] }, none, 0⟩,
  ⟨(some 9), .binOp .gtr 3 (.tmp 8) (.const (.int .i64 1048576)) 3, none, 0⟩]
def L62r2 : List AOp := [
  ⟨(some 10), .build 128 #[], none, 0⟩,
  ⟨(some 11), .makeInterface 38 (.const (.int .i64 2)), none, 0⟩,
  ⟨none, .store 128 (.tmp 2) (.tmp 10), none, 0⟩,
  ⟨(some 3), .assign (.tmp 11), none, 0⟩]
def L62r3 : List AOp := [
  ⟨(some 13), .move (.tmp 0), none, 0⟩,
  ⟨(some 14), .build 189 #[(0, .tmp 13)], none, 0⟩,
  ⟨(some 15), .move (.tmp 0), none, 0⟩,
  ⟨(some 16), .call { callee := .builtin .len, args := #[.tmp 15], argTypes := #[57] }, none, 0⟩,
  ⟨(some 17), .call { callee := .value (.func 102), args := #[.tmp 14, .const (.int .i64 0), .tmp 16, .const (.int .i64 0)], argTypes := #[189, 3, 3, 3] }, none, 0⟩,
  ⟨(some 12), .move (.tmp 17), none, 0⟩,
  ⟨(some 18), .extract (.tmp 12) 0, none, 0⟩,
  ⟨(some 19), .extract (.tmp 12) 1, none, 0⟩,
  ⟨(some 20), .extract (.tmp 12) 2, none, 0⟩,
  ⟨(some 4), .alloc 128, none, 0⟩,
  ⟨none, .store 128 (.tmp 4) (.tmp 18), none, 0⟩,
  ⟨(some 5), .assign (.tmp 19), none, 0⟩,
  ⟨(some 6), .assign (.tmp 20), none, 0⟩]
def L62r4 : List AOp := [
  ⟨(some 22), .move (.tmp 6), none, 0⟩,
  ⟨(some 23), .binOp .neq 30 (.tmp 22) (.const .nilIface) 30, none, 0⟩,
  ⟨(some 21), .assign (.tmp 23), none, 0⟩]
def L62r5 : List AOp := [
  ⟨(some 24), .build 128 #[], none, 0⟩,
  ⟨(some 25), .move (.tmp 6), none, 0⟩,
  ⟨none, .store 128 (.tmp 2) (.tmp 24), none, 0⟩,
  ⟨(some 3), .assign (.tmp 25), none, 0⟩]
def L62r6 : List AOp := [
  ⟨(some 27), .move (.tmp 5), none, 0⟩,
  ⟨(some 28), .move (.tmp 0), none, 0⟩,
  ⟨(some 29), .call { callee := .builtin .len, args := #[.tmp 28], argTypes := #[57] }, none, 0⟩,
  ⟨(some 30), .binOp .lss 3 (.tmp 27) (.tmp 29) 3, none, 0⟩,
  ⟨(some 26), .assign (.tmp 30), none, 0⟩]
def L62r7 : List AOp := [
  ⟨(some 31), .build 128 #[], none, 0⟩,
  ⟨(some 32), .move (.tmp 5), none, 0⟩,
  ⟨(some 33), .makeInterface 38 (.const (.int .i64 8)), none, 0⟩,
  ⟨(some 34), .call { callee := .value (.func 103), args := #[.tmp 32, .tmp 33], argTypes := #[3, 30] }, none, 0⟩,
  ⟨none, .store 128 (.tmp 2) (.tmp 31), none, 0⟩,
  ⟨(some 3), .assign (.tmp 34), none, 0⟩]
def L62r8 : List AOp := [
  ⟨(some 35), .load 128 (.tmp 4), none, 0⟩,
  ⟨none, .store 128 (.tmp 2) (.tmp 35), none, 0⟩,
  ⟨(some 3), .assign (.const .nilIface), none, 0⟩]
def L62 : LC := (.seq (.region L62r0) (.seq (.seq (.region L62r1) (.cond (.tmp 9) (.seq (.region L62r2) .ret) .skip)) (.seq (.region L62r3) (.seq (.block 0 (.seq (.region L62r4) (.cond (.tmp 21) (.seq (.region L62r5) .ret) (.seq (.region L62r6) (.cond (.tmp 26) (.seq (.region L62r7) .ret) .skip))))) (.seq (.region L62r8) .ret)))))
theorem nt62 : Tryz.f62.ntmps = 36 := by kernel_rfl
theorem rs62 : Tryz.f62.results.toList = [.cell 2 128, .tmp 3] := by kernel_rfl
theorem lite62 : Tryz.f62.body.map (lite okDraw) = some L62 := by kernel_rfl
def L96r0 : List AOp := [
  ⟨(some 3), .box 24 (.tmp 0), none, 0⟩,
  ⟨(some 4), .box 24 (.tmp 1), none, 0⟩,
  ⟨(some 5), .box 81 (.tmp 2), none, 0⟩,
  ⟨(some 6), .alloc 24, none, 0⟩]
def L96r1 : List AOp := [
  ⟨(some 7), .load 24 (.tmp 3), none, 0⟩,
  ⟨(some 8), .load 24 (.tmp 4), none, 0⟩,
  ⟨(some 9), .call { callee := .value (.func 56), args := #[.tmp 7, .tmp 8], argTypes := #[24, 24] }, none, 3⟩,
  ⟨(some 10), .load 81 (.tmp 5), none, 0⟩,
  ⟨(some 11), .call { callee := .value (.func 55), args := #[.tmp 9, .tmp 10], argTypes := #[121, 81] }, none, 1267650600228229401496703205391⟩,
  ⟨none, .store 24 (.tmp 6) (.tmp 11), none, 1267650600228229401496703205407⟩]
def L96 : LC := (.seq (.region L96r0) (.seq (.regionD L96r1) .ret))
theorem nt96 : Tryz.f96.ntmps = 12 := by kernel_rfl
theorem rs96 : Tryz.f96.results.toList = [.cell 6 24] := by kernel_rfl
theorem lite96 : Tryz.f96.body.map (lite okDraw) = some L96 := by kernel_rfl
def L97r0 : List AOp := [
  ⟨(some 2), .box 24 (.tmp 0), none, 0⟩,
  ⟨(some 3), .box 24 (.tmp 1), none, 0⟩,
  ⟨(some 4), .alloc 24, none, 0⟩,
  ⟨(some 5), .assign (.const (.int .u64 0)), none, 0⟩]
def L97r1 : List AOp := [
  ⟨(some 6), .alloc 24, none, 0⟩]
def L97r2 : List AOp := [
  ⟨(some 7), .assign (.const (.int .u64 0)), none, 0⟩]
def L97r3 : List AOp := [
  ⟨(some 9), .move (.const (.int .i64 0)), none, 0⟩]
def L97r4 : List AOp := [
  ⟨(some 10), .binOp .lss 3 (.tmp 9) (.const (.int .i64 6)) 3, none, 0⟩]
def L97r5 : List AOp := [
  ⟨(some 11), .move (.tmp 9), none, 0⟩,
  ⟨(some 8), .assign (.tmp 11), none, 0⟩]
def L97r6 : List AOp := [
  ⟨(some 13), .move (.tmp 8), none, 0⟩,
  ⟨(some 14), .move (.tmp 8), none, 0⟩,
  ⟨(some 15), .indexAddr 24 (.tmp 2) (.tmp 14), none, 2⟩,
  ⟨(some 16), .load 22 (.tmp 15), none, 6⟩,
  ⟨(some 17), .move (.tmp 8), none, 0⟩,
  ⟨(some 18), .indexAddr 24 (.tmp 3) (.tmp 17), none, 16⟩,
  ⟨(some 19), .load 22 (.tmp 18), none, 48⟩,
  ⟨(some 20), .move (.tmp 7), none, 0⟩,
  ⟨(some 21), .call { callee := .value (.func 101), args := #[.tmp 16, .tmp 19, .tmp 20], argTypes := #[22, 22, 22] }, none, 254⟩,
  ⟨(some 12), .move (.tmp 21), none, 510⟩,
  ⟨(some 22), .extract (.tmp 12) 0, none, 1022⟩,
  ⟨(some 23), .extract (.tmp 12) 1, none, 1022⟩,
  ⟨(some 24), .indexAddr 24 (.tmp 6) (.tmp 13), none, 2047⟩,
  ⟨none, .store 22 (.tmp 24) (.tmp 22), none, 6143⟩,
  ⟨(some 7), .assign (.tmp 23), none, 1267650600228229401496703221759⟩]
def L97r7 : List AOp := [
  ⟨(some 25), .binOp .add 3 (.tmp 9) (.const (.int .i64 1)) 3, none, 0⟩,
  ⟨(some 9), .move (.tmp 25), none, 0⟩]
def L97r8 : List AOp := [
  ⟨(some 26), .load 24 (.tmp 6), none, 0⟩,
  ⟨(some 27), .move (.tmp 7), none, 0⟩,
  ⟨none, .store 24 (.tmp 4) (.tmp 26), none, 0⟩,
  ⟨(some 5), .assign (.tmp 27), none, 0⟩]
def L97 : LC := (.seq (.region L97r0) (.seq (.region L97r1) (.seq (.region L97r2) (.seq (.seq (.region L97r3) (.block 0 (.loop (.seq (.region L97r4) (.seq (.cond (.tmp 10) .skip (.exit 0)) (.seq (.block 1 (.seq (.region L97r5) (.regionD L97r6))) (.region L97r7))))))) (.seq (.region L97r8) .ret)))))
theorem nt97 : Tryz.f97.ntmps = 28 := by kernel_rfl
theorem rs97 : Tryz.f97.results.toList = [.cell 4 24, .tmp 5] := by kernel_rfl
theorem lite97 : Tryz.f97.body.map (lite okDraw) = some L97 := by kernel_rfl
def L98r0 : List AOp := [
  ⟨(some 2), .box 24 (.tmp 0), none, 0⟩,
  ⟨(some 3), .box 81 (.tmp 1), none, 0⟩,
  ⟨(some 4), .alloc 24, none, 0⟩]
def L98r1 : List AOp := [
  ⟨(some 5), .load 24 (.tmp 2), none, 0⟩,
  ⟨(some 6), .fieldAddr 81 (.tmp 3) 0, none, 0⟩,
  ⟨(some 7), .load 24 (.tmp 6), none, 0⟩,
  ⟨(some 8), .call { callee := .value (.func 99), args := #[.tmp 5, .const (.int .u64 0), .tmp 7], argTypes := #[24, 22, 24] }, none, 0⟩,
  ⟨none, .store 24 (.tmp 4) (.tmp 8), none, 0⟩]
def L98 : LC := (.seq (.region L98r0) (.seq (.region L98r1) .ret))
theorem nt98 : Tryz.f98.ntmps = 9 := by kernel_rfl
theorem rs98 : Tryz.f98.results.toList = [.cell 4 24] := by kernel_rfl
theorem lite98 : Tryz.f98.body.map (lite okDraw) = some L98 := by kernel_rfl
def L99r0 : List AOp := [
  ⟨(some 3), .box 24 (.tmp 0), none, 0⟩,
  ⟨(some 5), .box 24 (.tmp 2), none, 0⟩,
  ⟨(some 6), .alloc 24, none, 0⟩]
def L99r1 : List AOp := [
  ⟨(some 10), .load 24 (.tmp 3), none, 0⟩,
  ⟨(some 11), .load 24 (.tmp 5), none, 0⟩,
  ⟨(some 12), .call { callee := .value (.func 51), args := #[.tmp 10, .tmp 11], argTypes := #[24, 24] }, none, 0⟩,
  ⟨(some 9), .move (.tmp 12), none, 0⟩,
  ⟨(some 13), .extract (.tmp 9) 0, none, 0⟩,
  ⟨(some 14), .extract (.tmp 9) 1, none, 0⟩,
  ⟨(some 7), .alloc 24, none, 0⟩,
  ⟨none, .store 24 (.tmp 7) (.tmp 13), none, 0⟩,
  ⟨(some 8), .assign (.tmp 14), none, 0⟩]
def L99r2 : List AOp := [
  ⟨(some 15), .move (.tmp 1), none, 0⟩,
  ⟨(some 16), .move (.tmp 8), none, 0⟩,
  ⟨(some 17), .binOp .xor 22 (.const (.int .u64 1)) (.tmp 16) 22, none, 0⟩,
  ⟨(some 18), .binOp .or 22 (.tmp 15) (.tmp 17) 22, none, 0⟩,
  ⟨(some 19), .load 24 (.tmp 3), none, 0⟩,
  ⟨(some 20), .load 24 (.tmp 7), none, 0⟩,
  ⟨(some 21), .call { callee := .value (.func 60), args := #[.tmp 18, .tmp 19, .tmp 20], argTypes := #[22, 24, 24] }, none, 0⟩,
  ⟨none, .store 24 (.tmp 6) (.tmp 21), none, 0⟩]
def L99 : LC := (.seq (.region L99r0) (.seq (.region L99r1) (.seq (.region L99r2) .ret)))
theorem nt99 : Tryz.f99.ntmps = 22 := by kernel_rfl
theorem rs99 : Tryz.f99.results.toList = [.cell 6 24] := by kernel_rfl
theorem lite99 : Tryz.f99.body.map (lite okDraw) = some L99 := by kernel_rfl
def L100r0 : List AOp := [
  ⟨(some 4), .assign (.const (.int .u64 0)), none, 0⟩,
  ⟨(some 5), .assign (.const (.int .u64 0)), none, 0⟩]
def L100r1 : List AOp := [
  ⟨(some 14), .move (.tmp 0), none, 0⟩,
  ⟨(some 15), .binOp .and 22 (.tmp 14) (.const (.int .u64 4294967295)) 22, none, 0⟩,
  ⟨(some 6), .assign (.tmp 15), none, 0⟩]
def L100r2 : List AOp := [
  ⟨(some 16), .move (.tmp 0), none, 0⟩,
  ⟨(some 17), .binOp .shr 22 (.tmp 16) (.const (.int .u64 32)) 125, none, 0⟩,
  ⟨(some 7), .assign (.tmp 17), none, 0⟩]
def L100r3 : List AOp := [
  ⟨(some 18), .move (.tmp 1), none, 0⟩,
  ⟨(some 19), .binOp .and 22 (.tmp 18) (.const (.int .u64 4294967295)) 22, none, 0⟩,
  ⟨(some 8), .assign (.tmp 19), none, 0⟩]
def L100r4 : List AOp := [
  ⟨(some 20), .move (.tmp 1), none, 0⟩,
  ⟨(some 21), .binOp .shr 22 (.tmp 20) (.const (.int .u64 32)) 125, none, 0⟩,
  ⟨(some 9), .assign (.tmp 21), none, 0⟩]
def L100r5 : List AOp := [
  ⟨(some 22), .move (.tmp 6), none, 0⟩,
  ⟨(some 23), .move (.tmp 8), none, 0⟩,
  ⟨(some 24), .binOp .mul 22 (.tmp 22) (.tmp 23) 22, none, 0⟩,
  ⟨(some 10), .assign (.tmp 24), none, 0⟩]
def L100r6 : List AOp := [
  ⟨(some 25), .move (.tmp 7), none, 0⟩,
  ⟨(some 26), .move (.tmp 8), none, 0⟩,
  ⟨(some 27), .binOp .mul 22 (.tmp 25) (.tmp 26) 22, none, 0⟩,
  ⟨(some 28), .move (.tmp 10), none, 0⟩,
  ⟨(some 29), .binOp .shr 22 (.tmp 28) (.const (.int .u64 32)) 125, none, 0⟩,
  ⟨(some 30), .binOp .add 22 (.tmp 27) (.tmp 29) 22, none, 0⟩,
  ⟨(some 11), .assign (.tmp 30), none, 0⟩]
def L100r7 : List AOp := [
  ⟨(some 31), .move (.tmp 11), none, 0⟩,
  ⟨(some 32), .binOp .and 22 (.tmp 31) (.const (.int .u64 4294967295)) 22, none, 0⟩,
  ⟨(some 12), .assign (.tmp 32), none, 0⟩]
def L100r8 : List AOp := [
  ⟨(some 33), .move (.tmp 11), none, 0⟩,
  ⟨(some 34), .binOp .shr 22 (.tmp 33) (.const (.int .u64 32)) 125, none, 0⟩,
  ⟨(some 13), .assign (.tmp 34), none, 0⟩]
def L100r9 : List AOp := [
  ⟨(some 35), .move (.tmp 12), none, 0⟩,
  ⟨(some 36), .move (.tmp 6), none, 0⟩,
  ⟨(some 37), .move (.tmp 9), none, 0⟩,
  ⟨(some 38), .binOp .mul 22 (.tmp 36) (.tmp 37) 22, none, 0⟩,
  ⟨(some 39), .binOp .add 22 (.tmp 35) (.tmp 38) 22, none, 0⟩,
  ⟨(some 12), .assign (.tmp 39), none, 0⟩]
def L100r10 : List AOp := [
  ⟨(some 40), .move (.tmp 7), none, 0⟩,
  ⟨(some 41), .move (.tmp 9), none, 0⟩,
  ⟨(some 42), .binOp .mul 22 (.tmp 40) (.tmp 41) 22, none, 0⟩,
  ⟨(some 43), .move (.tmp 13), none, 0⟩,
  ⟨(some 44), .binOp .add 22 (.tmp 42) (.tmp 43) 22, none, 0⟩,
  ⟨(some 45), .move (.tmp 12), none, 0⟩,
  ⟨(some 46), .binOp .shr 22 (.tmp 45) (.const (.int .u64 32)) 125, none, 0⟩,
  ⟨(some 47), .binOp .add 22 (.tmp 44) (.tmp 46) 22, none, 0⟩,
  ⟨(some 4), .assign (.tmp 47), none, 0⟩]
def L100r11 : List AOp := [
  ⟨(some 48), .move (.tmp 0), none, 0⟩,
  ⟨(some 49), .move (.tmp 1), none, 0⟩,
  ⟨(some 50), .binOp .mul 22 (.tmp 48) (.tmp 49) 22, none, 0⟩,
  ⟨(some 5), .assign (.tmp 50), none, 0⟩]
def L100 : LC := (.seq (.region L100r0) (.seq (.region L100r1) (.seq (.region L100r2) (.seq (.region L100r3) (.seq (.region L100r4) (.seq (.region L100r5) (.seq (.region L100r6) (.seq (.region L100r7) (.seq (.region L100r8) (.seq (.region L100r9) (.seq (.region L100r10) (.seq (.region L100r11) .ret))))))))))))
theorem nt100 : Tryz.f100.ntmps = 51 := by kernel_rfl
theorem rs100 : Tryz.f100.results.toList = [.tmp 4, .tmp 5] := by kernel_rfl
theorem lite100 : Tryz.f100.body.map (lite okDraw) = some L100 := by kernel_rfl
def L102r0 : List AOp := [
  ⟨(some 4), .box 189 (.tmp 0), none, 0⟩,
  ⟨(some 8), .alloc 128, none, 0⟩,
  ⟨(some 9), .assign (.const (.int .i64 0)), none, 0⟩,
  ⟨(some 10), .assign (.const .nilIface), none, 0⟩]
def L102r1 : List AOp := [
  ⟨(some 19), .move (.tmp 3), none, 0⟩,
  ⟨(some 20), .binOp .geq 3 (.tmp 19) (.const (.int .i64 16)) 3, none, 0⟩,
  ⟨(some 18), .assign (.tmp 20), none, 0⟩]
def L102r2 : List AOp := [
  ⟨(some 21), .build 128 #[], none, 0⟩,
  ⟨(some 22), .move (.tmp 1), none, 0⟩,
  ⟨(some 23), .makeInterface 38 (.const (.int .i64 9)), none, 0⟩,
  ⟨(some 24), .call { callee := .value (.func 103), args := #[.tmp 22, .tmp 23], argTypes := #[3, 30] }, none, 0⟩,
  ⟨none, .store 128 (.tmp 8) (.tmp 21), none, 0⟩,
  ⟨(some 9), .assign (.const (.int .i64 0)), none, 0⟩,
  ⟨(some 10), .assign (.tmp 24), none, 0⟩]
def L102r3 : List AOp := [
  ⟨(some 26), .move (.tmp 1), none, 0⟩,
  ⟨(some 27), .move (.tmp 2), none, 0⟩,
  ⟨(some 28), .binOp .geq 3 (.tmp 26) (.tmp 27) 3, none, 0⟩,
  ⟨(some 25), .assign (.tmp 28), none, 0⟩]
def L102r4 : List AOp := [
  ⟨(some 29), .build 128 #[], none, 0⟩,
  ⟨(some 30), .move (.tmp 1), none, 0⟩,
  ⟨(some 31), .makeInterface 38 (.const (.int .i64 6)), none, 0⟩,
  ⟨(some 32), .call { callee := .value (.func 103), args := #[.tmp 30, .tmp 31], argTypes := #[3, 30] }, none, 0⟩,
  ⟨none, .store 128 (.tmp 8) (.tmp 29), none, 0⟩,
  ⟨(some 9), .assign (.const (.int .i64 0)), none, 0⟩,
  ⟨(some 10), .assign (.tmp 32), none, 0⟩]
def L102r5 : List AOp := [
  ⟨(some 34), .fieldAddr 189 (.tmp 4) 0, none, 0⟩,
  ⟨(some 35), .load 57 (.tmp 34), none, 0⟩,
  ⟨(some 36), .move (.tmp 1), none, 0⟩,
  ⟨(some 37), .indexAddr 57 (.tmp 35) (.tmp 36), none, 0⟩,
  ⟨(some 38), .load 5 (.tmp 37), none, 0⟩,
  ⟨(some 39), .binOp .and 5 (.tmp 38) (.const (.int .u8 31)) 5, none, 0⟩,
  ⟨(some 40), .binOp .eql 5 (.tmp 39) (.const (.int .u8 31)) 5, none, 0⟩,
  ⟨(some 33), .assign (.tmp 40), none, 0⟩]
def L102r6 : List AOp := [
  ⟨(some 41), .build 128 #[], none, 0⟩,
  ⟨(some 42), .move (.tmp 1), none, 0⟩,
  ⟨(some 43), .makeInterface 38 (.const (.int .i64 7)), none, 0⟩,
  ⟨(some 44), .call { callee := .value (.func 103), args := #[.tmp 42, .tmp 43], argTypes := #[3, 30] }, none, 0⟩,
  ⟨none, .store 128 (.tmp 8) (.tmp 41), none, 0⟩,
  ⟨(some 9), .assign (.const (.int .i64 0)), none, 0⟩,
  ⟨(some 10), .assign (.tmp 44), none, 0⟩]
def L102r7 : List AOp := [
  ⟨(some 45), .fieldAddr 189 (.tmp 4) 0, none, 0⟩,
  ⟨(some 46), .load 57 (.tmp 45), none, 1⟩,
  ⟨(some 47), .move (.tmp 1), none, 0⟩,
  ⟨(some 48), .indexAddr 57 (.tmp 46) (.tmp 47), none, 7⟩,
  ⟨(some 49), .load 5 (.tmp 48), none, 15⟩,
  ⟨(some 50), .binOp .shr 5 (.tmp 49) (.const (.int .u64 6)) 125, none, 31⟩,
  ⟨(some 51), .convert 5 3 (.tmp 50), none, 63⟩,
  ⟨(some 52), .fieldAddr 189 (.tmp 4) 0, none, 0⟩,
  ⟨(some 53), .load 57 (.tmp 52), none, 128⟩,
  ⟨(some 54), .move (.tmp 1), none, 0⟩,
  ⟨(some 55), .indexAddr 57 (.tmp 53) (.tmp 54), none, 896⟩,
  ⟨(some 56), .load 5 (.tmp 55), none, 1920⟩,
  ⟨(some 57), .binOp .and 5 (.tmp 56) (.const (.int .u8 31)) 5, none, 3968⟩,
  ⟨(some 58), .convert 5 3 (.tmp 57), none, 8064⟩,
  ⟨(some 59), .fieldAddr 189 (.tmp 4) 0, none, 0⟩,
  ⟨(some 60), .load 57 (.tmp 59), none, 16384⟩,
  ⟨(some 61), .move (.tmp 1), none, 0⟩,
  ⟨(some 62), .indexAddr 57 (.tmp 60) (.tmp 61), none, 114688⟩,
  ⟨(some 63), .load 5 (.tmp 62), none, 245760⟩,
  ⟨(some 64), .binOp .and 5 (.tmp 63) (.const (.int .u8 32)) 5, none, 507904⟩,
  ⟨(some 65), .binOp .neq 5 (.tmp 64) (.const (.int .u8 0)) 5, none, 1032192⟩,
  ⟨(some 66), .build 128 #[(0, .tmp 51), (1, .tmp 58), (2, .tmp 65)], none, 2097151⟩,
  ⟨(some 11), .alloc 128, none, 0⟩,
  ⟨none, .store 128 (.tmp 11) (.tmp 66), none, 1267650600228229401496711593983⟩]
def L102r8 : List AOp := [
  ⟨(some 68), .load 189 (.tmp 4), none, 0⟩,
  ⟨(some 69), .move (.tmp 1), none, 0⟩,
  ⟨(some 70), .binOp .add 3 (.tmp 69) (.const (.int .i64 1)) 3, none, 0⟩,
  ⟨(some 71), .move (.tmp 2), none, 0⟩,
  ⟨(some 72), .call { callee := .value (.func 126), args := #[.tmp 68, .tmp 70, .tmp 71], argTypes := #[189, 3, 3] }, none, 0⟩,
  ⟨(some 67), .move (.tmp 72), none, 0⟩,
  ⟨(some 73), .extract (.tmp 67) 0, none, 0⟩,
  ⟨(some 74), .extract (.tmp 67) 1, none, 0⟩,
  ⟨(some 75), .extract (.tmp 67) 2, none, 0⟩,
  ⟨(some 12), .assign (.tmp 73), none, 0⟩,
  ⟨(some 13), .assign (.tmp 74), none, 0⟩,
  ⟨(some 14), .assign (.tmp 75), none, 0⟩]
def L102r9 : List AOp := [
  ⟨(some 76), .move (.tmp 14), none, 0⟩,
  ⟨(some 77), .binOp .neq 30 (.tmp 76) (.const .nilIface) 30, none, 0⟩]
def L102r10 : List AOp := [
  ⟨(some 78), .build 128 #[], none, 0⟩,
  ⟨(some 79), .move (.tmp 14), none, 0⟩,
  ⟨none, .store 128 (.tmp 8) (.tmp 78), none, 0⟩,
  ⟨(some 9), .assign (.const (.int .i64 0)), none, 0⟩,
  ⟨(some 10), .assign (.tmp 79), none, 0⟩]
def L102r11 : List AOp := [
  ⟨(some 80), .fieldAddr 128 (.tmp 11) 2, none, 0⟩,
  ⟨(some 81), .load 4 (.tmp 80), none, 0⟩,
  ⟨(some 82), .unOp .not 4 (.tmp 81), none, 0⟩]
def L102r12 : List AOp := [
  ⟨(some 83), .fieldAddr 189 (.tmp 4) 0, none, 0⟩,
  ⟨(some 84), .load 57 (.tmp 83), none, 0⟩,
  ⟨(some 85), .move (.tmp 12), none, 0⟩,
  ⟨(some 86), .move (.tmp 13), none, 0⟩,
  ⟨(some 87), .slice 57 (.tmp 84) (some (.tmp 85)) (some (.tmp 86)) none, none, 0⟩,
  ⟨(some 88), .call { callee := .value (.func 16), args := #[.tmp 87], argTypes := #[57] }, none, 0⟩,
  ⟨(some 89), .fieldAddr 128 (.tmp 11) 3, none, 0⟩,
  ⟨none, .store 57 (.tmp 89) (.tmp 88), none, 0⟩]
def L102r13 : List AOp := [
  ⟨(some 90), .load 128 (.tmp 11), none, 0⟩,
  ⟨(some 91), .move (.tmp 13), none, 0⟩,
  ⟨none, .store 128 (.tmp 8) (.tmp 90), none, 0⟩,
  ⟨(some 9), .assign (.tmp 91), none, 0⟩,
  ⟨(some 10), .assign (.const .nilIface), none, 0⟩]
def L102r14 : List AOp := [
  ⟨(some 92), .move (.tmp 12), none, 0⟩,
  ⟨(some 93), .move (.tmp 13), none, 0⟩,
  ⟨(some 94), .binOp .lss 3 (.tmp 92) (.tmp 93) 3, none, 0⟩]
def L102r15 : List AOp := [
  ⟨(some 96), .load 189 (.tmp 4), none, 0⟩,
  ⟨(some 97), .move (.tmp 12), none, 0⟩,
  ⟨(some 98), .move (.tmp 13), none, 0⟩,
  ⟨(some 99), .move (.tmp 3), none, 0⟩,
  ⟨(some 100), .binOp .add 3 (.tmp 99) (.const (.int .i64 1)) 3, none, 0⟩,
  ⟨(some 101), .call { callee := .value (.func 102), args := #[.tmp 96, .tmp 97, .tmp 98, .tmp 100], argTypes := #[189, 3, 3, 3] }, none, 0⟩,
  ⟨(some 95), .move (.tmp 101), none, 0⟩,
  ⟨(some 102), .extract (.tmp 95) 0, none, 0⟩,
  ⟨(some 103), .extract (.tmp 95) 1, none, 0⟩,
  ⟨(some 104), .extract (.tmp 95) 2, none, 0⟩,
  ⟨(some 15), .alloc 128, none, 0⟩,
  ⟨none, .store 128 (.tmp 15) (.tmp 102), none, 0⟩,
  ⟨(some 16), .assign (.tmp 103), none, 0⟩,
  ⟨(some 17), .assign (.tmp 104), none, 0⟩]
def L102r16 : List AOp := [
  ⟨(some 105), .move (.tmp 17), none, 0⟩,
  ⟨(some 106), .binOp .neq 30 (.tmp 105) (.const .nilIface) 30, none, 0⟩]
def L102r17 : List AOp := [
  ⟨(some 107), .build 128 #[], none, 0⟩,
  ⟨(some 108), .move (.tmp 17), none, 0⟩,
  ⟨none, .store 128 (.tmp 8) (.tmp 107), none, 0⟩,
  ⟨(some 9), .assign (.const (.int .i64 0)), none, 0⟩,
  ⟨(some 10), .assign (.tmp 108), none, 0⟩]
def L102r18 : List AOp := [
  ⟨(some 109), .fieldAddr 128 (.tmp 11) 4, none, 0⟩,
  ⟨(some 110), .load 126 (.tmp 109), none, 0⟩,
  ⟨(some 111), .load 128 (.tmp 15), none, 0⟩,
  ⟨(some 112), .buildSlice 126 1 #[(0, .tmp 111)], none, 0⟩,
  ⟨(some 113), .call { callee := .builtin .append, args := #[.tmp 110, .tmp 112], argTypes := #[126, 126] }, none, 0⟩,
  ⟨(some 114), .fieldAddr 128 (.tmp 11) 4, none, 0⟩,
  ⟨none, .store 126 (.tmp 114) (.tmp 113), none, 0⟩]
def L102r19 : List AOp := [
  ⟨(some 115), .move (.tmp 16), none, 0⟩,
  ⟨(some 12), .assign (.tmp 115), none, 0⟩]
def L102r20 : List AOp := [
  ⟨(some 116), .load 128 (.tmp 11), none, 0⟩,
  ⟨(some 117), .move (.tmp 13), none, 0⟩,
  ⟨none, .store 128 (.tmp 8) (.tmp 116), none, 0⟩,
  ⟨(some 9), .assign (.tmp 117), none, 0⟩,
  ⟨(some 10), .assign (.const .nilIface), none, 0⟩]
def L102 : LC := (.seq (.region L102r0) (.seq (.block 0 (.seq (.region L102r1) (.cond (.tmp 18) (.seq (.region L102r2) .ret) (.seq (.region L102r3) (.cond (.tmp 25) (.seq (.region L102r4) .ret) (.seq (.region L102r5) (.cond (.tmp 33) (.seq (.region L102r6) .ret) .skip))))))) (.seq (.regionD L102r7) (.seq (.region L102r8) (.seq (.seq (.region L102r9) (.cond (.tmp 77) (.seq (.region L102r10) .ret) .skip)) (.seq (.seq (.region L102r11) (.cond (.tmp 82) (.seq (.region L102r12) (.seq (.region L102r13) .ret)) .skip)) (.seq (.block 1 (.loop (.seq (.seq (.region L102r14) (.cond (.tmp 94) .skip (.exit 1))) (.block 2 (.seq (.region L102r15) (.seq (.seq (.region L102r16) (.cond (.tmp 106) (.seq (.region L102r17) .ret) .skip)) (.seq (.region L102r18) (.region L102r19)))))))) (.seq (.region L102r20) .ret))))))))
theorem nt102 : Tryz.f102.ntmps = 118 := by kernel_rfl
theorem rs102 : Tryz.f102.results.toList = [.cell 8 128, .tmp 9, .tmp 10] := by kernel_rfl
theorem lite102 : Tryz.f102.body.map (lite okDraw) = some L102 := by kernel_rfl
def L103r0 : List AOp := [
  ⟨(some 4), .assign (.const .nilIface), none, 0⟩]
def L103r1 : List AOp := [
  ⟨(some 5), .move (.tmp 0), none, 0⟩,
  ⟨(some 6), .move (.tmp 1), none, 0⟩,
  ⟨(some 7), .build 214 #[(0, .tmp 5), (1, .tmp 6)], none, 0⟩,
  ⟨(some 8), .box 214 (.tmp 7), none, 0⟩,
  ⟨(some 9), .makeInterface 212 (.tmp 8), none, 0⟩,
  ⟨(some 4), .assign (.tmp 9), none, 0⟩]
def L103 : LC := (.seq (.region L103r0) (.seq (.region L103r1) .ret))
theorem nt103 : Tryz.f103.ntmps = 10 := by kernel_rfl
theorem rs103 : Tryz.f103.results.toList = [.tmp 4] := by kernel_rfl
theorem lite103 : Tryz.f103.body.map (lite okDraw) = some L103 := by kernel_rfl
end Eng


namespace Eng
open Go Go.Proofs Go.ChangeShapes Go.WideShapes Go.ChangeAt Go.RowKit
def U6 (a : List Int) : Prop := a.length = 6 ∧ ∀ x ∈ a, 0 ≤ x ∧ x < 18446744073709551616
def I64 (i : Int) : Prop := -9223372036854775808 ≤ i ∧ i < 9223372036854775808
def U64 (n : Int) : Prop := 0 ≤ n ∧ n < 18446744073709551616
theorem U6.at {a : List Int} (h : U6 a) (j : Nat) : U64 (a.getD j 0) := by
  rcases Nat.lt_or_ge j a.length with hj | hj
  · rw [List.getD_eq_getElem?_getD, List.getElem?_eq_getElem hj, Option.getD_some]
    exact h.2 _ (List.getElem_mem hj)
  · rw [List.getD_eq_getElem?_getD, List.getElem?_eq_none hj]
    exact ⟨by decide, by decide⟩
theorem own : ownKnob Tryz.prog.godebug = none := by kernel_rfl
theorem laidOut : laidOutB Tryz.prog = true := by kernel_rfl
theorem ct24 : Tryz.prog.cellTypes Tryz.prog.depth 24 = some (List.replicate 6 22) := by kernel_rfl
theorem co24 : Tryz.prog.cellsOf 24 = 6 := by kernel_rfl
theorem U6_of {xs : List Int} (hl : xs.length = 6) (h : ∀ x ∈ xs, IntKind.u64.min ≤ x ∧ x ≤ IntKind.u64.max) : U6 xs :=
  ⟨hl, fun x hx => by
    have := h x hx
    have h0 : IntKind.u64.min = 0 := by decide
    have h1 : IntKind.u64.max = 18446744073709551615 := by decide
    omega⟩
end Eng


namespace Eng
open Go Go.Proofs Go.RowKit
def subEntry : Array Value → Sem Value := fun args => do
  let (x, y, b) ← Extern.MathBitsCarry.three "Sub64" args
  pure (Extern.MathBitsCarry.pair ((x + Extern.MathBitsCarry.m64 - y - b) % Extern.MathBitsCarry.m64) (if x < y + b then 1 else 0))
theorem run_sub64 {P : Program} (x y c : Int) (hx : 0 ≤ x) (hx1 : x < 18446744073709551616) (hy : 0 ≤ y) (hy1 : y < 18446744073709551616) (hc0 : 0 ≤ c) (hc : c ≤ 1) (w : World) :
    (subEntry #[.int .u64 x, .int .u64 y, .int .u64 c]).run P w =
      .ok (.tuple #[.int .u64 ((x - y - c) % 18446744073709551616), .int .u64 (if x < y + c then 1 else 0)]) w := by
  have key : ∀ k : Nat, k ≤ 1 → (subEntry #[.int .u64 x, .int .u64 y, .int .u64 (k : Int)]).run P w =
      .ok (Extern.MathBitsCarry.pair ((x.toNat + Extern.MathBitsCarry.m64 - y.toNat - k) % Extern.MathBitsCarry.m64) (if x.toNat < y.toNat + k then 1 else 0)) w := by
    intro k hk
    have : k = 0 ∨ k = 1 := by omega
    rcases this with rfl | rfl <;> rfl
  obtain ⟨k, rfl⟩ := Int.eq_ofNat_of_zero_le hc0
  rw [key k (by omega)]
  obtain ⟨X, rfl⟩ := Int.eq_ofNat_of_zero_le hx
  obtain ⟨Y, rfl⟩ := Int.eq_ofNat_of_zero_le hy
  simp only [Extern.MathBitsCarry.pair, Extern.MathBitsCarry.m64, Int.toNat_natCast]
  have e1 : Int.ofNat ((X + 2 ^ 64 - Y - k) % 2 ^ 64) = ((X : Int) - Y - k) % 18446744073709551616 := by
    simp only [Int.ofNat_eq_natCast]; omega
  have e2 : Int.ofNat (if X < Y + k then 1 else 0) = (if (X : Int) < Y + k then 1 else 0) := by
    by_cases h : X < Y + k
    · rw [if_pos h, if_pos (by omega)]; rfl
    · rw [if_neg h, if_neg (by omega)]; rfl
  rw [e1, e2]

noncomputable def subX : List AV → Option AV
  | [.int .u64 a, .int .u64 b, .int .u64 c] => @ite _ (0 ≤ a ∧ a < 18446744073709551616 ∧ 0 ≤ b ∧ b < 18446744073709551616 ∧ 0 ≤ c ∧ c ≤ 1) (Classical.propDecidable _) (some (.tup [.int .u64 ((a - b - c) % 18446744073709551616), .int .u64 (if a < b + c then 1 else 0)])) none
  | _ => none
noncomputable def addX : List AV → Option AV
  | [.int .u64 a, .int .u64 b, .int .u64 c] => @ite _ (0 ≤ a ∧ 0 ≤ b ∧ 0 ≤ c ∧ c ≤ 1) (Classical.propDecidable _) (some (.tup [.int .u64 ((a + b + c) % 18446744073709551616), .int .u64 ((a + b + c) / 18446744073709551616)])) none
  | _ => none

theorem ext_run {P : Program} {f : FuncId} {fn : Func} {e : Array Value → Sem Value} (hf : P.funcs[f]? = some fn) (hm : (fn.name == "runtime.NumGoroutine") = false) (hb : fn.body.isNone = true) (hn : (Extern.findNext fn).isNone = true)
    (he : Extern.find fn = some e) {args : Array Value} {v : Value} {w : World} (h : (e args).run P w = .ok v w) : (callFunc f args).run P w = .ok (.value v) w := by
  have h1 : fn.name ≠ "runtime.NumGoroutine" := by simpa using hm
  have h2 : Extern.findNext fn = none := by simpa using hn
  have h3 : fn.body = none := by simpa using hb
  simp [callFunc, hf, h1, h3, h2, he, h]

theorem three_of {σ : Sg} {X : Nat → Prop} {w : World} {a b c : Int} {vals : List Value} (h : RvL σ X w false [.int .u64 a, .int .u64 b, .int .u64 c] vals) : vals = [.int .u64 a, .int .u64 b, .int .u64 c] := by
  simp only [RvL, Rv] at h
  obtain ⟨_, _, rfl, rfl, _, _, rfl, rfl, _, _, rfl, rfl, rfl⟩ := h
  rfl

theorem ext95 : ExtOk Tryz.prog 95 subX := by
  intro σ X w args vals v hv hx
  unfold subX at hx
  split at hx
  · split at hx
    · rename_i a b c h
      cases hx
      rw [three_of hv]
      refine ⟨_, ext_run Tryz.func95 (by kernel_rfl) (by kernel_rfl) (by kernel_rfl) (e := subEntry) (by kernel_rfl) (run_sub64 a b c h.1 h.2.1 h.2.2.1 h.2.2.2.1 h.2.2.2.2.1 h.2.2.2.2.2 w), ?_⟩
      simp [Rv, RvL]
    · cases hx
  · cases hx
theorem ext101 : ExtOk Tryz.prog 101 addX := by
  intro σ X w args vals v hv hx
  unfold addX at hx
  split at hx
  · split at hx
    · rename_i a b c h
      cases hx
      rw [three_of hv]
      refine ⟨_, ext_run Tryz.func101 (by kernel_rfl) (by kernel_rfl) (by kernel_rfl) (e := add64Entry) (by kernel_rfl) (run_add64 a b c h.1 h.2.1 h.2.2.1 h.2.2.2 w), ?_⟩
      simp [Rv, RvL]
    · cases hx
  · cases hx
theorem subX_eq (a b c : Int) (ha : U64 a) (hb : U64 b) (hc0 : 0 ≤ c) (hc : c ≤ 1) : subX [.int .u64 a, .int .u64 b, .int .u64 c] = some (.tup [.int .u64 ((a - b - c) % 18446744073709551616), .int .u64 (if a < b + c then 1 else 0)]) := by
  simp only [subX]; rw [if_pos ⟨ha.1, ha.2, hb.1, hb.2, hc0, hc⟩]
theorem addX_eq (a b c : Int) (ha : U64 a) (hb : U64 b) (hc0 : 0 ≤ c) (hc : c ≤ 1) : addX [.int .u64 a, .int .u64 b, .int .u64 c] = some (.tup [.int .u64 ((a + b + c) % 18446744073709551616), .int .u64 ((a + b + c) / 18446744073709551616)]) := by
  simp only [addX]; rw [if_pos ⟨ha.1, hb.1, hc0, hc⟩]
end Eng

