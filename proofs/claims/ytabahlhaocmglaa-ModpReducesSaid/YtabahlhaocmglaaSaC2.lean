/- Contracts of the program's functions, and laws over them. There is no further condition. -/
import Derived.Test.YtabahlhaocmglaaSaC1
set_option linter.unusedVariables false
set_option linter.unusedSimpArgs false
set_option exponentiation.threshold 2000
namespace Eng
open Go Go.Proofs
def L5r0 : List AOp := [
  ⟨(some 2), .assign (.const (.bool false)), none, 0⟩]
def L5r1 : List AOp := [
  ⟨(some 8), .makeSlice 30 (.const (.int .i64 47)) (.const (.int .i64 47)), none, 0⟩,
  ⟨(some 9), .buildSlice 30 1 #[(0, .const (.int .u8 1))], none, 0⟩,
  ⟨(some 10), .call { callee := .builtin .append, args := #[.tmp 8, .tmp 9], argTypes := #[30, 30] }, none, 0⟩,
  ⟨(some 11), .call { callee := .value (.func 24), args := #[.tmp 10], argTypes := #[30] }, none, 0⟩,
  ⟨(some 7), .move (.tmp 11), none, 0⟩,
  ⟨(some 12), .extract (.tmp 7) 0, none, 0⟩,
  ⟨(some 13), .extract (.tmp 7) 1, none, 0⟩,
  ⟨(some 3), .alloc 24, none, 0⟩,
  ⟨none, .store 24 (.tmp 3) (.tmp 12), none, 0⟩,
  ⟨(some 4), .assign (.tmp 13), none, 0⟩]
def L5r2 : List AOp := [
  ⟨(some 15), .move (.tmp 0), none, 0⟩,
  ⟨(some 16), .call { callee := .value (.func 24), args := #[.tmp 15], argTypes := #[30] }, none, 0⟩,
  ⟨(some 14), .move (.tmp 16), none, 0⟩,
  ⟨(some 17), .extract (.tmp 14) 0, none, 0⟩,
  ⟨(some 18), .extract (.tmp 14) 1, none, 0⟩,
  ⟨(some 5), .alloc 24, none, 0⟩,
  ⟨none, .store 24 (.tmp 5) (.tmp 17), none, 0⟩,
  ⟨(some 6), .assign (.tmp 18), none, 0⟩]
def L5r3 : List AOp := [
  ⟨(some 19), .load 24 (.tmp 3), none, 0⟩,
  ⟨(some 20), .call { callee := .value (.func 22), args := #[], argTypes := #[] }, none, 0⟩,
  ⟨(some 21), .binOp .neq 24 (.tmp 19) (.tmp 20) 24, none, 1267650600228229401496703205379⟩,
  ⟨(some 22), .move (.tmp 21), none, 1267650600228229401496703205383⟩,
  ⟨(some 23), .move (.tmp 4), (some (22, false)), 1267650600228229401496703205391⟩,
  ⟨(some 24), .binOp .neq 32 (.tmp 23) (.const .nilIface) 32, (some (22, false)), 1267650600228229401496703205407⟩,
  ⟨(some 25), .pick (.tmp 22) (.const (.bool true)) (.tmp 24), none, 1267650600228229401496703205439⟩]
def L5r4 : List AOp := [
  ⟨(some 2), .assign (.const (.bool false)), none, 0⟩]
def L5r5 : List AOp := [
  ⟨(some 26), .move (.tmp 0), none, 0⟩,
  ⟨(some 27), .call { callee := .builtin .len, args := #[.tmp 26], argTypes := #[30] }, none, 0⟩,
  ⟨(some 28), .binOp .lss 3 (.tmp 27) (.const (.int .i64 48)) 3, none, 0⟩]
def L5r6 : List AOp := [
  ⟨(some 29), .load 24 (.tmp 5), none, 0⟩,
  ⟨(some 30), .build 24 #[], none, 0⟩,
  ⟨(some 31), .binOp .eql 24 (.tmp 29) (.tmp 30) 24, none, 0⟩,
  ⟨(some 32), .move (.tmp 31), none, 0⟩,
  ⟨(some 33), .move (.tmp 6), (some (32, true)), 0⟩,
  ⟨(some 34), .makeInterface 35 (.const (.int .i64 6)), (some (32, true)), 0⟩,
  ⟨(some 35), .binOp .eql 32 (.tmp 33) (.tmp 34) 32, (some (32, true)), 0⟩,
  ⟨(some 36), .pick (.tmp 32) (.tmp 35) (.const (.bool false)), none, 0⟩,
  ⟨(some 2), .assign (.tmp 36), none, 0⟩]
def L5r7 : List AOp := [
  ⟨(some 37), .move (.tmp 0), none, 0⟩,
  ⟨(some 38), .call { callee := .builtin .len, args := #[.tmp 37], argTypes := #[30] }, none, 0⟩,
  ⟨(some 39), .binOp .gtr 3 (.tmp 38) (.const (.int .i64 48)) 3, none, 0⟩]
def L5r8 : List AOp := [
  ⟨(some 40), .load 24 (.tmp 5), none, 0⟩,
  ⟨(some 41), .build 24 #[], none, 0⟩,
  ⟨(some 42), .binOp .eql 24 (.tmp 40) (.tmp 41) 24, none, 0⟩,
  ⟨(some 43), .move (.tmp 42), none, 0⟩,
  ⟨(some 44), .move (.tmp 6), (some (43, true)), 0⟩,
  ⟨(some 45), .makeInterface 35 (.const (.int .i64 8)), (some (43, true)), 0⟩,
  ⟨(some 46), .binOp .eql 32 (.tmp 44) (.tmp 45) 32, (some (43, true)), 0⟩,
  ⟨(some 47), .pick (.tmp 43) (.tmp 46) (.const (.bool false)), none, 0⟩,
  ⟨(some 2), .assign (.tmp 47), none, 0⟩]
def L5r9 : List AOp := [
  ⟨(some 48), .move (.tmp 6), none, 1267650600228229401496703205376⟩,
  ⟨(some 49), .binOp .eql 32 (.tmp 48) (.const .nilIface) 32, none, 1267650600228229401496703205377⟩,
  ⟨(some 50), .move (.tmp 49), none, 1267650600228229401496703205379⟩,
  ⟨(some 51), .load 24 (.tmp 5), (some (50, true)), 7⟩,
  ⟨(some 52), .move (.tmp 0), (some (50, true)), 7⟩,
  ⟨(some 53), .call { callee := .value (.func 26), args := #[.tmp 52], argTypes := #[30] }, (some (50, true)), 23⟩,
  ⟨(some 54), .call { callee := .value (.func 25), args := #[.tmp 53], argTypes := #[38] }, (some (50, true)), 55⟩,
  ⟨(some 55), .binOp .eql 24 (.tmp 51) (.tmp 54) 24, (some (50, true)), 1267650600228229401496703205503⟩,
  ⟨(some 56), .pick (.tmp 50) (.tmp 55) (.const (.bool false)), none, 1267650600228229401496703205631⟩,
  ⟨(some 2), .assign (.tmp 56), none, 1267650600228229401496703205887⟩]
def L5 : LC := (.seq (.region L5r0) (.seq (.region L5r1) (.seq (.region L5r2) (.seq (.seq (.regionD L5r3) (.cond (.tmp 25) (.seq (.region L5r4) .ret) .skip)) (.seq (.seq (.region L5r5) (.cond (.tmp 28) (.seq (.region L5r6) .ret) .skip)) (.seq (.seq (.region L5r7) (.cond (.tmp 39) (.seq (.region L5r8) .ret) .skip)) (.seq (.regionD L5r9) .ret)))))))
theorem nt5 : Try.f5.ntmps = 57 := by kernel_rfl
theorem rs5 : Try.f5.results.toList = [.tmp 2] := by kernel_rfl
theorem lite5 : Try.f5.body.map (lite okDraw) = some L5 := by kernel_rfl
def L24r0 : List AOp := [
  ⟨(some 2), .alloc 24, none, 0⟩,
  ⟨(some 3), .assign (.const .nilIface), none, 0⟩]
def L24r1 : List AOp := [
  ⟨(some 4), .alloc 24, none, 0⟩]
def L24r2 : List AOp := [
  ⟨(some 7), .move (.tmp 0), none, 0⟩,
  ⟨(some 8), .call { callee := .builtin .len, args := #[.tmp 7], argTypes := #[30] }, none, 0⟩,
  ⟨(some 9), .binOp .lss 3 (.tmp 8) (.const (.int .i64 48)) 3, none, 0⟩,
  ⟨(some 6), .assign (.tmp 9), none, 0⟩]
def L24r3 : List AOp := [
  ⟨(some 10), .load 24 (.tmp 4), none, 0⟩,
  ⟨(some 11), .makeInterface 35 (.const (.int .i64 6)), none, 0⟩,
  ⟨none, .store 24 (.tmp 2) (.tmp 10), none, 0⟩,
  ⟨(some 3), .assign (.tmp 11), none, 0⟩]
def L24r4 : List AOp := [
  ⟨(some 13), .move (.tmp 0), none, 0⟩,
  ⟨(some 14), .call { callee := .builtin .len, args := #[.tmp 13], argTypes := #[30] }, none, 0⟩,
  ⟨(some 15), .binOp .gtr 3 (.tmp 14) (.const (.int .i64 48)) 3, none, 0⟩,
  ⟨(some 12), .assign (.tmp 15), none, 0⟩]
def L24r5 : List AOp := [
  ⟨(some 16), .load 24 (.tmp 4), none, 0⟩,
  ⟨(some 17), .makeInterface 35 (.const (.int .i64 8)), none, 0⟩,
  ⟨none, .store 24 (.tmp 2) (.tmp 16), none, 0⟩,
  ⟨(some 3), .assign (.tmp 17), none, 0⟩]
def L24r6 : List AOp := [
  ⟨(some 18), .move (.const (.int .i64 0)), none, 0⟩]
def L24r7 : List AOp := [
  ⟨(some 19), .binOp .lss 3 (.tmp 18) (.const (.int .i64 48)) 3, none, 0⟩]
def L24r8 : List AOp := [
  ⟨(some 20), .move (.tmp 18), none, 0⟩,
  ⟨(some 5), .assign (.tmp 20), none, 0⟩]
def L24r9 : List AOp := [
  ⟨(some 21), .move (.tmp 5), none, 0⟩,
  ⟨(some 22), .binOp .quo 3 (.tmp 21) (.const (.int .i64 8)) 3, none, 1⟩,
  ⟨(some 23), .indexAddr 24 (.tmp 4) (.tmp 22), none, 3⟩,
  ⟨(some 24), .load 22 (.tmp 23), none, 7⟩,
  ⟨(some 25), .move (.tmp 0), none, 0⟩,
  ⟨(some 26), .move (.tmp 5), none, 0⟩,
  ⟨(some 27), .binOp .sub 3 (.const (.int .i64 47)) (.tmp 26) 3, none, 32⟩,
  ⟨(some 28), .indexAddr 30 (.tmp 25) (.tmp 27), none, 112⟩,
  ⟨(some 29), .load 5 (.tmp 28), none, 240⟩,
  ⟨(some 30), .convert 5 22 (.tmp 29), none, 496⟩,
  ⟨(some 31), .move (.tmp 5), none, 0⟩,
  ⟨(some 32), .binOp .rem 3 (.tmp 31) (.const (.int .i64 8)) 3, none, 1024⟩,
  ⟨(some 33), .binOp .mul 3 (.const (.int .i64 8)) (.tmp 32) 3, none, 3072⟩,
  ⟨(some 34), .binOp .shl 22 (.tmp 30) (.tmp 33) 3, none, 8176⟩,
  ⟨(some 35), .binOp .or 22 (.tmp 24) (.tmp 34) 22, none, 1267650600228229401496703221759⟩,
  ⟨(some 36), .indexAddr 24 (.tmp 4) (.tmp 22), none, 1267650600228229401496703238143⟩,
  ⟨none, .store 22 (.tmp 36) (.tmp 35), none, 1267650600228229401496703270911⟩]
def L24r10 : List AOp := [
  ⟨(some 37), .binOp .add 3 (.tmp 18) (.const (.int .i64 1)) 3, none, 0⟩,
  ⟨(some 18), .move (.tmp 37), none, 0⟩]
def L24r11 : List AOp := [
  ⟨(some 38), .load 24 (.tmp 4), none, 0⟩,
  ⟨none, .store 24 (.tmp 2) (.tmp 38), none, 0⟩,
  ⟨(some 3), .assign (.const .nilIface), none, 0⟩]
def L24 : LC := (.seq (.region L24r0) (.seq (.region L24r1) (.seq (.block 0 (.seq (.region L24r2) (.cond (.tmp 6) (.seq (.region L24r3) .ret) (.seq (.region L24r4) (.cond (.tmp 12) (.seq (.region L24r5) .ret) .skip))))) (.seq (.seq (.region L24r6) (.block 1 (.loop (.seq (.region L24r7) (.seq (.cond (.tmp 19) .skip (.exit 1)) (.seq (.block 2 (.seq (.region L24r8) (.regionD L24r9))) (.region L24r10))))))) (.seq (.region L24r11) .ret)))))
theorem nt24 : Try.f24.ntmps = 39 := by kernel_rfl
theorem rs24 : Try.f24.results.toList = [.cell 2 24, .tmp 3] := by kernel_rfl
theorem lite24 : Try.f24.body.map (lite okDraw) = some L24 := by kernel_rfl
def L26r0 : List AOp := [
  ⟨(some 2), .assign (.const (.slice none 0 0)), none, 0⟩]
def L26r1 : List AOp := [
  ⟨(some 8), .move (.tmp 0), none, 0⟩,
  ⟨(some 9), .call { callee := .builtin .len, args := #[.tmp 8], argTypes := #[30] }, none, 0⟩,
  ⟨(some 10), .binOp .quo 3 (.tmp 9) (.const (.int .i64 4)) 3, none, 0⟩,
  ⟨(some 11), .binOp .add 3 (.tmp 10) (.const (.int .i64 1)) 3, none, 0⟩,
  ⟨(some 12), .makeSlice 38 (.tmp 11) (.tmp 11), none, 0⟩,
  ⟨(some 3), .assign (.tmp 12), none, 0⟩]
def L26r2 : List AOp := [
  ⟨(some 4), .assign (.const (.int .i64 0)), none, 0⟩]
def L26r3 : List AOp := [
  ⟨(some 13), .move (.tmp 4), none, 0⟩,
  ⟨(some 14), .move (.tmp 0), none, 0⟩,
  ⟨(some 15), .call { callee := .builtin .len, args := #[.tmp 14], argTypes := #[30] }, none, 0⟩,
  ⟨(some 16), .binOp .lss 3 (.tmp 13) (.tmp 15) 3, none, 0⟩]
def L26r5 : List AOp := [
  ⟨(some 19), .move (.tmp 0), none, 0⟩,
  ⟨(some 20), .call { callee := .builtin .len, args := #[.tmp 19], argTypes := #[30] }, none, 0⟩,
  ⟨(some 21), .binOp .sub 3 (.tmp 20) (.const (.int .i64 1)) 3, none, 0⟩,
  ⟨(some 22), .move (.tmp 4), none, 0⟩,
  ⟨(some 23), .binOp .sub 3 (.tmp 21) (.tmp 22) 3, none, 0⟩,
  ⟨(some 5), .assign (.tmp 23), none, 0⟩]
def L26r6 : List AOp := [
  ⟨(some 24), .move (.tmp 0), none, 0⟩,
  ⟨(some 25), .move (.tmp 5), none, 0⟩,
  ⟨(some 26), .indexAddr 30 (.tmp 24) (.tmp 25), none, 0⟩,
  ⟨(some 27), .load 5 (.tmp 26), none, 0⟩,
  ⟨(some 28), .convert 5 22 (.tmp 27), none, 0⟩,
  ⟨(some 6), .assign (.tmp 28), none, 0⟩]
def L26r7 : List AOp := [
  ⟨(some 7), .assign (.const (.int .i64 0)), none, 0⟩]
def L26r8 : List AOp := [
  ⟨(some 29), .move (.tmp 7), none, 0⟩,
  ⟨(some 30), .move (.tmp 4), none, 0⟩,
  ⟨(some 31), .binOp .rem 3 (.tmp 30) (.const (.int .i64 4)) 3, none, 0⟩,
  ⟨(some 32), .binOp .lss 3 (.tmp 29) (.tmp 31) 3, none, 0⟩]
def L26r10 : List AOp := [
  ⟨(some 35), .move (.tmp 6), none, 0⟩,
  ⟨(some 36), .binOp .mul 22 (.tmp 35) (.const (.int .u64 256)) 22, none, 0⟩,
  ⟨(some 6), .assign (.tmp 36), none, 0⟩]
def L26r9 : List AOp := [
  ⟨(some 33), .move (.tmp 7), none, 0⟩,
  ⟨(some 34), .binOp .add 3 (.tmp 33) (.const (.int .i64 1)) 3, none, 0⟩,
  ⟨(some 7), .assign (.tmp 34), none, 0⟩]
def L26r11 : List AOp := [
  ⟨(some 37), .move (.tmp 3), none, 0⟩,
  ⟨(some 38), .move (.tmp 4), none, 0⟩,
  ⟨(some 39), .binOp .quo 3 (.tmp 38) (.const (.int .i64 4)) 3, none, 0⟩,
  ⟨(some 40), .move (.tmp 3), none, 0⟩,
  ⟨(some 41), .move (.tmp 4), none, 0⟩,
  ⟨(some 42), .binOp .quo 3 (.tmp 41) (.const (.int .i64 4)) 3, none, 0⟩,
  ⟨(some 43), .indexAddr 38 (.tmp 40) (.tmp 42), none, 0⟩,
  ⟨(some 44), .load 22 (.tmp 43), none, 0⟩,
  ⟨(some 45), .move (.tmp 6), none, 0⟩,
  ⟨(some 46), .binOp .add 22 (.tmp 44) (.tmp 45) 22, none, 0⟩,
  ⟨(some 47), .indexAddr 38 (.tmp 37) (.tmp 39), none, 0⟩,
  ⟨none, .store 22 (.tmp 47) (.tmp 46), none, 0⟩]
def L26r4 : List AOp := [
  ⟨(some 17), .move (.tmp 4), none, 0⟩,
  ⟨(some 18), .binOp .add 3 (.tmp 17) (.const (.int .i64 1)) 3, none, 0⟩,
  ⟨(some 4), .assign (.tmp 18), none, 0⟩]
def L26r12 : List AOp := [
  ⟨(some 48), .move (.tmp 3), none, 0⟩,
  ⟨(some 49), .call { callee := .value (.func 54), args := #[.tmp 48], argTypes := #[38] }, none, 0⟩,
  ⟨(some 2), .assign (.tmp 49), none, 0⟩]
def L26 : LC := (.seq (.region L26r0) (.seq (.region L26r1) (.seq (.seq (.region L26r2) (.block 0 (.loop (.seq (.seq (.region L26r3) (.cond (.tmp 16) .skip (.exit 0))) (.seq (.block 1 (.seq (.region L26r5) (.seq (.region L26r6) (.seq (.seq (.region L26r7) (.block 2 (.loop (.seq (.seq (.region L26r8) (.cond (.tmp 32) .skip (.exit 2))) (.seq (.block 3 (.region L26r10)) (.region L26r9)))))) (.region L26r11))))) (.region L26r4)))))) (.seq (.region L26r12) .ret))))
theorem nt26 : Try.f26.ntmps = 50 := by kernel_rfl
theorem rs26 : Try.f26.results.toList = [.tmp 2] := by kernel_rfl
theorem lite26 : Try.f26.body.map (lite okDraw) = some L26 := by kernel_rfl
def L10r0 : List AOp := [
  ⟨(some 1), .box 24 (.tmp 0), none, 0⟩,
  ⟨(some 2), .assign (.const (.bool false)), none, 0⟩]
def L10r1 : List AOp := [
  ⟨(some 6), .load 24 (.tmp 1), none, 0⟩,
  ⟨(some 7), .call { callee := .value (.func 38), args := #[.tmp 6], argTypes := #[24] }, none, 0⟩,
  ⟨(some 3), .assign (.tmp 7), none, 0⟩]
def L10r2 : List AOp := [
  ⟨(some 8), .move (.tmp 3), none, 0⟩,
  ⟨(some 9), .call { callee := .builtin .len, args := #[.tmp 8], argTypes := #[30] }, none, 0⟩,
  ⟨(some 10), .binOp .neq 3 (.tmp 9) (.const (.int .i64 48)) 3, none, 0⟩]
def L10r3 : List AOp := [
  ⟨(some 2), .assign (.const (.bool false)), none, 0⟩]
def L10r4 : List AOp := [
  ⟨(some 12), .move (.tmp 3), none, 0⟩,
  ⟨(some 13), .call { callee := .value (.func 24), args := #[.tmp 12], argTypes := #[30] }, none, 0⟩,
  ⟨(some 11), .move (.tmp 13), none, 0⟩,
  ⟨(some 14), .extract (.tmp 11) 0, none, 0⟩,
  ⟨(some 15), .extract (.tmp 11) 1, none, 0⟩,
  ⟨(some 4), .alloc 24, none, 0⟩,
  ⟨none, .store 24 (.tmp 4) (.tmp 14), none, 0⟩,
  ⟨(some 5), .assign (.tmp 15), none, 0⟩]
def L10r5 : List AOp := [
  ⟨(some 16), .move (.tmp 5), none, 1267650600228229401496703205376⟩,
  ⟨(some 17), .binOp .eql 32 (.tmp 16) (.const .nilIface) 32, none, 1267650600228229401496703205377⟩,
  ⟨(some 18), .move (.tmp 17), none, 1267650600228229401496703205379⟩,
  ⟨(some 19), .load 24 (.tmp 4), (some (18, true)), 7⟩,
  ⟨(some 20), .load 24 (.tmp 1), (some (18, true)), 7⟩,
  ⟨(some 21), .binOp .eql 24 (.tmp 19) (.tmp 20) 24, (some (18, true)), 1267650600228229401496703205407⟩,
  ⟨(some 22), .pick (.tmp 18) (.tmp 21) (.const (.bool false)), none, 1267650600228229401496703205439⟩,
  ⟨(some 23), .move (.tmp 22), none, 1267650600228229401496703205503⟩,
  ⟨(some 24), .move (.tmp 3), (some (23, true)), 255⟩,
  ⟨(some 25), .convert 30 9 (.tmp 24), (some (23, true)), 511⟩,
  ⟨(some 26), .load 24 (.tmp 1), (some (23, true)), 255⟩,
  ⟨(some 27), .call { callee := .value (.func 28), args := #[.tmp 26], argTypes := #[23] }, (some (23, true)), 1279⟩,
  ⟨(some 28), .call { callee := .value (.func 39), args := #[.tmp 27, .const (.int .i64 48)], argTypes := #[38, 3] }, (some (23, true)), 3327⟩,
  ⟨(some 29), .convert 30 9 (.tmp 28), (some (23, true)), 7423⟩,
  ⟨(some 30), .binOp .eql 9 (.tmp 25) (.tmp 29) 9, (some (23, true)), 1267650600228229401496703221759⟩,
  ⟨(some 31), .pick (.tmp 23) (.tmp 30) (.const (.bool false)), none, 1267650600228229401496703238143⟩,
  ⟨(some 2), .assign (.tmp 31), none, 1267650600228229401496703270911⟩]
def L10 : LC := (.seq (.region L10r0) (.seq (.region L10r1) (.seq (.seq (.region L10r2) (.cond (.tmp 10) (.seq (.region L10r3) .ret) .skip)) (.seq (.region L10r4) (.seq (.regionD L10r5) .ret)))))
theorem nt10 : Try.f10.ntmps = 32 := by kernel_rfl
theorem rs10 : Try.f10.results.toList = [.tmp 2] := by kernel_rfl
theorem lite10 : Try.f10.body.map (lite okDraw) = some L10 := by kernel_rfl
def L38r0 : List AOp := [
  ⟨(some 1), .box 24 (.tmp 0), none, 0⟩,
  ⟨(some 2), .assign (.const (.slice none 0 0)), none, 0⟩]
def L38r1 : List AOp := [
  ⟨(some 5), .makeSlice 30 (.const (.int .i64 48)) (.const (.int .i64 48)), none, 0⟩,
  ⟨(some 3), .assign (.tmp 5), none, 0⟩]
def L38r2 : List AOp := [
  ⟨(some 6), .move (.const (.int .i64 0)), none, 0⟩]
def L38r3 : List AOp := [
  ⟨(some 7), .binOp .lss 3 (.tmp 6) (.const (.int .i64 48)) 3, none, 0⟩]
def L38r4 : List AOp := [
  ⟨(some 8), .move (.tmp 6), none, 0⟩,
  ⟨(some 4), .assign (.tmp 8), none, 0⟩]
def L38r5 : List AOp := [
  ⟨(some 9), .move (.tmp 3), none, 0⟩,
  ⟨(some 10), .move (.tmp 4), none, 0⟩,
  ⟨(some 11), .binOp .sub 3 (.const (.int .i64 47)) (.tmp 10) 3, none, 0⟩,
  ⟨(some 12), .move (.tmp 4), none, 0⟩,
  ⟨(some 13), .binOp .quo 3 (.tmp 12) (.const (.int .i64 8)) 3, none, 0⟩,
  ⟨(some 14), .indexAddr 24 (.tmp 1) (.tmp 13), none, 0⟩,
  ⟨(some 15), .load 22 (.tmp 14), none, 0⟩,
  ⟨(some 16), .move (.tmp 4), none, 0⟩,
  ⟨(some 17), .binOp .rem 3 (.tmp 16) (.const (.int .i64 8)) 3, none, 0⟩,
  ⟨(some 18), .binOp .mul 3 (.const (.int .i64 8)) (.tmp 17) 3, none, 0⟩,
  ⟨(some 19), .binOp .shr 22 (.tmp 15) (.tmp 18) 3, none, 0⟩,
  ⟨(some 20), .convert 22 5 (.tmp 19), none, 0⟩,
  ⟨(some 21), .indexAddr 30 (.tmp 9) (.tmp 11), none, 0⟩,
  ⟨none, .store 5 (.tmp 21) (.tmp 20), none, 0⟩]
def L38r6 : List AOp := [
  ⟨(some 22), .binOp .add 3 (.tmp 6) (.const (.int .i64 1)) 3, none, 0⟩,
  ⟨(some 6), .move (.tmp 22), none, 0⟩]
def L38r7 : List AOp := [
  ⟨(some 23), .move (.tmp 3), none, 0⟩,
  ⟨(some 2), .assign (.tmp 23), none, 0⟩]
def L38 : LC := (.seq (.region L38r0) (.seq (.region L38r1) (.seq (.seq (.region L38r2) (.block 0 (.loop (.seq (.region L38r3) (.seq (.cond (.tmp 7) .skip (.exit 0)) (.seq (.block 1 (.seq (.region L38r4) (.region L38r5))) (.region L38r6))))))) (.seq (.region L38r7) .ret))))
theorem nt38 : Try.f38.ntmps = 24 := by kernel_rfl
theorem rs38 : Try.f38.results.toList = [.tmp 2] := by kernel_rfl
theorem lite38 : Try.f38.body.map (lite okDraw) = some L38 := by kernel_rfl
def L39r0 : List AOp := [
  ⟨(some 4), .assign (.const (.slice none 0 0)), none, 0⟩]
def L39r1 : List AOp := [
  ⟨(some 9), .move (.tmp 1), none, 0⟩,
  ⟨(some 10), .makeSlice 30 (.tmp 9) (.tmp 9), none, 0⟩,
  ⟨(some 5), .assign (.tmp 10), none, 0⟩]
def L39r2 : List AOp := [
  ⟨(some 6), .assign (.const (.int .i64 0)), none, 0⟩]
def L39r3 : List AOp := [
  ⟨(some 11), .move (.tmp 6), none, 0⟩,
  ⟨(some 12), .move (.tmp 1), none, 0⟩,
  ⟨(some 13), .binOp .lss 3 (.tmp 11) (.tmp 12) 3, none, 0⟩]
def L39r5 : List AOp := [
  ⟨(some 16), .move (.tmp 0), none, 0⟩,
  ⟨(some 17), .move (.tmp 6), none, 0⟩,
  ⟨(some 18), .binOp .quo 3 (.tmp 17) (.const (.int .i64 4)) 3, none, 0⟩,
  ⟨(some 19), .call { callee := .value (.func 57), args := #[.tmp 16, .tmp 18], argTypes := #[38, 3] }, none, 0⟩,
  ⟨(some 7), .assign (.tmp 19), none, 0⟩]
def L39r6 : List AOp := [
  ⟨(some 8), .assign (.const (.int .i64 0)), none, 0⟩]
def L39r7 : List AOp := [
  ⟨(some 20), .move (.tmp 8), none, 0⟩,
  ⟨(some 21), .move (.tmp 6), none, 0⟩,
  ⟨(some 22), .binOp .rem 3 (.tmp 21) (.const (.int .i64 4)) 3, none, 0⟩,
  ⟨(some 23), .binOp .lss 3 (.tmp 20) (.tmp 22) 3, none, 0⟩]
def L39r9 : List AOp := [
  ⟨(some 26), .move (.tmp 7), none, 0⟩,
  ⟨(some 27), .binOp .quo 22 (.tmp 26) (.const (.int .u64 256)) 22, none, 0⟩,
  ⟨(some 7), .assign (.tmp 27), none, 0⟩]
def L39r8 : List AOp := [
  ⟨(some 24), .move (.tmp 8), none, 0⟩,
  ⟨(some 25), .binOp .add 3 (.tmp 24) (.const (.int .i64 1)) 3, none, 0⟩,
  ⟨(some 8), .assign (.tmp 25), none, 0⟩]
def L39r10 : List AOp := [
  ⟨(some 28), .move (.tmp 5), none, 0⟩,
  ⟨(some 29), .move (.tmp 1), none, 0⟩,
  ⟨(some 30), .binOp .sub 3 (.tmp 29) (.const (.int .i64 1)) 3, none, 0⟩,
  ⟨(some 31), .move (.tmp 6), none, 0⟩,
  ⟨(some 32), .binOp .sub 3 (.tmp 30) (.tmp 31) 3, none, 0⟩,
  ⟨(some 33), .move (.tmp 7), none, 0⟩,
  ⟨(some 34), .binOp .rem 22 (.tmp 33) (.const (.int .u64 256)) 22, none, 0⟩,
  ⟨(some 35), .convert 22 5 (.tmp 34), none, 0⟩,
  ⟨(some 36), .indexAddr 30 (.tmp 28) (.tmp 32), none, 0⟩,
  ⟨none, .store 5 (.tmp 36) (.tmp 35), none, 0⟩]
def L39r4 : List AOp := [
  ⟨(some 14), .move (.tmp 6), none, 0⟩,
  ⟨(some 15), .binOp .add 3 (.tmp 14) (.const (.int .i64 1)) 3, none, 0⟩,
  ⟨(some 6), .assign (.tmp 15), none, 0⟩]
def L39r11 : List AOp := [
  ⟨(some 37), .move (.tmp 5), none, 0⟩,
  ⟨(some 4), .assign (.tmp 37), none, 0⟩]
def L39 : LC := (.seq (.region L39r0) (.seq (.region L39r1) (.seq (.seq (.region L39r2) (.block 0 (.loop (.seq (.seq (.region L39r3) (.cond (.tmp 13) .skip (.exit 0))) (.seq (.block 1 (.seq (.region L39r5) (.seq (.seq (.region L39r6) (.block 2 (.loop (.seq (.seq (.region L39r7) (.cond (.tmp 23) .skip (.exit 2))) (.seq (.block 3 (.region L39r9)) (.region L39r8)))))) (.region L39r10)))) (.region L39r4)))))) (.seq (.region L39r11) .ret))))
theorem nt39 : Try.f39.ntmps = 38 := by kernel_rfl
theorem rs39 : Try.f39.results.toList = [.tmp 4] := by kernel_rfl
theorem lite39 : Try.f39.body.map (lite okDraw) = some L39 := by kernel_rfl
def L12r0 : List AOp := [
  ⟨(some 2), .box 24 (.tmp 0), none, 0⟩,
  ⟨(some 3), .box 24 (.tmp 1), none, 0⟩,
  ⟨(some 4), .assign (.const (.bool false)), none, 0⟩]
def L12r1 : List AOp := [
  ⟨(some 8), .call { callee := .value (.func 22), args := #[], argTypes := #[] }, none, 0⟩,
  ⟨(some 9), .call { callee := .value (.func 22), args := #[], argTypes := #[] }, none, 0⟩,
  ⟨(some 10), .call { callee := .value (.func 40), args := #[.tmp 8, .tmp 9], argTypes := #[24, 24] }, none, 0⟩,
  ⟨(some 5), .alloc 55, none, 0⟩,
  ⟨none, .store 55 (.tmp 5) (.tmp 10), none, 0⟩]
def L12r2 : List AOp := [
  ⟨(some 11), .load 24 (.tmp 2), none, 0⟩,
  ⟨(some 12), .load 24 (.tmp 3), none, 0⟩,
  ⟨(some 13), .call { callee := .value (.func 40), args := #[.tmp 11, .tmp 12], argTypes := #[24, 24] }, none, 0⟩,
  ⟨(some 6), .alloc 55, none, 0⟩,
  ⟨none, .store 55 (.tmp 6) (.tmp 13), none, 0⟩]
def L12r3 : List AOp := [
  ⟨(some 14), .load 24 (.tmp 2), none, 0⟩,
  ⟨(some 15), .call { callee := .value (.func 28), args := #[.tmp 14], argTypes := #[23] }, none, 1⟩,
  ⟨(some 16), .load 24 (.tmp 3), none, 0⟩,
  ⟨(some 17), .call { callee := .value (.func 28), args := #[.tmp 16], argTypes := #[23] }, none, 1267650600228229401496703205383⟩,
  ⟨(some 18), .call { callee := .value (.func 41), args := #[.tmp 15, .tmp 17], argTypes := #[38, 38] }, none, 1267650600228229401496703205391⟩,
  ⟨(some 7), .assign (.tmp 18), none, 1267650600228229401496703205407⟩]
def L12r4 : List AOp := [
  ⟨(some 19), .indexAddr 55 (.tmp 5) (.const (.int .i64 0)), none, 1267650600228229401496703205376⟩,
  ⟨(some 20), .load 22 (.tmp 19), none, 1267650600228229401496703205377⟩,
  ⟨(some 21), .binOp .eql 22 (.tmp 20) (.const (.int .u64 1)) 22, none, 1267650600228229401496703205379⟩,
  ⟨(some 22), .move (.tmp 21), none, 1267650600228229401496703205383⟩,
  ⟨(some 23), .load 55 (.tmp 6), (some (22, true)), 15⟩,
  ⟨(some 24), .call { callee := .value (.func 42), args := #[.tmp 23], argTypes := #[54] }, (some (22, true)), 31⟩,
  ⟨(some 25), .move (.tmp 7), (some (22, true)), 15⟩,
  ⟨(some 26), .call { callee := .value (.func 29), args := #[.tmp 24, .tmp 25], argTypes := #[38, 38] }, (some (22, true)), 1267650600228229401496703205503⟩,
  ⟨(some 27), .binOp .eql 3 (.tmp 26) (.const (.int .i64 0)) 3, (some (22, true)), 1267650600228229401496703205631⟩,
  ⟨(some 28), .pick (.tmp 22) (.tmp 27) (.const (.bool false)), none, 1267650600228229401496703205887⟩,
  ⟨(some 29), .move (.tmp 28), none, 1267650600228229401496703206399⟩,
  ⟨(some 30), .load 24 (.tmp 3), (some (29, true)), 2047⟩,
  ⟨(some 31), .load 24 (.tmp 2), (some (29, true)), 2047⟩,
  ⟨(some 32), .call { callee := .value (.func 40), args := #[.tmp 30, .tmp 31], argTypes := #[24, 24] }, (some (29, true)), 8191⟩,
  ⟨(some 33), .load 55 (.tmp 6), (some (29, true)), 2047⟩,
  ⟨(some 34), .binOp .eql 55 (.tmp 32) (.tmp 33) 55, (some (29, true)), 1267650600228229401496703238143⟩,
  ⟨(some 35), .pick (.tmp 29) (.tmp 34) (.const (.bool false)), none, 1267650600228229401496703270911⟩,
  ⟨(some 4), .assign (.tmp 35), none, 1267650600228229401496703336447⟩]
def L12 : LC := (.seq (.region L12r0) (.seq (.region L12r1) (.seq (.region L12r2) (.seq (.regionD L12r3) (.seq (.regionD L12r4) .ret)))))
theorem nt12 : Try.f12.ntmps = 36 := by kernel_rfl
theorem rs12 : Try.f12.results.toList = [.tmp 4] := by kernel_rfl
theorem lite12 : Try.f12.body.map (lite okDraw) = some L12 := by kernel_rfl
def L40r0 : List AOp := [
  ⟨(some 2), .box 24 (.tmp 0), none, 0⟩,
  ⟨(some 3), .box 24 (.tmp 1), none, 0⟩,
  ⟨(some 4), .alloc 55, none, 0⟩]
def L40r1 : List AOp := [
  ⟨(some 5), .alloc 55, none, 0⟩]
def L40r2 : List AOp := [
  ⟨(some 12), .move (.const (.int .i64 0)), none, 0⟩]
def L40r3 : List AOp := [
  ⟨(some 13), .binOp .lss 3 (.tmp 12) (.const (.int .i64 6)) 3, none, 0⟩]
def L40r4 : List AOp := [
  ⟨(some 14), .move (.tmp 12), none, 0⟩,
  ⟨(some 6), .assign (.tmp 14), none, 0⟩]
def L40r5 : List AOp := [
  ⟨(some 7), .assign (.const (.int .u64 0)), none, 0⟩]
def L40r6 : List AOp := [
  ⟨(some 15), .move (.const (.int .i64 0)), none, 0⟩]
def L40r7 : List AOp := [
  ⟨(some 16), .binOp .lss 3 (.tmp 15) (.const (.int .i64 6)) 3, none, 0⟩]
def L40r8 : List AOp := [
  ⟨(some 17), .move (.tmp 15), none, 0⟩,
  ⟨(some 8), .assign (.tmp 17), none, 0⟩]
def L40r9 : List AOp := [
  ⟨(some 19), .move (.tmp 6), none, 0⟩,
  ⟨(some 20), .indexAddr 24 (.tmp 2) (.tmp 19), none, 1⟩,
  ⟨(some 21), .load 22 (.tmp 20), none, 3⟩,
  ⟨(some 22), .move (.tmp 8), none, 0⟩,
  ⟨(some 23), .indexAddr 24 (.tmp 3) (.tmp 22), none, 8⟩,
  ⟨(some 24), .load 22 (.tmp 23), none, 24⟩,
  ⟨(some 25), .call { callee := .value (.func 59), args := #[.tmp 21, .tmp 24], argTypes := #[22, 22] }, none, 1267650600228229401496703205439⟩,
  ⟨(some 18), .move (.tmp 25), none, 1267650600228229401496703205503⟩,
  ⟨(some 26), .extract (.tmp 18) 0, none, 255⟩,
  ⟨(some 27), .extract (.tmp 18) 1, none, 255⟩,
  ⟨(some 9), .assign (.tmp 26), none, 511⟩,
  ⟨(some 10), .assign (.tmp 27), none, 1267650600228229401496703207423⟩]
def L40r10 : List AOp := [
  ⟨(some 11), .assign (.const (.int .u64 0)), none, 0⟩]
def L40r11 : List AOp := [
  ⟨(some 29), .move (.tmp 10), none, 0⟩,
  ⟨(some 30), .move (.tmp 6), none, 0⟩,
  ⟨(some 31), .move (.tmp 8), none, 0⟩,
  ⟨(some 32), .binOp .add 3 (.tmp 30) (.tmp 31) 3, none, 0⟩,
  ⟨(some 33), .indexAddr 55 (.tmp 5) (.tmp 32), none, 0⟩,
  ⟨(some 34), .load 22 (.tmp 33), none, 0⟩,
  ⟨(some 35), .call { callee := .value (.func 58), args := #[.tmp 29, .tmp 34, .const (.int .u64 0)], argTypes := #[22, 22, 22] }, none, 0⟩,
  ⟨(some 28), .move (.tmp 35), none, 0⟩,
  ⟨(some 36), .extract (.tmp 28) 0, none, 0⟩,
  ⟨(some 37), .extract (.tmp 28) 1, none, 0⟩,
  ⟨(some 10), .assign (.tmp 36), none, 0⟩,
  ⟨(some 11), .assign (.tmp 37), none, 0⟩]
def L40r12 : List AOp := [
  ⟨(some 38), .move (.tmp 9), none, 0⟩,
  ⟨(some 39), .move (.tmp 11), none, 0⟩,
  ⟨(some 40), .binOp .add 22 (.tmp 38) (.tmp 39) 22, none, 0⟩,
  ⟨(some 9), .assign (.tmp 40), none, 0⟩]
def L40r13 : List AOp := [
  ⟨(some 42), .move (.tmp 10), none, 0⟩,
  ⟨(some 43), .move (.tmp 7), none, 0⟩,
  ⟨(some 44), .call { callee := .value (.func 58), args := #[.tmp 42, .tmp 43, .const (.int .u64 0)], argTypes := #[22, 22, 22] }, none, 0⟩,
  ⟨(some 41), .move (.tmp 44), none, 0⟩,
  ⟨(some 45), .extract (.tmp 41) 0, none, 0⟩,
  ⟨(some 46), .extract (.tmp 41) 1, none, 0⟩,
  ⟨(some 10), .assign (.tmp 45), none, 0⟩,
  ⟨(some 11), .assign (.tmp 46), none, 0⟩]
def L40r14 : List AOp := [
  ⟨(some 47), .move (.tmp 6), none, 0⟩,
  ⟨(some 48), .move (.tmp 8), none, 0⟩,
  ⟨(some 49), .binOp .add 3 (.tmp 47) (.tmp 48) 3, none, 0⟩,
  ⟨(some 50), .move (.tmp 10), none, 0⟩,
  ⟨(some 51), .move (.tmp 9), none, 0⟩,
  ⟨(some 52), .move (.tmp 11), none, 0⟩,
  ⟨(some 53), .binOp .add 22 (.tmp 51) (.tmp 52) 22, none, 0⟩,
  ⟨(some 54), .indexAddr 55 (.tmp 5) (.tmp 49), none, 0⟩,
  ⟨none, .store 22 (.tmp 54) (.tmp 50), none, 0⟩,
  ⟨(some 7), .assign (.tmp 53), none, 0⟩]
def L40r15 : List AOp := [
  ⟨(some 55), .binOp .add 3 (.tmp 15) (.const (.int .i64 1)) 3, none, 0⟩,
  ⟨(some 15), .move (.tmp 55), none, 0⟩]
def L40r16 : List AOp := [
  ⟨(some 56), .move (.tmp 6), none, 0⟩,
  ⟨(some 57), .binOp .add 3 (.tmp 56) (.const (.int .i64 6)) 3, none, 0⟩,
  ⟨(some 58), .move (.tmp 7), none, 0⟩,
  ⟨(some 59), .indexAddr 55 (.tmp 5) (.tmp 57), none, 0⟩,
  ⟨none, .store 22 (.tmp 59) (.tmp 58), none, 0⟩]
def L40r17 : List AOp := [
  ⟨(some 60), .binOp .add 3 (.tmp 12) (.const (.int .i64 1)) 3, none, 0⟩,
  ⟨(some 12), .move (.tmp 60), none, 0⟩]
def L40r18 : List AOp := [
  ⟨(some 61), .load 55 (.tmp 5), none, 0⟩,
  ⟨none, .store 55 (.tmp 4) (.tmp 61), none, 0⟩]
def L40 : LC := (.seq (.region L40r0) (.seq (.region L40r1) (.seq (.seq (.region L40r2) (.block 0 (.loop (.seq (.region L40r3) (.seq (.cond (.tmp 13) .skip (.exit 0)) (.seq (.block 1 (.seq (.region L40r4) (.seq (.region L40r5) (.seq (.seq (.region L40r6) (.block 2 (.loop (.seq (.region L40r7) (.seq (.cond (.tmp 16) .skip (.exit 2)) (.seq (.block 3 (.seq (.region L40r8) (.seq (.regionD L40r9) (.seq (.region L40r10) (.seq (.region L40r11) (.seq (.region L40r12) (.seq (.region L40r13) (.region L40r14)))))))) (.region L40r15))))))) (.region L40r16))))) (.region L40r17))))))) (.seq (.region L40r18) .ret))))
theorem nt40 : Try.f40.ntmps = 62 := by kernel_rfl
theorem rs40 : Try.f40.results.toList = [.cell 4 55] := by kernel_rfl
theorem lite40 : Try.f40.body.map (lite okDraw) = some L40 := by kernel_rfl
def L41r0 : List AOp := [
  ⟨(some 4), .assign (.const (.slice none 0 0)), none, 0⟩]
def L41r1 : List AOp := [
  ⟨(some 10), .move (.tmp 0), none, 0⟩,
  ⟨(some 11), .call { callee := .builtin .len, args := #[.tmp 10], argTypes := #[38] }, none, 0⟩,
  ⟨(some 12), .move (.tmp 1), none, 0⟩,
  ⟨(some 13), .call { callee := .builtin .len, args := #[.tmp 12], argTypes := #[38] }, none, 0⟩,
  ⟨(some 14), .binOp .add 3 (.tmp 11) (.tmp 13) 3, none, 0⟩,
  ⟨(some 15), .binOp .add 3 (.tmp 14) (.const (.int .i64 1)) 3, none, 0⟩,
  ⟨(some 16), .makeSlice 38 (.tmp 15) (.tmp 15), none, 0⟩,
  ⟨(some 5), .assign (.tmp 16), none, 0⟩]
def L41r2 : List AOp := [
  ⟨(some 6), .assign (.const (.int .i64 0)), none, 0⟩]
def L41r3 : List AOp := [
  ⟨(some 17), .move (.tmp 6), none, 0⟩,
  ⟨(some 18), .move (.tmp 0), none, 0⟩,
  ⟨(some 19), .call { callee := .builtin .len, args := #[.tmp 18], argTypes := #[38] }, none, 0⟩,
  ⟨(some 20), .binOp .lss 3 (.tmp 17) (.tmp 19) 3, none, 0⟩]
def L41r5 : List AOp := [
  ⟨(some 7), .assign (.const (.int .u64 0)), none, 0⟩]
def L41r6 : List AOp := [
  ⟨(some 8), .assign (.const (.int .i64 0)), none, 0⟩]
def L41r7 : List AOp := [
  ⟨(some 23), .move (.tmp 8), none, 0⟩,
  ⟨(some 24), .move (.tmp 1), none, 0⟩,
  ⟨(some 25), .call { callee := .builtin .len, args := #[.tmp 24], argTypes := #[38] }, none, 0⟩,
  ⟨(some 26), .binOp .lss 3 (.tmp 23) (.tmp 25) 3, none, 0⟩,
  ⟨(some 27), .move (.tmp 26), none, 0⟩,
  ⟨(some 28), .move (.tmp 7), (some (27, false)), 0⟩,
  ⟨(some 29), .binOp .gtr 22 (.tmp 28) (.const (.int .u64 0)) 22, (some (27, false)), 0⟩,
  ⟨(some 30), .pick (.tmp 27) (.const (.bool true)) (.tmp 29), none, 0⟩]
def L41r9 : List AOp := [
  ⟨(some 33), .move (.tmp 5), none, 0⟩,
  ⟨(some 34), .move (.tmp 6), none, 0⟩,
  ⟨(some 35), .move (.tmp 8), none, 0⟩,
  ⟨(some 36), .binOp .add 3 (.tmp 34) (.tmp 35) 3, none, 6⟩,
  ⟨(some 37), .indexAddr 38 (.tmp 33) (.tmp 36), none, 15⟩,
  ⟨(some 38), .load 22 (.tmp 37), none, 31⟩,
  ⟨(some 39), .move (.tmp 0), none, 0⟩,
  ⟨(some 40), .move (.tmp 6), none, 0⟩,
  ⟨(some 41), .indexAddr 38 (.tmp 39) (.tmp 40), none, 192⟩,
  ⟨(some 42), .load 22 (.tmp 41), none, 448⟩,
  ⟨(some 43), .move (.tmp 1), none, 0⟩,
  ⟨(some 44), .move (.tmp 8), none, 0⟩,
  ⟨(some 45), .call { callee := .value (.func 57), args := #[.tmp 43, .tmp 44], argTypes := #[38, 3] }, none, 3072⟩,
  ⟨(some 46), .binOp .mul 22 (.tmp 42) (.tmp 45) 22, none, 8128⟩,
  ⟨(some 47), .binOp .add 22 (.tmp 38) (.tmp 46) 22, none, 16383⟩,
  ⟨(some 48), .move (.tmp 7), none, 0⟩,
  ⟨(some 49), .binOp .add 22 (.tmp 47) (.tmp 48) 22, none, 1267650600228229401496703270911⟩,
  ⟨(some 9), .assign (.tmp 49), none, 1267650600228229401496703336447⟩]
def L41r10 : List AOp := [
  ⟨(some 50), .move (.tmp 5), none, 0⟩,
  ⟨(some 51), .move (.tmp 6), none, 0⟩,
  ⟨(some 52), .move (.tmp 8), none, 0⟩,
  ⟨(some 53), .binOp .add 3 (.tmp 51) (.tmp 52) 3, none, 0⟩,
  ⟨(some 54), .move (.tmp 9), none, 0⟩,
  ⟨(some 55), .binOp .rem 22 (.tmp 54) (.const (.int .u64 4294967296)) 22, none, 0⟩,
  ⟨(some 56), .indexAddr 38 (.tmp 50) (.tmp 53), none, 0⟩,
  ⟨none, .store 22 (.tmp 56) (.tmp 55), none, 0⟩]
def L41r11 : List AOp := [
  ⟨(some 57), .move (.tmp 9), none, 0⟩,
  ⟨(some 58), .binOp .quo 22 (.tmp 57) (.const (.int .u64 4294967296)) 22, none, 0⟩,
  ⟨(some 7), .assign (.tmp 58), none, 0⟩]
def L41r8 : List AOp := [
  ⟨(some 31), .move (.tmp 8), none, 0⟩,
  ⟨(some 32), .binOp .add 3 (.tmp 31) (.const (.int .i64 1)) 3, none, 0⟩,
  ⟨(some 8), .assign (.tmp 32), none, 0⟩]
def L41r4 : List AOp := [
  ⟨(some 21), .move (.tmp 6), none, 0⟩,
  ⟨(some 22), .binOp .add 3 (.tmp 21) (.const (.int .i64 1)) 3, none, 0⟩,
  ⟨(some 6), .assign (.tmp 22), none, 0⟩]
def L41r12 : List AOp := [
  ⟨(some 59), .move (.tmp 5), none, 0⟩,
  ⟨(some 60), .call { callee := .value (.func 54), args := #[.tmp 59], argTypes := #[38] }, none, 0⟩,
  ⟨(some 4), .assign (.tmp 60), none, 0⟩]
def L41 : LC := (.seq (.region L41r0) (.seq (.region L41r1) (.seq (.seq (.region L41r2) (.block 0 (.loop (.seq (.seq (.region L41r3) (.cond (.tmp 20) .skip (.exit 0))) (.seq (.block 1 (.seq (.region L41r5) (.seq (.region L41r6) (.block 2 (.loop (.seq (.seq (.region L41r7) (.cond (.tmp 30) .skip (.exit 2))) (.seq (.block 3 (.seq (.regionD L41r9) (.seq (.region L41r10) (.region L41r11)))) (.region L41r8)))))))) (.region L41r4)))))) (.seq (.region L41r12) .ret))))
theorem nt41 : Try.f41.ntmps = 61 := by kernel_rfl
theorem rs41 : Try.f41.results.toList = [.tmp 4] := by kernel_rfl
theorem lite41 : Try.f41.body.map (lite okDraw) = some L41 := by kernel_rfl
def L42r0 : List AOp := [
  ⟨(some 1), .box 54 (.tmp 0), none, 0⟩,
  ⟨(some 2), .assign (.const (.slice none 0 0)), none, 0⟩]
def L42r1 : List AOp := [
  ⟨(some 3), .assign (.const (.slice none 0 0)), none, 0⟩]
def L42r2 : List AOp := [
  ⟨(some 4), .assign (.const (.int .i64 0)), none, 0⟩]
def L42r3 : List AOp := [
  ⟨(some 5), .move (.tmp 4), none, 0⟩,
  ⟨(some 6), .binOp .lss 3 (.tmp 5) (.const (.int .i64 12)) 3, none, 0⟩]
def L42r5 : List AOp := [
  ⟨(some 9), .move (.tmp 3), none, 0⟩,
  ⟨(some 10), .move (.tmp 4), none, 0⟩,
  ⟨(some 11), .indexAddr 54 (.tmp 1) (.tmp 10), none, 0⟩,
  ⟨(some 12), .load 22 (.tmp 11), none, 0⟩,
  ⟨(some 13), .buildSlice 37 1 #[(0, .tmp 12)], none, 0⟩,
  ⟨(some 14), .call { callee := .builtin .append, args := #[.tmp 9, .tmp 13], argTypes := #[37, 37] }, none, 0⟩,
  ⟨(some 3), .assign (.tmp 14), none, 0⟩]
def L42r4 : List AOp := [
  ⟨(some 7), .move (.tmp 4), none, 0⟩,
  ⟨(some 8), .binOp .add 3 (.tmp 7) (.const (.int .i64 1)) 3, none, 0⟩,
  ⟨(some 4), .assign (.tmp 8), none, 0⟩]
def L42r6 : List AOp := [
  ⟨(some 15), .move (.tmp 3), none, 0⟩,
  ⟨(some 16), .call { callee := .value (.func 56), args := #[.tmp 15], argTypes := #[37] }, none, 0⟩,
  ⟨(some 2), .assign (.tmp 16), none, 0⟩]
def L42 : LC := (.seq (.region L42r0) (.seq (.region L42r1) (.seq (.seq (.region L42r2) (.block 0 (.loop (.seq (.seq (.region L42r3) (.cond (.tmp 6) .skip (.exit 0))) (.seq (.block 1 (.region L42r5)) (.region L42r4)))))) (.seq (.region L42r6) .ret))))
theorem nt42 : Try.f42.ntmps = 17 := by kernel_rfl
theorem rs42 : Try.f42.results.toList = [.tmp 2] := by kernel_rfl
theorem lite42 : Try.f42.body.map (lite okDraw) = some L42 := by kernel_rfl
def L59r0 : List AOp := [
  ⟨(some 4), .assign (.const (.int .u64 0)), none, 0⟩,
  ⟨(some 5), .assign (.const (.int .u64 0)), none, 0⟩]
def L59r1 : List AOp := [
  ⟨(some 14), .move (.tmp 0), none, 0⟩,
  ⟨(some 15), .binOp .and 22 (.tmp 14) (.const (.int .u64 4294967295)) 22, none, 0⟩,
  ⟨(some 6), .assign (.tmp 15), none, 0⟩]
def L59r2 : List AOp := [
  ⟨(some 16), .move (.tmp 0), none, 0⟩,
  ⟨(some 17), .binOp .shr 22 (.tmp 16) (.const (.int .u64 32)) 84, none, 0⟩,
  ⟨(some 7), .assign (.tmp 17), none, 0⟩]
def L59r3 : List AOp := [
  ⟨(some 18), .move (.tmp 1), none, 0⟩,
  ⟨(some 19), .binOp .and 22 (.tmp 18) (.const (.int .u64 4294967295)) 22, none, 0⟩,
  ⟨(some 8), .assign (.tmp 19), none, 0⟩]
def L59r4 : List AOp := [
  ⟨(some 20), .move (.tmp 1), none, 0⟩,
  ⟨(some 21), .binOp .shr 22 (.tmp 20) (.const (.int .u64 32)) 84, none, 0⟩,
  ⟨(some 9), .assign (.tmp 21), none, 0⟩]
def L59r5 : List AOp := [
  ⟨(some 22), .move (.tmp 6), none, 0⟩,
  ⟨(some 23), .move (.tmp 8), none, 0⟩,
  ⟨(some 24), .binOp .mul 22 (.tmp 22) (.tmp 23) 22, none, 0⟩,
  ⟨(some 10), .assign (.tmp 24), none, 0⟩]
def L59r6 : List AOp := [
  ⟨(some 25), .move (.tmp 7), none, 0⟩,
  ⟨(some 26), .move (.tmp 8), none, 0⟩,
  ⟨(some 27), .binOp .mul 22 (.tmp 25) (.tmp 26) 22, none, 0⟩,
  ⟨(some 28), .move (.tmp 10), none, 0⟩,
  ⟨(some 29), .binOp .shr 22 (.tmp 28) (.const (.int .u64 32)) 84, none, 0⟩,
  ⟨(some 30), .binOp .add 22 (.tmp 27) (.tmp 29) 22, none, 0⟩,
  ⟨(some 11), .assign (.tmp 30), none, 0⟩]
def L59r7 : List AOp := [
  ⟨(some 31), .move (.tmp 11), none, 0⟩,
  ⟨(some 32), .binOp .and 22 (.tmp 31) (.const (.int .u64 4294967295)) 22, none, 0⟩,
  ⟨(some 12), .assign (.tmp 32), none, 0⟩]
def L59r8 : List AOp := [
  ⟨(some 33), .move (.tmp 11), none, 0⟩,
  ⟨(some 34), .binOp .shr 22 (.tmp 33) (.const (.int .u64 32)) 84, none, 0⟩,
  ⟨(some 13), .assign (.tmp 34), none, 0⟩]
def L59r9 : List AOp := [
  ⟨(some 35), .move (.tmp 12), none, 0⟩,
  ⟨(some 36), .move (.tmp 6), none, 0⟩,
  ⟨(some 37), .move (.tmp 9), none, 0⟩,
  ⟨(some 38), .binOp .mul 22 (.tmp 36) (.tmp 37) 22, none, 0⟩,
  ⟨(some 39), .binOp .add 22 (.tmp 35) (.tmp 38) 22, none, 0⟩,
  ⟨(some 12), .assign (.tmp 39), none, 0⟩]
def L59r10 : List AOp := [
  ⟨(some 40), .move (.tmp 7), none, 0⟩,
  ⟨(some 41), .move (.tmp 9), none, 0⟩,
  ⟨(some 42), .binOp .mul 22 (.tmp 40) (.tmp 41) 22, none, 0⟩,
  ⟨(some 43), .move (.tmp 13), none, 0⟩,
  ⟨(some 44), .binOp .add 22 (.tmp 42) (.tmp 43) 22, none, 0⟩,
  ⟨(some 45), .move (.tmp 12), none, 0⟩,
  ⟨(some 46), .binOp .shr 22 (.tmp 45) (.const (.int .u64 32)) 84, none, 0⟩,
  ⟨(some 47), .binOp .add 22 (.tmp 44) (.tmp 46) 22, none, 0⟩,
  ⟨(some 4), .assign (.tmp 47), none, 0⟩]
def L59r11 : List AOp := [
  ⟨(some 48), .move (.tmp 0), none, 0⟩,
  ⟨(some 49), .move (.tmp 1), none, 0⟩,
  ⟨(some 50), .binOp .mul 22 (.tmp 48) (.tmp 49) 22, none, 0⟩,
  ⟨(some 5), .assign (.tmp 50), none, 0⟩]
def L59 : LC := (.seq (.region L59r0) (.seq (.region L59r1) (.seq (.region L59r2) (.seq (.region L59r3) (.seq (.region L59r4) (.seq (.region L59r5) (.seq (.region L59r6) (.seq (.region L59r7) (.seq (.region L59r8) (.seq (.region L59r9) (.seq (.region L59r10) (.seq (.region L59r11) .ret))))))))))))
theorem nt59 : Try.f59.ntmps = 51 := by kernel_rfl
theorem rs59 : Try.f59.results.toList = [.tmp 4, .tmp 5] := by kernel_rfl
theorem lite59 : Try.f59.body.map (lite okDraw) = some L59 := by kernel_rfl
end Eng
