/- Contracts of the program's functions, and laws over them. There is no further condition. -/
import Derived.Test.YtdpbddomncjkjaaSbTy
set_option linter.unusedVariables false
set_option linter.unusedSimpArgs false
set_option exponentiation.threshold 2000
namespace Eng
open Go Go.Proofs
theorem hM0 : Try.prog.follows .mixedOrders = true := by kernel_rfl
theorem eq22 : eqArr Try.prog 22 = true := by kernel_rfl
theorem eq30 : eqArr Try.prog 30 = true := by kernel_rfl
def L3r0 : List AOp := [
  ⟨(some 1), .box 22 (.tmp 0), none, 0⟩,
  ⟨(some 2), .assign (.const (.bool false)), none, 0⟩]
def L3r1 : List AOp := [
  ⟨(some 5), .load 22 (.tmp 1), none, 0⟩,
  ⟨(some 6), .call { callee := .value (.func 23), args := #[.tmp 5], argTypes := #[22] }, none, 0⟩,
  ⟨(some 3), .alloc 22, none, 0⟩,
  ⟨none, .store 22 (.tmp 3) (.tmp 6), none, 0⟩]
def L3r2 : List AOp := [
  ⟨(some 7), .load 22 (.tmp 3), none, 0⟩,
  ⟨(some 8), .call { callee := .value (.func 23), args := #[.tmp 7], argTypes := #[22] }, none, 0⟩,
  ⟨(some 9), .call { callee := .value (.func 23), args := #[.tmp 8], argTypes := #[22] }, none, 0⟩,
  ⟨(some 10), .call { callee := .value (.func 23), args := #[.tmp 9], argTypes := #[22] }, none, 0⟩,
  ⟨(some 4), .alloc 22, none, 0⟩,
  ⟨none, .store 22 (.tmp 4) (.tmp 10), none, 0⟩]
def L3r3 : List AOp := [
  ⟨(some 11), .load 22 (.tmp 3), none, 0⟩,
  ⟨(some 12), .load 22 (.tmp 1), none, 0⟩,
  ⟨(some 13), .call { callee := .value (.func 24), args := #[.tmp 12], argTypes := #[22] }, none, 2⟩,
  ⟨(some 14), .binOp .eql 22 (.tmp 11) (.tmp 13) 22, none, 1267650600228229401496703205383⟩,
  ⟨(some 15), .move (.tmp 14), none, 1267650600228229401496703205391⟩,
  ⟨(some 16), .load 22 (.tmp 4), (some (15, true)), 31⟩,
  ⟨(some 17), .load 22 (.tmp 1), (some (15, true)), 31⟩,
  ⟨(some 18), .binOp .eql 22 (.tmp 16) (.tmp 17) 22, (some (15, true)), 1267650600228229401496703205503⟩,
  ⟨(some 19), .pick (.tmp 15) (.tmp 18) (.const (.bool false)), none, 1267650600228229401496703205631⟩,
  ⟨(some 20), .move (.tmp 19), none, 1267650600228229401496703205887⟩,
  ⟨(some 21), .build 22 #[(0, .const (.int .u8 0)), (1, .const (.int .u8 0)), (2, .const (.int .u8 0)), (3, .const (.int .u8 0)), (4, .const (.int .u8 0)), (5, .const (.int .u8 1))], (some (20, true)), 1267650600228229401496703206399⟩,
  ⟨(some 22), .call { callee := .value (.func 23), args := #[.tmp 21], argTypes := #[22] }, (some (20, true)), 1267650600228229401496703207423⟩,
  ⟨(some 23), .index 22 (.tmp 22) (.const (.int .i64 1)), (some (20, true)), 1267650600228229401496703209471⟩,
  ⟨(some 24), .binOp .eql 5 (.tmp 23) (.const (.int .u8 1)) 5, (some (20, true)), 1267650600228229401496703213567⟩,
  ⟨(some 25), .pick (.tmp 20) (.tmp 24) (.const (.bool false)), none, 1267650600228229401496703221759⟩,
  ⟨(some 2), .assign (.tmp 25), none, 1267650600228229401496703238143⟩]
def L3 : LC := (.seq (.region L3r0) (.seq (.region L3r1) (.seq (.region L3r2) (.seq (.regionD L3r3) .ret))))
theorem nt3 : Try.f3.ntmps = 26 := by kernel_rfl
theorem rs3 : Try.f3.results.toList = [.tmp 2] := by kernel_rfl
theorem lite3 : Try.f3.body.map (lite okDraw) = some L3 := by kernel_rfl
def L23r0 : List AOp := [
  ⟨(some 1), .box 22 (.tmp 0), none, 0⟩,
  ⟨(some 2), .alloc 22, none, 0⟩]
def L23r1 : List AOp := [
  ⟨(some 3), .alloc 22, none, 0⟩]
def L23r2 : List AOp := [
  ⟨(some 5), .move (.const (.int .i64 0)), none, 0⟩]
def L23r3 : List AOp := [
  ⟨(some 6), .binOp .lss 3 (.tmp 5) (.const (.int .i64 16)) 3, none, 0⟩]
def L23r4 : List AOp := [
  ⟨(some 7), .move (.tmp 5), none, 0⟩,
  ⟨(some 4), .assign (.tmp 7), none, 0⟩]
def L23r5 : List AOp := [
  ⟨(some 8), .move (.tmp 4), none, 0⟩,
  ⟨(some 9), .move (.tmp 4), none, 0⟩,
  ⟨(some 10), .move (.tmp 4), none, 0⟩,
  ⟨(some 11), .binOp .rem 3 (.tmp 10) (.const (.int .i64 4)) 3, none, 0⟩,
  ⟨(some 12), .binOp .mul 3 (.const (.int .i64 4)) (.tmp 11) 3, none, 0⟩,
  ⟨(some 13), .binOp .add 3 (.tmp 9) (.tmp 12) 3, none, 0⟩,
  ⟨(some 14), .binOp .rem 3 (.tmp 13) (.const (.int .i64 16)) 3, none, 0⟩,
  ⟨(some 15), .indexAddr 22 (.tmp 1) (.tmp 14), none, 0⟩,
  ⟨(some 16), .load 5 (.tmp 15), none, 0⟩,
  ⟨(some 17), .indexAddr 22 (.tmp 3) (.tmp 8), none, 0⟩,
  ⟨none, .store 5 (.tmp 17) (.tmp 16), none, 0⟩]
def L23r6 : List AOp := [
  ⟨(some 18), .binOp .add 3 (.tmp 5) (.const (.int .i64 1)) 3, none, 0⟩,
  ⟨(some 5), .move (.tmp 18), none, 0⟩]
def L23r7 : List AOp := [
  ⟨(some 19), .load 22 (.tmp 3), none, 0⟩,
  ⟨none, .store 22 (.tmp 2) (.tmp 19), none, 0⟩]
def L23 : LC := (.seq (.region L23r0) (.seq (.region L23r1) (.seq (.seq (.region L23r2) (.block 0 (.loop (.seq (.region L23r3) (.seq (.cond (.tmp 6) .skip (.exit 0)) (.seq (.block 1 (.seq (.region L23r4) (.region L23r5))) (.region L23r6))))))) (.seq (.region L23r7) .ret))))
theorem nt23 : Try.f23.ntmps = 20 := by kernel_rfl
theorem rs23 : Try.f23.results.toList = [.cell 2 22] := by kernel_rfl
theorem lite23 : Try.f23.body.map (lite okDraw) = some L23 := by kernel_rfl
def L24r0 : List AOp := [
  ⟨(some 1), .box 22 (.tmp 0), none, 0⟩,
  ⟨(some 2), .alloc 22, none, 0⟩]
def L24r1 : List AOp := [
  ⟨(some 3), .alloc 22, none, 0⟩]
def L24r2 : List AOp := [
  ⟨(some 4), .assign (.const (.int .i64 0)), none, 0⟩]
def L24r3 : List AOp := [
  ⟨(some 6), .move (.tmp 4), none, 0⟩,
  ⟨(some 7), .binOp .lss 3 (.tmp 6) (.const (.int .i64 4)) 3, none, 0⟩]
def L24r5 : List AOp := [
  ⟨(some 5), .assign (.const (.int .i64 0)), none, 0⟩]
def L24r6 : List AOp := [
  ⟨(some 10), .move (.tmp 5), none, 0⟩,
  ⟨(some 11), .binOp .lss 3 (.tmp 10) (.const (.int .i64 4)) 3, none, 0⟩]
def L24r8 : List AOp := [
  ⟨(some 14), .move (.tmp 5), none, 0⟩,
  ⟨(some 15), .binOp .mul 3 (.const (.int .i64 4)) (.tmp 14) 3, none, 0⟩,
  ⟨(some 16), .move (.tmp 4), none, 0⟩,
  ⟨(some 17), .binOp .add 3 (.tmp 15) (.tmp 16) 3, none, 0⟩,
  ⟨(some 18), .move (.tmp 5), none, 0⟩,
  ⟨(some 19), .move (.tmp 4), none, 0⟩,
  ⟨(some 20), .binOp .add 3 (.tmp 18) (.tmp 19) 3, none, 0⟩,
  ⟨(some 21), .binOp .rem 3 (.tmp 20) (.const (.int .i64 4)) 3, none, 0⟩,
  ⟨(some 22), .binOp .mul 3 (.const (.int .i64 4)) (.tmp 21) 3, none, 0⟩,
  ⟨(some 23), .move (.tmp 4), none, 0⟩,
  ⟨(some 24), .binOp .add 3 (.tmp 22) (.tmp 23) 3, none, 0⟩,
  ⟨(some 25), .indexAddr 22 (.tmp 1) (.tmp 24), none, 0⟩,
  ⟨(some 26), .load 5 (.tmp 25), none, 0⟩,
  ⟨(some 27), .indexAddr 22 (.tmp 3) (.tmp 17), none, 0⟩,
  ⟨none, .store 5 (.tmp 27) (.tmp 26), none, 0⟩]
def L24r7 : List AOp := [
  ⟨(some 12), .move (.tmp 5), none, 0⟩,
  ⟨(some 13), .binOp .add 3 (.tmp 12) (.const (.int .i64 1)) 3, none, 0⟩,
  ⟨(some 5), .assign (.tmp 13), none, 0⟩]
def L24r4 : List AOp := [
  ⟨(some 8), .move (.tmp 4), none, 0⟩,
  ⟨(some 9), .binOp .add 3 (.tmp 8) (.const (.int .i64 1)) 3, none, 0⟩,
  ⟨(some 4), .assign (.tmp 9), none, 0⟩]
def L24r9 : List AOp := [
  ⟨(some 28), .load 22 (.tmp 3), none, 0⟩,
  ⟨none, .store 22 (.tmp 2) (.tmp 28), none, 0⟩]
def L24 : LC := (.seq (.region L24r0) (.seq (.region L24r1) (.seq (.seq (.region L24r2) (.block 0 (.loop (.seq (.seq (.region L24r3) (.cond (.tmp 7) .skip (.exit 0))) (.seq (.block 1 (.seq (.region L24r5) (.block 2 (.loop (.seq (.seq (.region L24r6) (.cond (.tmp 11) .skip (.exit 2))) (.seq (.block 3 (.region L24r8)) (.region L24r7))))))) (.region L24r4)))))) (.seq (.region L24r9) .ret))))
theorem nt24 : Try.f24.ntmps = 29 := by kernel_rfl
theorem rs24 : Try.f24.results.toList = [.cell 2 22] := by kernel_rfl
theorem lite24 : Try.f24.body.map (lite okDraw) = some L24 := by kernel_rfl
def L4r0 : List AOp := [
  ⟨(some 4), .assign (.const (.bool false)), none, 0⟩]
def L4r1 : List AOp := [
  ⟨(some 6), .move (.tmp 0), none, 0⟩,
  ⟨(some 7), .move (.tmp 1), none, 0⟩,
  ⟨(some 8), .call { callee := .value (.func 25), args := #[.tmp 6, .tmp 7], argTypes := #[5, 5] }, none, 0⟩,
  ⟨(some 5), .assign (.tmp 8), none, 0⟩]
def L4r2 : List AOp := [
  ⟨(some 9), .call { callee := .value (.func 25), args := #[.const (.int .u8 87), .const (.int .u8 131)], argTypes := #[5, 5] }, none, 0⟩,
  ⟨(some 10), .binOp .eql 5 (.tmp 9) (.const (.int .u8 193)) 5, none, 0⟩,
  ⟨(some 11), .move (.tmp 10), none, 0⟩,
  ⟨(some 12), .move (.tmp 5), (some (11, true)), 0⟩,
  ⟨(some 13), .move (.tmp 0), (some (11, true)), 0⟩,
  ⟨(some 14), .move (.tmp 1), (some (11, true)), 0⟩,
  ⟨(some 15), .call { callee := .value (.func 26), args := #[.tmp 13, .tmp 14], argTypes := #[5, 5] }, (some (11, true)), 0⟩,
  ⟨(some 16), .binOp .eql 5 (.tmp 12) (.tmp 15) 5, (some (11, true)), 0⟩,
  ⟨(some 17), .pick (.tmp 11) (.tmp 16) (.const (.bool false)), none, 0⟩,
  ⟨(some 18), .move (.tmp 17), none, 0⟩,
  ⟨(some 19), .move (.tmp 1), (some (18, true)), 0⟩,
  ⟨(some 20), .move (.tmp 0), (some (18, true)), 0⟩,
  ⟨(some 21), .call { callee := .value (.func 25), args := #[.tmp 19, .tmp 20], argTypes := #[5, 5] }, (some (18, true)), 0⟩,
  ⟨(some 22), .move (.tmp 5), (some (18, true)), 0⟩,
  ⟨(some 23), .binOp .eql 5 (.tmp 21) (.tmp 22) 5, (some (18, true)), 0⟩,
  ⟨(some 24), .pick (.tmp 18) (.tmp 23) (.const (.bool false)), none, 0⟩,
  ⟨(some 4), .assign (.tmp 24), none, 0⟩]
def L4 : LC := (.seq (.region L4r0) (.seq (.region L4r1) (.seq (.region L4r2) .ret)))
theorem nt4 : Try.f4.ntmps = 25 := by kernel_rfl
theorem rs4 : Try.f4.results.toList = [.tmp 4] := by kernel_rfl
theorem lite4 : Try.f4.body.map (lite okDraw) = some L4 := by kernel_rfl
def L25r0 : List AOp := [
  ⟨(some 4), .assign (.const (.int .u8 0)), none, 0⟩]
def L25r1 : List AOp := [
  ⟨(some 5), .assign (.const (.int .u8 0)), none, 0⟩]
def L25r2 : List AOp := [
  ⟨(some 7), .move (.const (.int .i64 0)), none, 0⟩]
def L25r3 : List AOp := [
  ⟨(some 8), .binOp .lss 3 (.tmp 7) (.const (.int .i64 8)) 3, none, 0⟩]
def L25r4 : List AOp := [
  ⟨(some 9), .move (.tmp 7), none, 0⟩,
  ⟨(some 6), .assign (.tmp 9), none, 0⟩]
def L25r5 : List AOp := [
  ⟨(some 10), .move (.tmp 5), none, 0⟩,
  ⟨(some 11), .move (.tmp 0), none, 0⟩,
  ⟨(some 12), .move (.tmp 1), none, 0⟩,
  ⟨(some 13), .move (.tmp 6), none, 0⟩,
  ⟨(some 14), .binOp .shr 5 (.tmp 12) (.tmp 13) 3, none, 0⟩,
  ⟨(some 15), .binOp .and 5 (.tmp 14) (.const (.int .u8 1)) 5, none, 0⟩,
  ⟨(some 16), .unOp .neg 5 (.tmp 15), none, 0⟩,
  ⟨(some 17), .binOp .and 5 (.tmp 11) (.tmp 16) 5, none, 0⟩,
  ⟨(some 18), .binOp .xor 5 (.tmp 10) (.tmp 17) 5, none, 0⟩,
  ⟨(some 5), .assign (.tmp 18), none, 0⟩]
def L25r6 : List AOp := [
  ⟨(some 19), .move (.tmp 0), none, 0⟩,
  ⟨(some 20), .binOp .shl 5 (.tmp 19) (.const (.int .u64 1)) 76, none, 0⟩,
  ⟨(some 21), .move (.tmp 0), none, 0⟩,
  ⟨(some 22), .binOp .shr 5 (.tmp 21) (.const (.int .u64 7)) 76, none, 0⟩,
  ⟨(some 23), .unOp .neg 5 (.tmp 22), none, 0⟩,
  ⟨(some 24), .binOp .and 5 (.const (.int .u8 27)) (.tmp 23) 5, none, 0⟩,
  ⟨(some 25), .binOp .xor 5 (.tmp 20) (.tmp 24) 5, none, 0⟩,
  ⟨(some 0), .assign (.tmp 25), none, 0⟩]
def L25r7 : List AOp := [
  ⟨(some 26), .binOp .add 3 (.tmp 7) (.const (.int .i64 1)) 3, none, 0⟩,
  ⟨(some 7), .move (.tmp 26), none, 0⟩]
def L25r8 : List AOp := [
  ⟨(some 27), .move (.tmp 5), none, 0⟩,
  ⟨(some 4), .assign (.tmp 27), none, 0⟩]
def L25 : LC := (.seq (.region L25r0) (.seq (.region L25r1) (.seq (.seq (.region L25r2) (.block 0 (.loop (.seq (.region L25r3) (.seq (.cond (.tmp 8) .skip (.exit 0)) (.seq (.block 1 (.seq (.region L25r4) (.seq (.region L25r5) (.region L25r6)))) (.region L25r7))))))) (.seq (.region L25r8) .ret))))
theorem nt25 : Try.f25.ntmps = 28 := by kernel_rfl
theorem rs25 : Try.f25.results.toList = [.tmp 4] := by kernel_rfl
theorem lite25 : Try.f25.body.map (lite okDraw) = some L25 := by kernel_rfl
def L26r0 : List AOp := [
  ⟨(some 4), .assign (.const (.int .u8 0)), none, 0⟩]
def L26r1 : List AOp := [
  ⟨(some 5), .assign (.const (.int .i64 0)), none, 0⟩]
def L26r2 : List AOp := [
  ⟨(some 6), .assign (.const (.int .i64 0)), none, 0⟩]
def L26r3 : List AOp := [
  ⟨(some 8), .move (.tmp 6), none, 0⟩,
  ⟨(some 9), .binOp .lss 3 (.tmp 8) (.const (.int .i64 8)) 3, none, 0⟩]
def L26r5 : List AOp := [
  ⟨(some 12), .move (.tmp 1), none, 0⟩,
  ⟨(some 13), .convert 5 3 (.tmp 12), none, 0⟩,
  ⟨(some 14), .move (.tmp 6), none, 0⟩,
  ⟨(some 15), .binOp .shr 3 (.tmp 13) (.tmp 14) 3, none, 0⟩,
  ⟨(some 16), .binOp .rem 3 (.tmp 15) (.const (.int .i64 2)) 3, none, 0⟩,
  ⟨(some 17), .binOp .eql 3 (.tmp 16) (.const (.int .i64 1)) 3, none, 0⟩]
def L26r6 : List AOp := [
  ⟨(some 18), .move (.tmp 5), none, 0⟩,
  ⟨(some 19), .move (.tmp 0), none, 0⟩,
  ⟨(some 20), .convert 5 3 (.tmp 19), none, 0⟩,
  ⟨(some 21), .move (.tmp 6), none, 0⟩,
  ⟨(some 22), .binOp .shl 3 (.tmp 20) (.tmp 21) 3, none, 0⟩,
  ⟨(some 23), .binOp .xor 3 (.tmp 18) (.tmp 22) 3, none, 0⟩,
  ⟨(some 5), .assign (.tmp 23), none, 0⟩]
def L26r4 : List AOp := [
  ⟨(some 10), .move (.tmp 6), none, 0⟩,
  ⟨(some 11), .binOp .add 3 (.tmp 10) (.const (.int .i64 1)) 3, none, 0⟩,
  ⟨(some 6), .assign (.tmp 11), none, 0⟩]
def L26r7 : List AOp := [
  ⟨(some 7), .assign (.const (.int .i64 14)), none, 0⟩]
def L26r8 : List AOp := [
  ⟨(some 24), .move (.tmp 7), none, 0⟩,
  ⟨(some 25), .binOp .geq 3 (.tmp 24) (.const (.int .i64 8)) 3, none, 0⟩]
def L26r10 : List AOp := [
  ⟨(some 28), .move (.tmp 5), none, 0⟩,
  ⟨(some 29), .move (.tmp 7), none, 0⟩,
  ⟨(some 30), .binOp .shr 3 (.tmp 28) (.tmp 29) 3, none, 0⟩,
  ⟨(some 31), .binOp .rem 3 (.tmp 30) (.const (.int .i64 2)) 3, none, 0⟩,
  ⟨(some 32), .binOp .eql 3 (.tmp 31) (.const (.int .i64 1)) 3, none, 0⟩]
def L26r11 : List AOp := [
  ⟨(some 33), .move (.tmp 5), none, 0⟩,
  ⟨(some 34), .move (.tmp 7), none, 0⟩,
  ⟨(some 35), .binOp .sub 3 (.tmp 34) (.const (.int .i64 8)) 3, none, 0⟩,
  ⟨(some 36), .binOp .shl 3 (.const (.int .i64 283)) (.tmp 35) 3, none, 0⟩,
  ⟨(some 37), .binOp .xor 3 (.tmp 33) (.tmp 36) 3, none, 0⟩,
  ⟨(some 5), .assign (.tmp 37), none, 0⟩]
def L26r9 : List AOp := [
  ⟨(some 26), .move (.tmp 7), none, 0⟩,
  ⟨(some 27), .binOp .sub 3 (.tmp 26) (.const (.int .i64 1)) 3, none, 0⟩,
  ⟨(some 7), .assign (.tmp 27), none, 0⟩]
def L26r12 : List AOp := [
  ⟨(some 38), .move (.tmp 5), none, 0⟩,
  ⟨(some 39), .convert 3 5 (.tmp 38), none, 0⟩,
  ⟨(some 4), .assign (.tmp 39), none, 0⟩]
def L26 : LC := (.seq (.region L26r0) (.seq (.region L26r1) (.seq (.seq (.region L26r2) (.block 0 (.loop (.seq (.seq (.region L26r3) (.cond (.tmp 9) .skip (.exit 0))) (.seq (.block 1 (.seq (.region L26r5) (.cond (.tmp 17) (.region L26r6) .skip))) (.region L26r4)))))) (.seq (.seq (.region L26r7) (.block 2 (.loop (.seq (.seq (.region L26r8) (.cond (.tmp 25) .skip (.exit 2))) (.seq (.block 3 (.seq (.region L26r10) (.cond (.tmp 32) (.region L26r11) .skip))) (.region L26r9)))))) (.seq (.region L26r12) .ret)))))
theorem nt26 : Try.f26.ntmps = 40 := by kernel_rfl
theorem rs26 : Try.f26.results.toList = [.tmp 4] := by kernel_rfl
theorem lite26 : Try.f26.body.map (lite okDraw) = some L26 := by kernel_rfl
def L5r0 : List AOp := [
  ⟨(some 4), .assign (.const (.bool false)), none, 0⟩]
def L5r1 : List AOp := [
  ⟨(some 5), .buildSlice 27 1 #[(0, .const (.int .u8 1))], none, 0⟩,
  ⟨(some 6), .buildSlice 27 1 #[(0, .const (.int .u8 1))], none, 0⟩,
  ⟨(some 7), .call { callee := .value (.func 27), args := #[.tmp 5, .tmp 6], argTypes := #[27, 27] }, none, 1267650600228229401496703205379⟩,
  ⟨(some 8), .move (.tmp 7), none, 1267650600228229401496703205383⟩,
  ⟨(some 9), .move (.tmp 0), (some (8, true)), 15⟩,
  ⟨(some 10), .move (.tmp 1), (some (8, true)), 15⟩,
  ⟨(some 11), .call { callee := .value (.func 27), args := #[.tmp 9, .tmp 10], argTypes := #[27, 27] }, (some (8, true)), 63⟩,
  ⟨(some 12), .move (.tmp 0), (some (8, true)), 15⟩,
  ⟨(some 13), .convert 27 9 (.tmp 12), (some (8, true)), 143⟩,
  ⟨(some 14), .move (.tmp 1), (some (8, true)), 15⟩,
  ⟨(some 15), .convert 27 9 (.tmp 14), (some (8, true)), 527⟩,
  ⟨(some 16), .binOp .eql 9 (.tmp 13) (.tmp 15) 9, (some (8, true)), 1935⟩,
  ⟨(some 17), .binOp .eql 4 (.tmp 11) (.tmp 16) 4, (some (8, true)), 1267650600228229401496703209471⟩,
  ⟨(some 18), .pick (.tmp 8) (.tmp 17) (.const (.bool false)), none, 1267650600228229401496703213567⟩,
  ⟨(some 19), .move (.tmp 18), none, 1267650600228229401496703221759⟩,
  ⟨(some 20), .move (.tmp 0), (some (19, true)), 32767⟩,
  ⟨(some 21), .move (.tmp 0), (some (19, true)), 32767⟩,
  ⟨(some 22), .call { callee := .value (.func 27), args := #[.tmp 20, .tmp 21], argTypes := #[27, 27] }, (some (19, true)), 1267650600228229401496703336447⟩,
  ⟨(some 23), .pick (.tmp 19) (.tmp 22) (.const (.bool false)), none, 1267650600228229401496703467519⟩,
  ⟨(some 4), .assign (.tmp 23), none, 1267650600228229401496703729663⟩]
def L5 : LC := (.seq (.region L5r0) (.seq (.regionD L5r1) .ret))
theorem nt5 : Try.f5.ntmps = 24 := by kernel_rfl
theorem rs5 : Try.f5.results.toList = [.tmp 4] := by kernel_rfl
theorem lite5 : Try.f5.body.map (lite okDraw) = some L5 := by kernel_rfl
def L27r0 : List AOp := [
  ⟨(some 4), .assign (.const (.bool false)), none, 0⟩]
def L27r1 : List AOp := [
  ⟨(some 7), .move (.tmp 0), none, 0⟩,
  ⟨(some 8), .call { callee := .builtin .len, args := #[.tmp 7], argTypes := #[27] }, none, 0⟩,
  ⟨(some 9), .move (.tmp 1), none, 0⟩,
  ⟨(some 10), .call { callee := .builtin .len, args := #[.tmp 9], argTypes := #[27] }, none, 0⟩,
  ⟨(some 11), .binOp .neq 3 (.tmp 8) (.tmp 10) 3, none, 0⟩]
def L27r2 : List AOp := [
  ⟨(some 4), .assign (.const (.bool false)), none, 0⟩]
def L27r3 : List AOp := [
  ⟨(some 5), .assign (.const (.int .u8 0)), none, 0⟩]
def L27r4 : List AOp := [
  ⟨(some 12), .move (.tmp 0), none, 0⟩,
  ⟨(some 13), .call { callee := .builtin .len, args := #[.tmp 12], argTypes := #[27] }, none, 0⟩,
  ⟨(some 14), .move (.const (.int .i64 0)), none, 0⟩]
def L27r5 : List AOp := [
  ⟨(some 15), .binOp .lss 3 (.tmp 14) (.tmp 13) 3, none, 0⟩]
def L27r6 : List AOp := [
  ⟨(some 16), .move (.tmp 14), none, 0⟩,
  ⟨(some 6), .assign (.tmp 16), none, 0⟩]
def L27r7 : List AOp := [
  ⟨(some 17), .move (.tmp 5), none, 0⟩,
  ⟨(some 18), .move (.tmp 0), none, 0⟩,
  ⟨(some 19), .move (.tmp 6), none, 0⟩,
  ⟨(some 20), .indexAddr 27 (.tmp 18) (.tmp 19), none, 6⟩,
  ⟨(some 21), .load 5 (.tmp 20), none, 14⟩,
  ⟨(some 22), .move (.tmp 1), none, 0⟩,
  ⟨(some 23), .move (.tmp 6), none, 0⟩,
  ⟨(some 24), .indexAddr 27 (.tmp 22) (.tmp 23), none, 96⟩,
  ⟨(some 25), .load 5 (.tmp 24), none, 224⟩,
  ⟨(some 26), .binOp .xor 5 (.tmp 21) (.tmp 25) 5, none, 510⟩,
  ⟨(some 27), .binOp .or 5 (.tmp 17) (.tmp 26) 5, none, 1267650600228229401496703206399⟩,
  ⟨(some 5), .assign (.tmp 27), none, 1267650600228229401496703207423⟩]
def L27r8 : List AOp := [
  ⟨(some 28), .binOp .add 3 (.tmp 14) (.const (.int .i64 1)) 3, none, 0⟩,
  ⟨(some 14), .move (.tmp 28), none, 0⟩]
def L27r9 : List AOp := [
  ⟨(some 29), .move (.tmp 5), none, 0⟩,
  ⟨(some 30), .binOp .eql 5 (.tmp 29) (.const (.int .u8 0)) 5, none, 0⟩,
  ⟨(some 4), .assign (.tmp 30), none, 0⟩]
def L27 : LC := (.seq (.region L27r0) (.seq (.seq (.region L27r1) (.cond (.tmp 11) (.seq (.region L27r2) .ret) .skip)) (.seq (.region L27r3) (.seq (.seq (.region L27r4) (.block 0 (.loop (.seq (.region L27r5) (.seq (.cond (.tmp 15) .skip (.exit 0)) (.seq (.block 1 (.seq (.region L27r6) (.regionD L27r7))) (.region L27r8))))))) (.seq (.region L27r9) .ret)))))
theorem nt27 : Try.f27.ntmps = 31 := by kernel_rfl
theorem rs27 : Try.f27.results.toList = [.tmp 4] := by kernel_rfl
theorem lite27 : Try.f27.body.map (lite okDraw) = some L27 := by kernel_rfl
def L6r0 : List AOp := [
  ⟨(some 3), .box 30 (.tmp 0), none, 0⟩,
  ⟨(some 6), .assign (.const (.bool false)), none, 0⟩]
def L6r1 : List AOp := [
  ⟨(some 7), .load 30 (.tmp 3), none, 0⟩,
  ⟨(some 8), .move (.tmp 1), none, 0⟩,
  ⟨(some 9), .move (.tmp 2), none, 0⟩,
  ⟨(some 10), .call { callee := .value (.func 28), args := #[.tmp 7, .tmp 8, .tmp 9], argTypes := #[30, 29, 29] }, none, 7⟩,
  ⟨(some 11), .load 30 (.tmp 3), none, 0⟩,
  ⟨(some 12), .move (.tmp 1), none, 0⟩,
  ⟨(some 13), .move (.tmp 2), none, 0⟩,
  ⟨(some 14), .call { callee := .value (.func 29), args := #[.tmp 11, .tmp 12, .tmp 13], argTypes := #[30, 29, 29] }, none, 1267650600228229401496703205503⟩,
  ⟨(some 15), .binOp .eql 30 (.tmp 10) (.tmp 14) 30, none, 1267650600228229401496703205631⟩,
  ⟨(some 16), .move (.tmp 15), none, 1267650600228229401496703205887⟩,
  ⟨(some 17), .build 30 #[], (some (16, true)), 1267650600228229401496703206399⟩,
  ⟨(some 18), .call { callee := .value (.func 28), args := #[.tmp 17, .const (.int .u64 1), .const (.int .u64 0)], argTypes := #[30, 29, 29] }, (some (16, true)), 1267650600228229401496703207423⟩,
  ⟨(some 19), .index 30 (.tmp 18) (.const (.int .i64 0)), (some (16, true)), 1267650600228229401496703209471⟩,
  ⟨(some 20), .binOp .eql 29 (.tmp 19) (.const (.int .u64 1)) 29, (some (16, true)), 1267650600228229401496703213567⟩,
  ⟨(some 21), .pick (.tmp 16) (.tmp 20) (.const (.bool false)), none, 1267650600228229401496703221759⟩,
  ⟨(some 6), .assign (.tmp 21), none, 1267650600228229401496703238143⟩]
def L6 : LC := (.seq (.region L6r0) (.seq (.regionD L6r1) .ret))
theorem nt6 : Try.f6.ntmps = 22 := by kernel_rfl
theorem rs6 : Try.f6.results.toList = [.tmp 6] := by kernel_rfl
theorem lite6 : Try.f6.body.map (lite okDraw) = some L6 := by kernel_rfl
def L28r0 : List AOp := [
  ⟨(some 3), .box 30 (.tmp 0), none, 0⟩,
  ⟨(some 6), .alloc 30, none, 0⟩]
def L28r1 : List AOp := [
  ⟨(some 11), .indexAddr 30 (.tmp 3) (.const (.int .i64 0)), none, 0⟩,
  ⟨(some 12), .load 29 (.tmp 11), none, 1⟩,
  ⟨(some 13), .indexAddr 30 (.tmp 3) (.const (.int .i64 4)), none, 0⟩,
  ⟨(some 14), .load 29 (.tmp 13), none, 4⟩,
  ⟨(some 7), .assign (.tmp 12), none, 3⟩,
  ⟨(some 8), .assign (.tmp 14), none, 1267650600228229401496703205407⟩]
def L28r2 : List AOp := [
  ⟨(some 15), .indexAddr 30 (.tmp 3) (.const (.int .i64 7)), none, 0⟩,
  ⟨(some 16), .load 29 (.tmp 15), none, 1⟩,
  ⟨(some 17), .move (.tmp 8), none, 0⟩,
  ⟨(some 18), .call { callee := .value (.func 58), args := #[.tmp 17, .const (.int .i64 (-14))], argTypes := #[29, 3] }, none, 4⟩,
  ⟨(some 19), .move (.tmp 8), none, 0⟩,
  ⟨(some 20), .call { callee := .value (.func 58), args := #[.tmp 19, .const (.int .i64 (-18))], argTypes := #[29, 3] }, none, 28⟩,
  ⟨(some 21), .binOp .xor 29 (.tmp 18) (.tmp 20) 29, none, 60⟩,
  ⟨(some 22), .move (.tmp 8), none, 0⟩,
  ⟨(some 23), .call { callee := .value (.func 58), args := #[.tmp 22, .const (.int .i64 (-41))], argTypes := #[29, 3] }, none, 188⟩,
  ⟨(some 24), .binOp .xor 29 (.tmp 21) (.tmp 23) 29, none, 508⟩,
  ⟨(some 25), .binOp .add 29 (.tmp 16) (.tmp 24) 29, none, 1023⟩,
  ⟨(some 26), .move (.tmp 8), none, 0⟩,
  ⟨(some 27), .indexAddr 30 (.tmp 3) (.const (.int .i64 5)), none, 0⟩,
  ⟨(some 28), .load 29 (.tmp 27), none, 4096⟩,
  ⟨(some 29), .binOp .and 29 (.tmp 26) (.tmp 28) 29, none, 14336⟩,
  ⟨(some 30), .move (.tmp 8), none, 0⟩,
  ⟨(some 31), .unOp .xor 29 (.tmp 30), none, 32768⟩,
  ⟨(some 32), .indexAddr 30 (.tmp 3) (.const (.int .i64 6)), none, 0⟩,
  ⟨(some 33), .load 29 (.tmp 32), none, 131072⟩,
  ⟨(some 34), .binOp .and 29 (.tmp 31) (.tmp 33) 29, none, 491520⟩,
  ⟨(some 35), .binOp .xor 29 (.tmp 29) (.tmp 34) 29, none, 1046528⟩,
  ⟨(some 36), .binOp .add 29 (.tmp 25) (.tmp 35) 29, none, 2097151⟩,
  ⟨(some 37), .move (.tmp 1), none, 0⟩,
  ⟨(some 38), .binOp .add 29 (.tmp 36) (.tmp 37) 29, none, 8388607⟩,
  ⟨(some 39), .move (.tmp 2), none, 0⟩,
  ⟨(some 40), .binOp .add 29 (.tmp 38) (.tmp 39) 29, none, 1267650600228229401496736759807⟩,
  ⟨(some 9), .assign (.tmp 40), none, 1267650600228229401496770314239⟩]
def L28r3 : List AOp := [
  ⟨(some 41), .move (.tmp 7), none, 0⟩,
  ⟨(some 42), .call { callee := .value (.func 58), args := #[.tmp 41, .const (.int .i64 (-28))], argTypes := #[29, 3] }, none, 1⟩,
  ⟨(some 43), .move (.tmp 7), none, 0⟩,
  ⟨(some 44), .call { callee := .value (.func 58), args := #[.tmp 43, .const (.int .i64 (-34))], argTypes := #[29, 3] }, none, 7⟩,
  ⟨(some 45), .binOp .xor 29 (.tmp 42) (.tmp 44) 29, none, 15⟩,
  ⟨(some 46), .move (.tmp 7), none, 0⟩,
  ⟨(some 47), .call { callee := .value (.func 58), args := #[.tmp 46, .const (.int .i64 (-39))], argTypes := #[29, 3] }, none, 47⟩,
  ⟨(some 48), .binOp .xor 29 (.tmp 45) (.tmp 47) 29, none, 127⟩,
  ⟨(some 49), .move (.tmp 7), none, 0⟩,
  ⟨(some 50), .indexAddr 30 (.tmp 3) (.const (.int .i64 1)), none, 0⟩,
  ⟨(some 51), .load 29 (.tmp 50), none, 512⟩,
  ⟨(some 52), .binOp .and 29 (.tmp 49) (.tmp 51) 29, none, 1792⟩,
  ⟨(some 53), .move (.tmp 7), none, 0⟩,
  ⟨(some 54), .indexAddr 30 (.tmp 3) (.const (.int .i64 2)), none, 0⟩,
  ⟨(some 55), .load 29 (.tmp 54), none, 8192⟩,
  ⟨(some 56), .binOp .and 29 (.tmp 53) (.tmp 55) 29, none, 28672⟩,
  ⟨(some 57), .binOp .xor 29 (.tmp 52) (.tmp 56) 29, none, 65280⟩,
  ⟨(some 58), .indexAddr 30 (.tmp 3) (.const (.int .i64 1)), none, 0⟩,
  ⟨(some 59), .load 29 (.tmp 58), none, 131072⟩,
  ⟨(some 60), .indexAddr 30 (.tmp 3) (.const (.int .i64 2)), none, 0⟩,
  ⟨(some 61), .load 29 (.tmp 60), none, 524288⟩,
  ⟨(some 62), .binOp .and 29 (.tmp 59) (.tmp 61) 29, none, 1966080⟩,
  ⟨(some 63), .binOp .xor 29 (.tmp 57) (.tmp 62) 29, none, 4194048⟩,
  ⟨(some 64), .binOp .add 29 (.tmp 48) (.tmp 63) 29, none, 1267650600228229401496711593983⟩,
  ⟨(some 10), .assign (.tmp 64), none, 1267650600228229401496719982591⟩]
def L28r4 : List AOp := [
  ⟨(some 65), .move (.tmp 9), none, 0⟩,
  ⟨(some 66), .move (.tmp 10), none, 0⟩,
  ⟨(some 67), .binOp .add 29 (.tmp 65) (.tmp 66) 29, none, 0⟩,
  ⟨(some 68), .move (.tmp 7), none, 0⟩,
  ⟨(some 69), .indexAddr 30 (.tmp 3) (.const (.int .i64 1)), none, 0⟩,
  ⟨(some 70), .load 29 (.tmp 69), none, 0⟩,
  ⟨(some 71), .indexAddr 30 (.tmp 3) (.const (.int .i64 2)), none, 0⟩,
  ⟨(some 72), .load 29 (.tmp 71), none, 0⟩,
  ⟨(some 73), .indexAddr 30 (.tmp 3) (.const (.int .i64 3)), none, 0⟩,
  ⟨(some 74), .load 29 (.tmp 73), none, 0⟩,
  ⟨(some 75), .move (.tmp 9), none, 0⟩,
  ⟨(some 76), .binOp .add 29 (.tmp 74) (.tmp 75) 29, none, 0⟩,
  ⟨(some 77), .move (.tmp 8), none, 0⟩,
  ⟨(some 78), .indexAddr 30 (.tmp 3) (.const (.int .i64 5)), none, 0⟩,
  ⟨(some 79), .load 29 (.tmp 78), none, 0⟩,
  ⟨(some 80), .indexAddr 30 (.tmp 3) (.const (.int .i64 6)), none, 0⟩,
  ⟨(some 81), .load 29 (.tmp 80), none, 0⟩,
  ⟨(some 82), .build 30 #[(0, .tmp 67), (1, .tmp 68), (2, .tmp 70), (3, .tmp 72), (4, .tmp 76), (5, .tmp 77), (6, .tmp 79), (7, .tmp 81)], none, 0⟩,
  ⟨none, .store 30 (.tmp 6) (.tmp 82), none, 0⟩]
def L28 : LC := (.seq (.region L28r0) (.seq (.regionD L28r1) (.seq (.regionD L28r2) (.seq (.regionD L28r3) (.seq (.region L28r4) .ret)))))
theorem nt28 : Try.f28.ntmps = 83 := by kernel_rfl
theorem rs28 : Try.f28.results.toList = [.cell 6 30] := by kernel_rfl
theorem lite28 : Try.f28.body.map (lite okDraw) = some L28 := by kernel_rfl
def L29r0 : List AOp := [
  ⟨(some 3), .box 30 (.tmp 0), none, 0⟩,
  ⟨(some 6), .alloc 30, none, 0⟩]
def L29r1 : List AOp := [
  ⟨(some 11), .indexAddr 30 (.tmp 3) (.const (.int .i64 0)), none, 0⟩,
  ⟨(some 12), .load 29 (.tmp 11), none, 0⟩,
  ⟨(some 7), .assign (.tmp 12), none, 0⟩]
def L29r2 : List AOp := [
  ⟨(some 13), .indexAddr 30 (.tmp 3) (.const (.int .i64 4)), none, 0⟩,
  ⟨(some 14), .load 29 (.tmp 13), none, 0⟩,
  ⟨(some 8), .assign (.tmp 14), none, 0⟩]
def L29r3 : List AOp := [
  ⟨(some 15), .indexAddr 30 (.tmp 3) (.const (.int .i64 7)), none, 0⟩,
  ⟨(some 16), .load 29 (.tmp 15), none, 1⟩,
  ⟨(some 17), .move (.tmp 8), none, 0⟩,
  ⟨(some 18), .call { callee := .value (.func 59), args := #[.tmp 17, .const (.int .i64 14)], argTypes := #[29, 3] }, none, 4⟩,
  ⟨(some 19), .move (.tmp 8), none, 0⟩,
  ⟨(some 20), .call { callee := .value (.func 59), args := #[.tmp 19, .const (.int .i64 18)], argTypes := #[29, 3] }, none, 28⟩,
  ⟨(some 21), .binOp .xor 29 (.tmp 18) (.tmp 20) 29, none, 60⟩,
  ⟨(some 22), .move (.tmp 8), none, 0⟩,
  ⟨(some 23), .call { callee := .value (.func 59), args := #[.tmp 22, .const (.int .i64 41)], argTypes := #[29, 3] }, none, 188⟩,
  ⟨(some 24), .binOp .xor 29 (.tmp 21) (.tmp 23) 29, none, 508⟩,
  ⟨(some 25), .binOp .add 29 (.tmp 16) (.tmp 24) 29, none, 1023⟩,
  ⟨(some 26), .move (.tmp 8), none, 0⟩,
  ⟨(some 27), .indexAddr 30 (.tmp 3) (.const (.int .i64 5)), none, 0⟩,
  ⟨(some 28), .load 29 (.tmp 27), none, 4096⟩,
  ⟨(some 29), .binOp .and 29 (.tmp 26) (.tmp 28) 29, none, 14336⟩,
  ⟨(some 30), .move (.tmp 8), none, 0⟩,
  ⟨(some 31), .unOp .xor 29 (.tmp 30), none, 32768⟩,
  ⟨(some 32), .indexAddr 30 (.tmp 3) (.const (.int .i64 6)), none, 0⟩,
  ⟨(some 33), .load 29 (.tmp 32), none, 131072⟩,
  ⟨(some 34), .binOp .and 29 (.tmp 31) (.tmp 33) 29, none, 491520⟩,
  ⟨(some 35), .binOp .xor 29 (.tmp 29) (.tmp 34) 29, none, 1046528⟩,
  ⟨(some 36), .binOp .add 29 (.tmp 25) (.tmp 35) 29, none, 2097151⟩,
  ⟨(some 37), .move (.tmp 1), none, 0⟩,
  ⟨(some 38), .binOp .add 29 (.tmp 36) (.tmp 37) 29, none, 8388607⟩,
  ⟨(some 39), .move (.tmp 2), none, 0⟩,
  ⟨(some 40), .binOp .add 29 (.tmp 38) (.tmp 39) 29, none, 1267650600228229401496736759807⟩,
  ⟨(some 9), .assign (.tmp 40), none, 1267650600228229401496770314239⟩]
def L29r4 : List AOp := [
  ⟨(some 41), .move (.tmp 7), none, 0⟩,
  ⟨(some 42), .call { callee := .value (.func 59), args := #[.tmp 41, .const (.int .i64 28)], argTypes := #[29, 3] }, none, 1⟩,
  ⟨(some 43), .move (.tmp 7), none, 0⟩,
  ⟨(some 44), .call { callee := .value (.func 59), args := #[.tmp 43, .const (.int .i64 34)], argTypes := #[29, 3] }, none, 7⟩,
  ⟨(some 45), .binOp .xor 29 (.tmp 42) (.tmp 44) 29, none, 15⟩,
  ⟨(some 46), .move (.tmp 7), none, 0⟩,
  ⟨(some 47), .call { callee := .value (.func 59), args := #[.tmp 46, .const (.int .i64 39)], argTypes := #[29, 3] }, none, 47⟩,
  ⟨(some 48), .binOp .xor 29 (.tmp 45) (.tmp 47) 29, none, 127⟩,
  ⟨(some 49), .move (.tmp 7), none, 0⟩,
  ⟨(some 50), .indexAddr 30 (.tmp 3) (.const (.int .i64 1)), none, 0⟩,
  ⟨(some 51), .load 29 (.tmp 50), none, 512⟩,
  ⟨(some 52), .binOp .and 29 (.tmp 49) (.tmp 51) 29, none, 1792⟩,
  ⟨(some 53), .move (.tmp 7), none, 0⟩,
  ⟨(some 54), .indexAddr 30 (.tmp 3) (.const (.int .i64 2)), none, 0⟩,
  ⟨(some 55), .load 29 (.tmp 54), none, 8192⟩,
  ⟨(some 56), .binOp .and 29 (.tmp 53) (.tmp 55) 29, none, 28672⟩,
  ⟨(some 57), .binOp .xor 29 (.tmp 52) (.tmp 56) 29, none, 65280⟩,
  ⟨(some 58), .indexAddr 30 (.tmp 3) (.const (.int .i64 1)), none, 0⟩,
  ⟨(some 59), .load 29 (.tmp 58), none, 131072⟩,
  ⟨(some 60), .indexAddr 30 (.tmp 3) (.const (.int .i64 2)), none, 0⟩,
  ⟨(some 61), .load 29 (.tmp 60), none, 524288⟩,
  ⟨(some 62), .binOp .and 29 (.tmp 59) (.tmp 61) 29, none, 1966080⟩,
  ⟨(some 63), .binOp .xor 29 (.tmp 57) (.tmp 62) 29, none, 4194048⟩,
  ⟨(some 64), .binOp .add 29 (.tmp 48) (.tmp 63) 29, none, 1267650600228229401496711593983⟩,
  ⟨(some 10), .assign (.tmp 64), none, 1267650600228229401496719982591⟩]
def L29r5 : List AOp := [
  ⟨(some 65), .move (.tmp 9), none, 0⟩,
  ⟨(some 66), .move (.tmp 10), none, 0⟩,
  ⟨(some 67), .binOp .add 29 (.tmp 65) (.tmp 66) 29, none, 0⟩,
  ⟨(some 68), .move (.tmp 7), none, 0⟩,
  ⟨(some 69), .indexAddr 30 (.tmp 3) (.const (.int .i64 1)), none, 0⟩,
  ⟨(some 70), .load 29 (.tmp 69), none, 0⟩,
  ⟨(some 71), .indexAddr 30 (.tmp 3) (.const (.int .i64 2)), none, 0⟩,
  ⟨(some 72), .load 29 (.tmp 71), none, 0⟩,
  ⟨(some 73), .indexAddr 30 (.tmp 3) (.const (.int .i64 3)), none, 0⟩,
  ⟨(some 74), .load 29 (.tmp 73), none, 0⟩,
  ⟨(some 75), .move (.tmp 9), none, 0⟩,
  ⟨(some 76), .binOp .add 29 (.tmp 74) (.tmp 75) 29, none, 0⟩,
  ⟨(some 77), .move (.tmp 8), none, 0⟩,
  ⟨(some 78), .indexAddr 30 (.tmp 3) (.const (.int .i64 5)), none, 0⟩,
  ⟨(some 79), .load 29 (.tmp 78), none, 0⟩,
  ⟨(some 80), .indexAddr 30 (.tmp 3) (.const (.int .i64 6)), none, 0⟩,
  ⟨(some 81), .load 29 (.tmp 80), none, 0⟩,
  ⟨(some 82), .build 30 #[(0, .tmp 67), (1, .tmp 68), (2, .tmp 70), (3, .tmp 72), (4, .tmp 76), (5, .tmp 77), (6, .tmp 79), (7, .tmp 81)], none, 0⟩,
  ⟨none, .store 30 (.tmp 6) (.tmp 82), none, 0⟩]
def L29 : LC := (.seq (.region L29r0) (.seq (.region L29r1) (.seq (.region L29r2) (.seq (.regionD L29r3) (.seq (.regionD L29r4) (.seq (.region L29r5) .ret))))))
theorem nt29 : Try.f29.ntmps = 83 := by kernel_rfl
theorem rs29 : Try.f29.results.toList = [.cell 6 30] := by kernel_rfl
theorem lite29 : Try.f29.body.map (lite okDraw) = some L29 := by kernel_rfl
def L58r0 : List AOp := [
  ⟨(some 4), .assign (.const (.int .u64 0)), none, 0⟩]
def L58r1 : List AOp := [
  ⟨(some 6), .move (.tmp 1), none, 0⟩,
  ⟨(some 7), .convert 3 76 (.tmp 6), none, 0⟩,
  ⟨(some 8), .binOp .and 76 (.tmp 7) (.const (.int .u64 63)) 76, none, 0⟩,
  ⟨(some 5), .assign (.tmp 8), none, 0⟩]
def L58r2 : List AOp := [
  ⟨(some 9), .move (.tmp 0), none, 0⟩,
  ⟨(some 10), .move (.tmp 5), none, 0⟩,
  ⟨(some 11), .binOp .shl 29 (.tmp 9) (.tmp 10) 76, none, 0⟩,
  ⟨(some 12), .move (.tmp 0), none, 0⟩,
  ⟨(some 13), .move (.tmp 5), none, 0⟩,
  ⟨(some 14), .binOp .sub 76 (.const (.int .u64 64)) (.tmp 13) 76, none, 0⟩,
  ⟨(some 15), .binOp .shr 29 (.tmp 12) (.tmp 14) 76, none, 0⟩,
  ⟨(some 16), .binOp .or 29 (.tmp 11) (.tmp 15) 29, none, 0⟩,
  ⟨(some 4), .assign (.tmp 16), none, 0⟩]
def L58 : LC := (.seq (.region L58r0) (.seq (.region L58r1) (.seq (.region L58r2) .ret)))
theorem nt58 : Try.f58.ntmps = 17 := by kernel_rfl
theorem rs58 : Try.f58.results.toList = [.tmp 4] := by kernel_rfl
theorem lite58 : Try.f58.body.map (lite okDraw) = some L58 := by kernel_rfl
def L59r0 : List AOp := [
  ⟨(some 4), .assign (.const (.int .u64 0)), none, 0⟩]
def L59r1 : List AOp := [
  ⟨(some 5), .move (.tmp 0), none, 0⟩,
  ⟨(some 6), .move (.tmp 1), none, 0⟩,
  ⟨(some 7), .binOp .shr 29 (.tmp 5) (.tmp 6) 3, none, 3⟩,
  ⟨(some 8), .move (.tmp 0), none, 0⟩,
  ⟨(some 9), .move (.tmp 1), none, 0⟩,
  ⟨(some 10), .binOp .sub 3 (.const (.int .i64 64)) (.tmp 9) 3, none, 16⟩,
  ⟨(some 11), .binOp .shl 29 (.tmp 8) (.tmp 10) 3, none, 56⟩,
  ⟨(some 12), .binOp .or 29 (.tmp 7) (.tmp 11) 29, none, 1267650600228229401496703205503⟩,
  ⟨(some 4), .assign (.tmp 12), none, 1267650600228229401496703205631⟩]
def L59 : LC := (.seq (.region L59r0) (.seq (.regionD L59r1) .ret))
theorem nt59 : Try.f59.ntmps = 13 := by kernel_rfl
theorem rs59 : Try.f59.results.toList = [.tmp 4] := by kernel_rfl
theorem lite59 : Try.f59.body.map (lite okDraw) = some L59 := by kernel_rfl
def L7r0 : List AOp := [
  ⟨(some 2), .box 22 (.tmp 0), none, 0⟩,
  ⟨(some 3), .box 22 (.tmp 1), none, 0⟩,
  ⟨(some 4), .assign (.const (.bool false)), none, 0⟩]
def L7r1 : List AOp := [
  ⟨(some 5), .call { callee := .value (.func 31), args := #[], argTypes := #[] }, none, 1267650600228229401496703205376⟩,
  ⟨(some 6), .call { callee := .value (.func 31), args := #[], argTypes := #[] }, none, 1267650600228229401496703205377⟩,
  ⟨(some 7), .call { callee := .value (.func 30), args := #[.tmp 5, .tmp 6], argTypes := #[22, 22] }, none, 1267650600228229401496703205379⟩,
  ⟨(some 8), .call { callee := .value (.func 31), args := #[], argTypes := #[] }, none, 1267650600228229401496703205383⟩,
  ⟨(some 9), .binOp .eql 22 (.tmp 7) (.tmp 8) 22, none, 1267650600228229401496703205391⟩,
  ⟨(some 10), .move (.tmp 9), none, 1267650600228229401496703205407⟩,
  ⟨(some 11), .load 22 (.tmp 2), (some (10, true)), 63⟩,
  ⟨(some 12), .load 22 (.tmp 3), (some (10, true)), 63⟩,
  ⟨(some 13), .call { callee := .value (.func 30), args := #[.tmp 11, .tmp 12], argTypes := #[22, 22] }, (some (10, true)), 255⟩,
  ⟨(some 14), .load 22 (.tmp 2), (some (10, true)), 63⟩,
  ⟨(some 15), .load 22 (.tmp 3), (some (10, true)), 63⟩,
  ⟨(some 16), .call { callee := .value (.func 32), args := #[.tmp 14, .tmp 15], argTypes := #[22, 22] }, (some (10, true)), 1267650600228229401496703207423⟩,
  ⟨(some 17), .binOp .eql 22 (.tmp 13) (.tmp 16) 22, (some (10, true)), 1267650600228229401496703209471⟩,
  ⟨(some 18), .pick (.tmp 10) (.tmp 17) (.const (.bool false)), none, 1267650600228229401496703213567⟩,
  ⟨(some 4), .assign (.tmp 18), none, 1267650600228229401496703221759⟩]
def L7 : LC := (.seq (.region L7r0) (.seq (.regionD L7r1) .ret))
theorem nt7 : Try.f7.ntmps = 19 := by kernel_rfl
theorem rs7 : Try.f7.results.toList = [.tmp 4] := by kernel_rfl
theorem lite7 : Try.f7.body.map (lite okDraw) = some L7 := by kernel_rfl
def L8r0 : List AOp := [
  ⟨(some 3), .box 22 (.tmp 0), none, 0⟩,
  ⟨(some 4), .box 22 (.tmp 1), none, 0⟩,
  ⟨(some 5), .box 22 (.tmp 2), none, 0⟩,
  ⟨(some 6), .assign (.const (.bool false)), none, 0⟩]
def L8r1 : List AOp := [
  ⟨(some 10), .load 22 (.tmp 3), none, 0⟩,
  ⟨(some 11), .load 22 (.tmp 4), none, 0⟩,
  ⟨(some 12), .call { callee := .value (.func 30), args := #[.tmp 10, .tmp 11], argTypes := #[22, 22] }, none, 3⟩,
  ⟨(some 13), .load 22 (.tmp 4), none, 0⟩,
  ⟨(some 14), .load 22 (.tmp 3), none, 0⟩,
  ⟨(some 15), .call { callee := .value (.func 30), args := #[.tmp 13, .tmp 14], argTypes := #[22, 22] }, none, 1267650600228229401496703205407⟩,
  ⟨(some 16), .binOp .eql 22 (.tmp 12) (.tmp 15) 22, none, 1267650600228229401496703205439⟩,
  ⟨(some 7), .assign (.tmp 16), none, 1267650600228229401496703205503⟩]
def L8r2 : List AOp := [
  ⟨(some 17), .load 22 (.tmp 3), none, 0⟩,
  ⟨(some 18), .load 22 (.tmp 4), none, 0⟩,
  ⟨(some 19), .call { callee := .value (.func 30), args := #[.tmp 17, .tmp 18], argTypes := #[22, 22] }, none, 3⟩,
  ⟨(some 20), .load 22 (.tmp 5), none, 0⟩,
  ⟨(some 21), .call { callee := .value (.func 30), args := #[.tmp 19, .tmp 20], argTypes := #[22, 22] }, none, 15⟩,
  ⟨(some 22), .load 22 (.tmp 3), none, 0⟩,
  ⟨(some 23), .load 22 (.tmp 4), none, 0⟩,
  ⟨(some 24), .load 22 (.tmp 5), none, 0⟩,
  ⟨(some 25), .call { callee := .value (.func 30), args := #[.tmp 23, .tmp 24], argTypes := #[22, 22] }, none, 223⟩,
  ⟨(some 26), .call { callee := .value (.func 30), args := #[.tmp 22, .tmp 25], argTypes := #[22, 22] }, none, 1267650600228229401496703205887⟩,
  ⟨(some 27), .binOp .eql 22 (.tmp 21) (.tmp 26) 22, none, 1267650600228229401496703206399⟩,
  ⟨(some 8), .assign (.tmp 27), none, 1267650600228229401496703207423⟩]
def L8r3 : List AOp := [
  ⟨(some 28), .load 22 (.tmp 3), none, 0⟩,
  ⟨(some 29), .load 22 (.tmp 4), none, 0⟩,
  ⟨(some 30), .load 22 (.tmp 5), none, 0⟩,
  ⟨(some 31), .call { callee := .value (.func 33), args := #[.tmp 29, .tmp 30], argTypes := #[22, 22] }, none, 6⟩,
  ⟨(some 32), .call { callee := .value (.func 30), args := #[.tmp 28, .tmp 31], argTypes := #[22, 22] }, none, 15⟩,
  ⟨(some 33), .load 22 (.tmp 3), none, 0⟩,
  ⟨(some 34), .load 22 (.tmp 4), none, 0⟩,
  ⟨(some 35), .call { callee := .value (.func 30), args := #[.tmp 33, .tmp 34], argTypes := #[22, 22] }, none, 127⟩,
  ⟨(some 36), .load 22 (.tmp 3), none, 0⟩,
  ⟨(some 37), .load 22 (.tmp 5), none, 0⟩,
  ⟨(some 38), .call { callee := .value (.func 30), args := #[.tmp 36, .tmp 37], argTypes := #[22, 22] }, none, 1267650600228229401496703206399⟩,
  ⟨(some 39), .call { callee := .value (.func 33), args := #[.tmp 35, .tmp 38], argTypes := #[22, 22] }, none, 1267650600228229401496703207423⟩,
  ⟨(some 40), .binOp .eql 22 (.tmp 32) (.tmp 39) 22, none, 1267650600228229401496703209471⟩,
  ⟨(some 9), .assign (.tmp 40), none, 1267650600228229401496703213567⟩]
def L8r4 : List AOp := [
  ⟨(some 41), .move (.tmp 7), none, 1267650600228229401496703205376⟩,
  ⟨(some 42), .move (.tmp 41), none, 1267650600228229401496703205377⟩,
  ⟨(some 43), .move (.tmp 8), (some (42, true)), 1267650600228229401496703205379⟩,
  ⟨(some 44), .pick (.tmp 42) (.tmp 43) (.const (.bool false)), none, 1267650600228229401496703205383⟩,
  ⟨(some 45), .move (.tmp 44), none, 1267650600228229401496703205391⟩,
  ⟨(some 46), .move (.tmp 9), (some (45, true)), 1267650600228229401496703205407⟩,
  ⟨(some 47), .pick (.tmp 45) (.tmp 46) (.const (.bool false)), none, 1267650600228229401496703205439⟩,
  ⟨(some 48), .move (.tmp 47), none, 1267650600228229401496703205503⟩,
  ⟨(some 49), .load 22 (.tmp 3), (some (48, true)), 255⟩,
  ⟨(some 50), .call { callee := .value (.func 31), args := #[], argTypes := #[] }, (some (48, true)), 255⟩,
  ⟨(some 51), .call { callee := .value (.func 30), args := #[.tmp 49, .tmp 50], argTypes := #[22, 22] }, (some (48, true)), 1023⟩,
  ⟨(some 52), .load 22 (.tmp 3), (some (48, true)), 255⟩,
  ⟨(some 53), .binOp .eql 22 (.tmp 51) (.tmp 52) 22, (some (48, true)), 1267650600228229401496703209471⟩,
  ⟨(some 54), .pick (.tmp 48) (.tmp 53) (.const (.bool false)), none, 1267650600228229401496703213567⟩,
  ⟨(some 55), .move (.tmp 54), none, 1267650600228229401496703221759⟩,
  ⟨(some 56), .call { callee := .value (.func 31), args := #[], argTypes := #[] }, (some (55, true)), 1267650600228229401496703238143⟩,
  ⟨(some 57), .call { callee := .value (.func 31), args := #[], argTypes := #[] }, (some (55, true)), 1267650600228229401496703270911⟩,
  ⟨(some 58), .call { callee := .value (.func 30), args := #[.tmp 56, .tmp 57], argTypes := #[22, 22] }, (some (55, true)), 1267650600228229401496703336447⟩,
  ⟨(some 59), .call { callee := .value (.func 31), args := #[], argTypes := #[] }, (some (55, true)), 1267650600228229401496703467519⟩,
  ⟨(some 60), .binOp .eql 22 (.tmp 58) (.tmp 59) 22, (some (55, true)), 1267650600228229401496703729663⟩,
  ⟨(some 61), .pick (.tmp 55) (.tmp 60) (.const (.bool false)), none, 1267650600228229401496704253951⟩,
  ⟨(some 6), .assign (.tmp 61), none, 1267650600228229401496705302527⟩]
def L8 : LC := (.seq (.region L8r0) (.seq (.regionD L8r1) (.seq (.regionD L8r2) (.seq (.regionD L8r3) (.seq (.regionD L8r4) .ret)))))
theorem nt8 : Try.f8.ntmps = 62 := by kernel_rfl
theorem rs8 : Try.f8.results.toList = [.tmp 6] := by kernel_rfl
theorem lite8 : Try.f8.body.map (lite okDraw) = some L8 := by kernel_rfl
def L30r0 : List AOp := [
  ⟨(some 2), .box 22 (.tmp 0), none, 0⟩,
  ⟨(some 3), .box 22 (.tmp 1), none, 0⟩,
  ⟨(some 4), .alloc 22, none, 0⟩]
def L30r1 : List AOp := [
  ⟨(some 5), .alloc 22, none, 0⟩]
def L30r2 : List AOp := [
  ⟨(some 11), .move (.const (.int .i64 0)), none, 0⟩]
def L30r3 : List AOp := [
  ⟨(some 12), .binOp .lss 3 (.tmp 11) (.const (.int .i64 128)) 3, none, 0⟩]
def L30r4 : List AOp := [
  ⟨(some 13), .move (.tmp 11), none, 0⟩,
  ⟨(some 6), .assign (.tmp 13), none, 0⟩]
def L30r5 : List AOp := [
  ⟨(some 14), .move (.tmp 6), none, 0⟩,
  ⟨(some 15), .binOp .quo 3 (.tmp 14) (.const (.int .i64 8)) 3, none, 0⟩,
  ⟨(some 16), .indexAddr 22 (.tmp 2) (.tmp 15), none, 0⟩,
  ⟨(some 17), .load 5 (.tmp 16), none, 0⟩,
  ⟨(some 18), .move (.tmp 6), none, 0⟩,
  ⟨(some 19), .binOp .rem 3 (.tmp 18) (.const (.int .i64 8)) 3, none, 0⟩,
  ⟨(some 20), .binOp .sub 3 (.const (.int .i64 7)) (.tmp 19) 3, none, 0⟩,
  ⟨(some 21), .binOp .shr 5 (.tmp 17) (.tmp 20) 3, none, 0⟩,
  ⟨(some 22), .binOp .and 5 (.tmp 21) (.const (.int .u8 1)) 5, none, 0⟩,
  ⟨(some 23), .unOp .neg 5 (.tmp 22), none, 0⟩,
  ⟨(some 7), .assign (.tmp 23), none, 0⟩]
def L30r6 : List AOp := [
  ⟨(some 24), .move (.const (.int .i64 0)), none, 0⟩]
def L30r7 : List AOp := [
  ⟨(some 25), .binOp .lss 3 (.tmp 24) (.const (.int .i64 16)) 3, none, 0⟩]
def L30r8 : List AOp := [
  ⟨(some 26), .move (.tmp 24), none, 0⟩,
  ⟨(some 8), .assign (.tmp 26), none, 0⟩]
def L30r9 : List AOp := [
  ⟨(some 27), .move (.tmp 8), none, 0⟩,
  ⟨(some 28), .indexAddr 22 (.tmp 5) (.tmp 27), none, 1⟩,
  ⟨(some 29), .load 5 (.tmp 28), none, 3⟩,
  ⟨(some 30), .move (.tmp 8), none, 0⟩,
  ⟨(some 31), .indexAddr 22 (.tmp 3) (.tmp 30), none, 8⟩,
  ⟨(some 32), .load 5 (.tmp 31), none, 24⟩,
  ⟨(some 33), .move (.tmp 7), none, 0⟩,
  ⟨(some 34), .binOp .and 5 (.tmp 32) (.tmp 33) 5, none, 120⟩,
  ⟨(some 35), .binOp .xor 5 (.tmp 29) (.tmp 34) 5, none, 1267650600228229401496703205631⟩,
  ⟨(some 36), .indexAddr 22 (.tmp 5) (.tmp 27), none, 1267650600228229401496703205887⟩,
  ⟨none, .store 5 (.tmp 36) (.tmp 35), none, 1267650600228229401496703206399⟩]
def L30r10 : List AOp := [
  ⟨(some 37), .binOp .add 3 (.tmp 24) (.const (.int .i64 1)) 3, none, 0⟩,
  ⟨(some 24), .move (.tmp 37), none, 0⟩]
def L30r11 : List AOp := [
  ⟨(some 38), .indexAddr 22 (.tmp 3) (.const (.int .i64 15)), none, 0⟩,
  ⟨(some 39), .load 5 (.tmp 38), none, 0⟩,
  ⟨(some 40), .binOp .and 5 (.tmp 39) (.const (.int .u8 1)) 5, none, 0⟩,
  ⟨(some 41), .unOp .neg 5 (.tmp 40), none, 0⟩,
  ⟨(some 9), .assign (.tmp 41), none, 0⟩]
def L30r12 : List AOp := [
  ⟨(some 10), .assign (.const (.int .i64 15)), none, 0⟩]
def L30r13 : List AOp := [
  ⟨(some 42), .move (.tmp 10), none, 0⟩,
  ⟨(some 43), .binOp .gtr 3 (.tmp 42) (.const (.int .i64 0)) 3, none, 0⟩]
def L30r15 : List AOp := [
  ⟨(some 46), .move (.tmp 10), none, 0⟩,
  ⟨(some 47), .move (.tmp 10), none, 0⟩,
  ⟨(some 48), .indexAddr 22 (.tmp 3) (.tmp 47), none, 2⟩,
  ⟨(some 49), .load 5 (.tmp 48), none, 6⟩,
  ⟨(some 50), .binOp .shr 5 (.tmp 49) (.const (.int .u64 1)) 76, none, 14⟩,
  ⟨(some 51), .move (.tmp 10), none, 0⟩,
  ⟨(some 52), .binOp .sub 3 (.tmp 51) (.const (.int .i64 1)) 3, none, 32⟩,
  ⟨(some 53), .indexAddr 22 (.tmp 3) (.tmp 52), none, 96⟩,
  ⟨(some 54), .load 5 (.tmp 53), none, 224⟩,
  ⟨(some 55), .binOp .shl 5 (.tmp 54) (.const (.int .u64 7)) 76, none, 480⟩,
  ⟨(some 56), .binOp .or 5 (.tmp 50) (.tmp 55) 5, none, 1022⟩,
  ⟨(some 57), .indexAddr 22 (.tmp 3) (.tmp 46), none, 1267650600228229401496703207423⟩,
  ⟨none, .store 5 (.tmp 57) (.tmp 56), none, 1267650600228229401496703209471⟩]
def L30r14 : List AOp := [
  ⟨(some 44), .move (.tmp 10), none, 0⟩,
  ⟨(some 45), .binOp .sub 3 (.tmp 44) (.const (.int .i64 1)) 3, none, 0⟩,
  ⟨(some 10), .assign (.tmp 45), none, 0⟩]
def L30r16 : List AOp := [
  ⟨(some 58), .indexAddr 22 (.tmp 3) (.const (.int .i64 0)), none, 0⟩,
  ⟨(some 59), .load 5 (.tmp 58), none, 0⟩,
  ⟨(some 60), .binOp .shr 5 (.tmp 59) (.const (.int .u64 1)) 76, none, 0⟩,
  ⟨(some 61), .move (.tmp 9), none, 0⟩,
  ⟨(some 62), .binOp .and 5 (.const (.int .u8 225)) (.tmp 61) 5, none, 0⟩,
  ⟨(some 63), .binOp .xor 5 (.tmp 60) (.tmp 62) 5, none, 0⟩,
  ⟨(some 64), .indexAddr 22 (.tmp 3) (.const (.int .i64 0)), none, 0⟩,
  ⟨none, .store 5 (.tmp 64) (.tmp 63), none, 0⟩]
def L30r17 : List AOp := [
  ⟨(some 65), .binOp .add 3 (.tmp 11) (.const (.int .i64 1)) 3, none, 0⟩,
  ⟨(some 11), .move (.tmp 65), none, 0⟩]
def L30r18 : List AOp := [
  ⟨(some 66), .load 22 (.tmp 5), none, 0⟩,
  ⟨none, .store 22 (.tmp 4) (.tmp 66), none, 0⟩]
def L30 : LC := (.seq (.region L30r0) (.seq (.region L30r1) (.seq (.seq (.region L30r2) (.block 0 (.loop (.seq (.region L30r3) (.seq (.cond (.tmp 12) .skip (.exit 0)) (.seq (.block 1 (.seq (.region L30r4) (.seq (.region L30r5) (.seq (.seq (.region L30r6) (.block 2 (.loop (.seq (.region L30r7) (.seq (.cond (.tmp 25) .skip (.exit 2)) (.seq (.block 3 (.seq (.region L30r8) (.regionD L30r9))) (.region L30r10))))))) (.seq (.region L30r11) (.seq (.seq (.region L30r12) (.block 4 (.loop (.seq (.seq (.region L30r13) (.cond (.tmp 43) .skip (.exit 4))) (.seq (.block 5 (.regionD L30r15)) (.region L30r14)))))) (.region L30r16))))))) (.region L30r17))))))) (.seq (.region L30r18) .ret))))
theorem nt30 : Try.f30.ntmps = 67 := by kernel_rfl
theorem rs30 : Try.f30.results.toList = [.cell 4 22] := by kernel_rfl
theorem lite30 : Try.f30.body.map (lite okDraw) = some L30 := by kernel_rfl
def L31r0 : List AOp := [
  ⟨(some 0), .alloc 22, none, 0⟩]
def L31r1 : List AOp := [
  ⟨(some 1), .build 22 #[(0, .const (.int .u8 128))], none, 0⟩,
  ⟨none, .store 22 (.tmp 0) (.tmp 1), none, 0⟩]
def L31 : LC := (.seq (.region L31r0) (.seq (.region L31r1) .ret))
theorem nt31 : Try.f31.ntmps = 2 := by kernel_rfl
theorem rs31 : Try.f31.results.toList = [.cell 0 22] := by kernel_rfl
theorem lite31 : Try.f31.body.map (lite okDraw) = some L31 := by kernel_rfl
def L32r0 : List AOp := [
  ⟨(some 2), .box 22 (.tmp 0), none, 0⟩,
  ⟨(some 3), .box 22 (.tmp 1), none, 0⟩,
  ⟨(some 4), .alloc 22, none, 0⟩]
def L32r1 : List AOp := [
  ⟨(some 14), .load 22 (.tmp 2), none, 0⟩,
  ⟨(some 15), .call { callee := .value (.func 60), args := #[.tmp 14], argTypes := #[22] }, none, 0⟩,
  ⟨(some 5), .assign (.tmp 15), none, 0⟩]
def L32r2 : List AOp := [
  ⟨(some 16), .load 22 (.tmp 3), none, 0⟩,
  ⟨(some 17), .call { callee := .value (.func 60), args := #[.tmp 16], argTypes := #[22] }, none, 0⟩,
  ⟨(some 6), .assign (.tmp 17), none, 0⟩]
def L32r3 : List AOp := [
  ⟨(some 18), .makeSlice 78 (.const (.int .i64 256)) (.const (.int .i64 256)), none, 0⟩,
  ⟨(some 7), .assign (.tmp 18), none, 0⟩]
def L32r4 : List AOp := [
  ⟨(some 8), .assign (.const (.int .i64 0)), none, 0⟩]
def L32r5 : List AOp := [
  ⟨(some 19), .move (.tmp 8), none, 0⟩,
  ⟨(some 20), .binOp .lss 3 (.tmp 19) (.const (.int .i64 128)) 3, none, 0⟩]
def L32r7 : List AOp := [
  ⟨(some 9), .assign (.const (.int .i64 0)), none, 0⟩]
def L32r8 : List AOp := [
  ⟨(some 23), .move (.tmp 9), none, 0⟩,
  ⟨(some 24), .binOp .lss 3 (.tmp 23) (.const (.int .i64 128)) 3, none, 0⟩]
def L32r10 : List AOp := [
  ⟨(some 27), .move (.tmp 7), none, 0⟩,
  ⟨(some 28), .move (.tmp 8), none, 0⟩,
  ⟨(some 29), .move (.tmp 9), none, 0⟩,
  ⟨(some 30), .binOp .add 3 (.tmp 28) (.tmp 29) 3, none, 6⟩,
  ⟨(some 31), .move (.tmp 7), none, 0⟩,
  ⟨(some 32), .move (.tmp 8), none, 0⟩,
  ⟨(some 33), .move (.tmp 9), none, 0⟩,
  ⟨(some 34), .binOp .add 3 (.tmp 32) (.tmp 33) 3, none, 96⟩,
  ⟨(some 35), .indexAddr 78 (.tmp 31) (.tmp 34), none, 240⟩,
  ⟨(some 36), .load 3 (.tmp 35), none, 496⟩,
  ⟨(some 37), .move (.tmp 5), none, 0⟩,
  ⟨(some 38), .move (.tmp 8), none, 0⟩,
  ⟨(some 39), .indexAddr 78 (.tmp 37) (.tmp 38), none, 3072⟩,
  ⟨(some 40), .load 3 (.tmp 39), none, 7168⟩,
  ⟨(some 41), .move (.tmp 6), none, 0⟩,
  ⟨(some 42), .move (.tmp 9), none, 0⟩,
  ⟨(some 43), .indexAddr 78 (.tmp 41) (.tmp 42), none, 49152⟩,
  ⟨(some 44), .load 3 (.tmp 43), none, 114688⟩,
  ⟨(some 45), .binOp .mul 3 (.tmp 40) (.tmp 44) 3, none, 261120⟩,
  ⟨(some 46), .binOp .add 3 (.tmp 36) (.tmp 45) 3, none, 524272⟩,
  ⟨(some 47), .indexAddr 78 (.tmp 27) (.tmp 30), none, 1267650600228229401496704253951⟩,
  ⟨none, .store 3 (.tmp 47) (.tmp 46), none, 1267650600228229401496705302527⟩]
def L32r9 : List AOp := [
  ⟨(some 25), .move (.tmp 9), none, 0⟩,
  ⟨(some 26), .binOp .add 3 (.tmp 25) (.const (.int .i64 1)) 3, none, 0⟩,
  ⟨(some 9), .assign (.tmp 26), none, 0⟩]
def L32r6 : List AOp := [
  ⟨(some 21), .move (.tmp 8), none, 0⟩,
  ⟨(some 22), .binOp .add 3 (.tmp 21) (.const (.int .i64 1)) 3, none, 0⟩,
  ⟨(some 8), .assign (.tmp 22), none, 0⟩]
def L32r11 : List AOp := [
  ⟨(some 10), .assign (.const (.int .i64 255)), none, 0⟩]
def L32r12 : List AOp := [
  ⟨(some 48), .move (.tmp 10), none, 0⟩,
  ⟨(some 49), .binOp .geq 3 (.tmp 48) (.const (.int .i64 128)) 3, none, 0⟩]
def L32r14 : List AOp := [
  ⟨(some 52), .move (.tmp 7), none, 0⟩,
  ⟨(some 53), .move (.tmp 10), none, 0⟩,
  ⟨(some 54), .indexAddr 78 (.tmp 52) (.tmp 53), none, 0⟩,
  ⟨(some 55), .load 3 (.tmp 54), none, 0⟩,
  ⟨(some 56), .binOp .rem 3 (.tmp 55) (.const (.int .i64 2)) 3, none, 0⟩,
  ⟨(some 11), .assign (.tmp 56), none, 0⟩]
def L32r15 : List AOp := [
  ⟨(some 57), .move (.tmp 7), none, 0⟩,
  ⟨(some 58), .move (.tmp 10), none, 0⟩,
  ⟨(some 59), .binOp .sub 3 (.tmp 58) (.const (.int .i64 121)) 3, none, 0⟩,
  ⟨(some 60), .move (.tmp 7), none, 0⟩,
  ⟨(some 61), .move (.tmp 10), none, 0⟩,
  ⟨(some 62), .binOp .sub 3 (.tmp 61) (.const (.int .i64 121)) 3, none, 0⟩,
  ⟨(some 63), .indexAddr 78 (.tmp 60) (.tmp 62), none, 0⟩,
  ⟨(some 64), .load 3 (.tmp 63), none, 0⟩,
  ⟨(some 65), .move (.tmp 11), none, 0⟩,
  ⟨(some 66), .binOp .add 3 (.tmp 64) (.tmp 65) 3, none, 0⟩,
  ⟨(some 67), .indexAddr 78 (.tmp 57) (.tmp 59), none, 0⟩,
  ⟨none, .store 3 (.tmp 67) (.tmp 66), none, 0⟩]
def L32r16 : List AOp := [
  ⟨(some 68), .move (.tmp 7), none, 0⟩,
  ⟨(some 69), .move (.tmp 10), none, 0⟩,
  ⟨(some 70), .binOp .sub 3 (.tmp 69) (.const (.int .i64 126)) 3, none, 0⟩,
  ⟨(some 71), .move (.tmp 7), none, 0⟩,
  ⟨(some 72), .move (.tmp 10), none, 0⟩,
  ⟨(some 73), .binOp .sub 3 (.tmp 72) (.const (.int .i64 126)) 3, none, 0⟩,
  ⟨(some 74), .indexAddr 78 (.tmp 71) (.tmp 73), none, 0⟩,
  ⟨(some 75), .load 3 (.tmp 74), none, 0⟩,
  ⟨(some 76), .move (.tmp 11), none, 0⟩,
  ⟨(some 77), .binOp .add 3 (.tmp 75) (.tmp 76) 3, none, 0⟩,
  ⟨(some 78), .indexAddr 78 (.tmp 68) (.tmp 70), none, 0⟩,
  ⟨none, .store 3 (.tmp 78) (.tmp 77), none, 0⟩]
def L32r17 : List AOp := [
  ⟨(some 79), .move (.tmp 7), none, 0⟩,
  ⟨(some 80), .move (.tmp 10), none, 0⟩,
  ⟨(some 81), .binOp .sub 3 (.tmp 80) (.const (.int .i64 127)) 3, none, 0⟩,
  ⟨(some 82), .move (.tmp 7), none, 0⟩,
  ⟨(some 83), .move (.tmp 10), none, 0⟩,
  ⟨(some 84), .binOp .sub 3 (.tmp 83) (.const (.int .i64 127)) 3, none, 0⟩,
  ⟨(some 85), .indexAddr 78 (.tmp 82) (.tmp 84), none, 0⟩,
  ⟨(some 86), .load 3 (.tmp 85), none, 0⟩,
  ⟨(some 87), .move (.tmp 11), none, 0⟩,
  ⟨(some 88), .binOp .add 3 (.tmp 86) (.tmp 87) 3, none, 0⟩,
  ⟨(some 89), .indexAddr 78 (.tmp 79) (.tmp 81), none, 0⟩,
  ⟨none, .store 3 (.tmp 89) (.tmp 88), none, 0⟩]
def L32r18 : List AOp := [
  ⟨(some 90), .move (.tmp 7), none, 0⟩,
  ⟨(some 91), .move (.tmp 10), none, 0⟩,
  ⟨(some 92), .binOp .sub 3 (.tmp 91) (.const (.int .i64 128)) 3, none, 0⟩,
  ⟨(some 93), .move (.tmp 7), none, 0⟩,
  ⟨(some 94), .move (.tmp 10), none, 0⟩,
  ⟨(some 95), .binOp .sub 3 (.tmp 94) (.const (.int .i64 128)) 3, none, 0⟩,
  ⟨(some 96), .indexAddr 78 (.tmp 93) (.tmp 95), none, 0⟩,
  ⟨(some 97), .load 3 (.tmp 96), none, 0⟩,
  ⟨(some 98), .move (.tmp 11), none, 0⟩,
  ⟨(some 99), .binOp .add 3 (.tmp 97) (.tmp 98) 3, none, 0⟩,
  ⟨(some 100), .indexAddr 78 (.tmp 90) (.tmp 92), none, 0⟩,
  ⟨none, .store 3 (.tmp 100) (.tmp 99), none, 0⟩]
def L32r13 : List AOp := [
  ⟨(some 50), .move (.tmp 10), none, 0⟩,
  ⟨(some 51), .binOp .sub 3 (.tmp 50) (.const (.int .i64 1)) 3, none, 0⟩,
  ⟨(some 10), .assign (.tmp 51), none, 0⟩]
def L32r19 : List AOp := [
  ⟨(some 12), .alloc 22, none, 0⟩]
def L32r20 : List AOp := [
  ⟨(some 13), .assign (.const (.int .i64 0)), none, 0⟩]
def L32r21 : List AOp := [
  ⟨(some 101), .move (.tmp 13), none, 0⟩,
  ⟨(some 102), .binOp .lss 3 (.tmp 101) (.const (.int .i64 128)) 3, none, 0⟩]
def L32r23 : List AOp := [
  ⟨(some 105), .move (.tmp 13), none, 0⟩,
  ⟨(some 106), .binOp .quo 3 (.tmp 105) (.const (.int .i64 8)) 3, none, 1⟩,
  ⟨(some 107), .move (.tmp 13), none, 0⟩,
  ⟨(some 108), .binOp .quo 3 (.tmp 107) (.const (.int .i64 8)) 3, none, 4⟩,
  ⟨(some 109), .indexAddr 22 (.tmp 12) (.tmp 108), none, 12⟩,
  ⟨(some 110), .load 5 (.tmp 109), none, 28⟩,
  ⟨(some 111), .move (.tmp 7), none, 0⟩,
  ⟨(some 112), .move (.tmp 13), none, 0⟩,
  ⟨(some 113), .indexAddr 78 (.tmp 111) (.tmp 112), none, 192⟩,
  ⟨(some 114), .load 3 (.tmp 113), none, 448⟩,
  ⟨(some 115), .binOp .rem 3 (.tmp 114) (.const (.int .i64 2)) 3, none, 960⟩,
  ⟨(some 116), .move (.tmp 13), none, 0⟩,
  ⟨(some 117), .binOp .rem 3 (.tmp 116) (.const (.int .i64 8)) 3, none, 2048⟩,
  ⟨(some 118), .binOp .sub 3 (.const (.int .i64 7)) (.tmp 117) 3, none, 6144⟩,
  ⟨(some 119), .binOp .shl 3 (.tmp 115) (.tmp 118) 3, none, 16320⟩,
  ⟨(some 120), .convert 3 5 (.tmp 119), none, 32704⟩,
  ⟨(some 121), .binOp .add 5 (.tmp 110) (.tmp 120) 5, none, 65532⟩,
  ⟨(some 122), .indexAddr 22 (.tmp 12) (.tmp 106), none, 1267650600228229401496703336447⟩,
  ⟨none, .store 5 (.tmp 122) (.tmp 121), none, 1267650600228229401496703467519⟩]
def L32r22 : List AOp := [
  ⟨(some 103), .move (.tmp 13), none, 0⟩,
  ⟨(some 104), .binOp .add 3 (.tmp 103) (.const (.int .i64 1)) 3, none, 0⟩,
  ⟨(some 13), .assign (.tmp 104), none, 0⟩]
def L32r24 : List AOp := [
  ⟨(some 123), .load 22 (.tmp 12), none, 0⟩,
  ⟨none, .store 22 (.tmp 4) (.tmp 123), none, 0⟩]
def L32 : LC := (.seq (.region L32r0) (.seq (.region L32r1) (.seq (.region L32r2) (.seq (.region L32r3) (.seq (.seq (.region L32r4) (.block 0 (.loop (.seq (.seq (.region L32r5) (.cond (.tmp 20) .skip (.exit 0))) (.seq (.block 1 (.seq (.region L32r7) (.block 2 (.loop (.seq (.seq (.region L32r8) (.cond (.tmp 24) .skip (.exit 2))) (.seq (.block 3 (.regionD L32r10)) (.region L32r9))))))) (.region L32r6)))))) (.seq (.seq (.region L32r11) (.block 4 (.loop (.seq (.seq (.region L32r12) (.cond (.tmp 49) .skip (.exit 4))) (.seq (.block 5 (.seq (.region L32r14) (.seq (.region L32r15) (.seq (.region L32r16) (.seq (.region L32r17) (.region L32r18)))))) (.region L32r13)))))) (.seq (.region L32r19) (.seq (.seq (.region L32r20) (.block 6 (.loop (.seq (.seq (.region L32r21) (.cond (.tmp 102) .skip (.exit 6))) (.seq (.block 7 (.regionD L32r23)) (.region L32r22)))))) (.seq (.region L32r24) .ret)))))))))
theorem nt32 : Try.f32.ntmps = 124 := by kernel_rfl
theorem rs32 : Try.f32.results.toList = [.cell 4 22] := by kernel_rfl
theorem lite32 : Try.f32.body.map (lite okDraw) = some L32 := by kernel_rfl
def L33r0 : List AOp := [
  ⟨(some 2), .box 22 (.tmp 0), none, 0⟩,
  ⟨(some 3), .box 22 (.tmp 1), none, 0⟩,
  ⟨(some 4), .alloc 22, none, 0⟩]
def L33r1 : List AOp := [
  ⟨(some 5), .assign (.const (.int .i64 0)), none, 0⟩]
def L33r2 : List AOp := [
  ⟨(some 6), .move (.tmp 5), none, 0⟩,
  ⟨(some 7), .binOp .lss 3 (.tmp 6) (.const (.int .i64 16)) 3, none, 0⟩]
def L33r4 : List AOp := [
  ⟨(some 10), .move (.tmp 5), none, 0⟩,
  ⟨(some 11), .move (.tmp 5), none, 0⟩,
  ⟨(some 12), .indexAddr 22 (.tmp 2) (.tmp 11), none, 2⟩,
  ⟨(some 13), .load 5 (.tmp 12), none, 6⟩,
  ⟨(some 14), .move (.tmp 5), none, 0⟩,
  ⟨(some 15), .indexAddr 22 (.tmp 3) (.tmp 14), none, 16⟩,
  ⟨(some 16), .load 5 (.tmp 15), none, 48⟩,
  ⟨(some 17), .binOp .xor 5 (.tmp 13) (.tmp 16) 5, none, 126⟩,
  ⟨(some 18), .indexAddr 22 (.tmp 2) (.tmp 10), none, 1267650600228229401496703205631⟩,
  ⟨none, .store 5 (.tmp 18) (.tmp 17), none, 1267650600228229401496703205887⟩]
def L33r3 : List AOp := [
  ⟨(some 8), .move (.tmp 5), none, 0⟩,
  ⟨(some 9), .binOp .add 3 (.tmp 8) (.const (.int .i64 1)) 3, none, 0⟩,
  ⟨(some 5), .assign (.tmp 9), none, 0⟩]
def L33r5 : List AOp := [
  ⟨(some 19), .load 22 (.tmp 2), none, 0⟩,
  ⟨none, .store 22 (.tmp 4) (.tmp 19), none, 0⟩]
def L33 : LC := (.seq (.region L33r0) (.seq (.seq (.region L33r1) (.block 0 (.loop (.seq (.seq (.region L33r2) (.cond (.tmp 7) .skip (.exit 0))) (.seq (.block 1 (.regionD L33r4)) (.region L33r3)))))) (.seq (.region L33r5) .ret)))
theorem nt33 : Try.f33.ntmps = 20 := by kernel_rfl
theorem rs33 : Try.f33.results.toList = [.cell 4 22] := by kernel_rfl
theorem lite33 : Try.f33.body.map (lite okDraw) = some L33 := by kernel_rfl
def L60r0 : List AOp := [
  ⟨(some 1), .box 22 (.tmp 0), none, 0⟩,
  ⟨(some 2), .assign (.const (.slice none 0 0)), none, 0⟩]
def L60r1 : List AOp := [
  ⟨(some 3), .assign (.const (.slice none 0 0)), none, 0⟩]
def L60r2 : List AOp := [
  ⟨(some 4), .assign (.const (.int .i64 0)), none, 0⟩]
def L60r3 : List AOp := [
  ⟨(some 5), .move (.tmp 4), none, 0⟩,
  ⟨(some 6), .binOp .lss 3 (.tmp 5) (.const (.int .i64 128)) 3, none, 0⟩]
def L60r5 : List AOp := [
  ⟨(some 9), .move (.tmp 3), none, 0⟩,
  ⟨(some 10), .move (.tmp 4), none, 0⟩,
  ⟨(some 11), .binOp .quo 3 (.tmp 10) (.const (.int .i64 8)) 3, none, 0⟩,
  ⟨(some 12), .indexAddr 22 (.tmp 1) (.tmp 11), none, 0⟩,
  ⟨(some 13), .load 5 (.tmp 12), none, 0⟩,
  ⟨(some 14), .convert 5 3 (.tmp 13), none, 0⟩,
  ⟨(some 15), .move (.tmp 4), none, 0⟩,
  ⟨(some 16), .binOp .rem 3 (.tmp 15) (.const (.int .i64 8)) 3, none, 0⟩,
  ⟨(some 17), .binOp .sub 3 (.const (.int .i64 7)) (.tmp 16) 3, none, 0⟩,
  ⟨(some 18), .binOp .shr 3 (.tmp 14) (.tmp 17) 3, none, 0⟩,
  ⟨(some 19), .binOp .rem 3 (.tmp 18) (.const (.int .i64 2)) 3, none, 0⟩,
  ⟨(some 20), .buildSlice 78 1 #[(0, .tmp 19)], none, 0⟩,
  ⟨(some 21), .call { callee := .builtin .append, args := #[.tmp 9, .tmp 20], argTypes := #[78, 78] }, none, 0⟩,
  ⟨(some 3), .assign (.tmp 21), none, 0⟩]
def L60r4 : List AOp := [
  ⟨(some 7), .move (.tmp 4), none, 0⟩,
  ⟨(some 8), .binOp .add 3 (.tmp 7) (.const (.int .i64 1)) 3, none, 0⟩,
  ⟨(some 4), .assign (.tmp 8), none, 0⟩]
def L60r6 : List AOp := [
  ⟨(some 22), .move (.tmp 3), none, 0⟩,
  ⟨(some 2), .assign (.tmp 22), none, 0⟩]
def L60 : LC := (.seq (.region L60r0) (.seq (.region L60r1) (.seq (.seq (.region L60r2) (.block 0 (.loop (.seq (.seq (.region L60r3) (.cond (.tmp 6) .skip (.exit 0))) (.seq (.block 1 (.region L60r5)) (.region L60r4)))))) (.seq (.region L60r6) .ret))))
theorem nt60 : Try.f60.ntmps = 23 := by kernel_rfl
theorem rs60 : Try.f60.results.toList = [.tmp 2] := by kernel_rfl
theorem lite60 : Try.f60.body.map (lite okDraw) = some L60 := by kernel_rfl
def L10r0 : List AOp := [
  ⟨(some 1), .box 22 (.tmp 0), none, 0⟩,
  ⟨(some 2), .assign (.const (.bool false)), none, 0⟩]
def L10r1 : List AOp := [
  ⟨(some 5), .load 22 (.tmp 1), none, 0⟩,
  ⟨(some 6), .call { callee := .value (.func 36), args := #[.tmp 5], argTypes := #[22] }, none, 0⟩,
  ⟨(some 3), .alloc 22, none, 0⟩,
  ⟨none, .store 22 (.tmp 3) (.tmp 6), none, 0⟩]
def L10r2 : List AOp := [
  ⟨(some 7), .load 22 (.tmp 3), none, 0⟩,
  ⟨(some 8), .call { callee := .value (.func 36), args := #[.tmp 7], argTypes := #[22] }, none, 0⟩,
  ⟨(some 9), .call { callee := .value (.func 36), args := #[.tmp 8], argTypes := #[22] }, none, 0⟩,
  ⟨(some 10), .call { callee := .value (.func 36), args := #[.tmp 9], argTypes := #[22] }, none, 0⟩,
  ⟨(some 4), .alloc 22, none, 0⟩,
  ⟨none, .store 22 (.tmp 4) (.tmp 10), none, 0⟩]
def L10r3 : List AOp := [
  ⟨(some 11), .load 22 (.tmp 3), none, 0⟩,
  ⟨(some 12), .load 22 (.tmp 1), none, 0⟩,
  ⟨(some 13), .call { callee := .value (.func 37), args := #[.tmp 12], argTypes := #[22] }, none, 2⟩,
  ⟨(some 14), .binOp .eql 22 (.tmp 11) (.tmp 13) 22, none, 1267650600228229401496703205383⟩,
  ⟨(some 15), .move (.tmp 14), none, 1267650600228229401496703205391⟩,
  ⟨(some 16), .load 22 (.tmp 4), (some (15, true)), 31⟩,
  ⟨(some 17), .load 22 (.tmp 1), (some (15, true)), 31⟩,
  ⟨(some 18), .binOp .eql 22 (.tmp 16) (.tmp 17) 22, (some (15, true)), 1267650600228229401496703205503⟩,
  ⟨(some 19), .pick (.tmp 15) (.tmp 18) (.const (.bool false)), none, 1267650600228229401496703205631⟩,
  ⟨(some 20), .move (.tmp 19), none, 1267650600228229401496703205887⟩,
  ⟨(some 21), .build 22 #[(0, .const (.int .u8 1))], (some (20, true)), 1267650600228229401496703206399⟩,
  ⟨(some 22), .call { callee := .value (.func 36), args := #[.tmp 21], argTypes := #[22] }, (some (20, true)), 1267650600228229401496703207423⟩,
  ⟨(some 23), .index 22 (.tmp 22) (.const (.int .i64 0)), (some (20, true)), 1267650600228229401496703209471⟩,
  ⟨(some 24), .binOp .eql 5 (.tmp 23) (.const (.int .u8 2)) 5, (some (20, true)), 1267650600228229401496703213567⟩,
  ⟨(some 25), .pick (.tmp 20) (.tmp 24) (.const (.bool false)), none, 1267650600228229401496703221759⟩,
  ⟨(some 2), .assign (.tmp 25), none, 1267650600228229401496703238143⟩]
def L10 : LC := (.seq (.region L10r0) (.seq (.region L10r1) (.seq (.region L10r2) (.seq (.regionD L10r3) .ret))))
theorem nt10 : Try.f10.ntmps = 26 := by kernel_rfl
theorem rs10 : Try.f10.results.toList = [.tmp 2] := by kernel_rfl
theorem lite10 : Try.f10.body.map (lite okDraw) = some L10 := by kernel_rfl
def L36r0 : List AOp := [
  ⟨(some 1), .box 22 (.tmp 0), none, 0⟩,
  ⟨(some 2), .alloc 22, none, 0⟩]
def L36r1 : List AOp := [
  ⟨(some 3), .alloc 22, none, 0⟩]
def L36r2 : List AOp := [
  ⟨(some 7), .move (.const (.int .i64 0)), none, 0⟩]
def L36r3 : List AOp := [
  ⟨(some 8), .binOp .lss 3 (.tmp 7) (.const (.int .i64 4)) 3, none, 0⟩]
def L36r4 : List AOp := [
  ⟨(some 9), .move (.tmp 7), none, 0⟩,
  ⟨(some 4), .alloc 3, none, 0⟩,
  ⟨none, .store 3 (.tmp 4) (.tmp 9), none, 0⟩]
def L36r5 : List AOp := [
  ⟨(some 10), .move (.const (.int .i64 0)), none, 0⟩]
def L36r6 : List AOp := [
  ⟨(some 11), .binOp .lss 3 (.tmp 10) (.const (.int .i64 4)) 3, none, 0⟩]
def L36r7 : List AOp := [
  ⟨(some 12), .move (.tmp 10), none, 0⟩,
  ⟨(some 5), .alloc 3, none, 0⟩,
  ⟨none, .store 3 (.tmp 5) (.tmp 12), none, 0⟩]
def L36r8 : List AOp := [
  ⟨(some 13), .makeFunc (.func 64) #[] #[.tmp 1, .tmp 4, .tmp 5], none, 0⟩,
  ⟨(some 6), .assign (.tmp 13), none, 0⟩]
def L36r9 : List AOp := [
  ⟨(some 14), .load 3 (.tmp 4), none, 0⟩,
  ⟨(some 15), .binOp .mul 3 (.const (.int .i64 4)) (.tmp 14) 3, none, 1⟩,
  ⟨(some 16), .load 3 (.tmp 5), none, 0⟩,
  ⟨(some 17), .binOp .add 3 (.tmp 15) (.tmp 16) 3, none, 7⟩,
  ⟨(some 18), .move (.tmp 6), none, 0⟩,
  ⟨(some 19), .call { callee := .value (.tmp 18), args := #[.const (.int .i64 0)], argTypes := #[3] }, none, 16⟩,
  ⟨(some 20), .call { callee := .value (.func 25), args := #[.const (.int .u8 2), .tmp 19], argTypes := #[5, 5] }, none, 48⟩,
  ⟨(some 21), .move (.tmp 6), none, 0⟩,
  ⟨(some 22), .call { callee := .value (.tmp 21), args := #[.const (.int .i64 1)], argTypes := #[3] }, none, 240⟩,
  ⟨(some 23), .call { callee := .value (.func 25), args := #[.const (.int .u8 3), .tmp 22], argTypes := #[5, 5] }, none, 496⟩,
  ⟨(some 24), .binOp .xor 5 (.tmp 20) (.tmp 23) 5, none, 1008⟩,
  ⟨(some 25), .move (.tmp 6), none, 0⟩,
  ⟨(some 26), .call { callee := .value (.tmp 25), args := #[.const (.int .i64 2)], argTypes := #[3] }, none, 3056⟩,
  ⟨(some 27), .binOp .xor 5 (.tmp 24) (.tmp 26) 5, none, 8176⟩,
  ⟨(some 28), .move (.tmp 6), none, 0⟩,
  ⟨(some 29), .call { callee := .value (.tmp 28), args := #[.const (.int .i64 3)], argTypes := #[3] }, none, 23536⟩,
  ⟨(some 30), .binOp .xor 5 (.tmp 27) (.tmp 29) 5, none, 65520⟩,
  ⟨(some 31), .indexAddr 22 (.tmp 3) (.tmp 17), none, 1267650600228229401496703336447⟩,
  ⟨none, .store 5 (.tmp 31) (.tmp 30), none, 1267650600228229401496703467519⟩]
def L36r10 : List AOp := [
  ⟨(some 32), .binOp .add 3 (.tmp 10) (.const (.int .i64 1)) 3, none, 0⟩,
  ⟨(some 10), .move (.tmp 32), none, 0⟩]
def L36r11 : List AOp := [
  ⟨(some 33), .binOp .add 3 (.tmp 7) (.const (.int .i64 1)) 3, none, 0⟩,
  ⟨(some 7), .move (.tmp 33), none, 0⟩]
def L36r12 : List AOp := [
  ⟨(some 34), .load 22 (.tmp 3), none, 0⟩,
  ⟨none, .store 22 (.tmp 2) (.tmp 34), none, 0⟩]
def L36 : LC := (.seq (.region L36r0) (.seq (.region L36r1) (.seq (.seq (.region L36r2) (.block 0 (.loop (.seq (.region L36r3) (.seq (.cond (.tmp 8) .skip (.exit 0)) (.seq (.block 1 (.seq (.region L36r4) (.seq (.region L36r5) (.block 2 (.loop (.seq (.region L36r6) (.seq (.cond (.tmp 11) .skip (.exit 2)) (.seq (.block 3 (.seq (.region L36r7) (.seq (.region L36r8) (.regionD L36r9)))) (.region L36r10))))))))) (.region L36r11))))))) (.seq (.region L36r12) .ret))))
theorem nt36 : Try.f36.ntmps = 35 := by kernel_rfl
theorem rs36 : Try.f36.results.toList = [.cell 2 22] := by kernel_rfl
theorem lite36 : Try.f36.body.map (lite okDraw) = some L36 := by kernel_rfl
def L37r0 : List AOp := [
  ⟨(some 1), .box 22 (.tmp 0), none, 0⟩,
  ⟨(some 2), .alloc 22, none, 0⟩]
def L37r1 : List AOp := [
  ⟨(some 8), .buildSlice 27 4 #[(0, .const (.int .u8 2)), (1, .const (.int .u8 3)), (2, .const (.int .u8 1)), (3, .const (.int .u8 1))], none, 0⟩,
  ⟨(some 9), .buildSlice 27 4 #[(0, .const (.int .u8 1)), (1, .const (.int .u8 2)), (2, .const (.int .u8 3)), (3, .const (.int .u8 1))], none, 0⟩,
  ⟨(some 10), .buildSlice 27 4 #[(0, .const (.int .u8 1)), (1, .const (.int .u8 1)), (2, .const (.int .u8 2)), (3, .const (.int .u8 3))], none, 0⟩,
  ⟨(some 11), .buildSlice 27 4 #[(0, .const (.int .u8 3)), (1, .const (.int .u8 1)), (2, .const (.int .u8 1)), (3, .const (.int .u8 2))], none, 0⟩,
  ⟨(some 12), .buildSlice 85 4 #[(0, .tmp 8), (1, .tmp 9), (2, .tmp 10), (3, .tmp 11)], none, 0⟩,
  ⟨(some 3), .assign (.tmp 12), none, 0⟩]
def L37r2 : List AOp := [
  ⟨(some 4), .alloc 22, none, 0⟩]
def L37r3 : List AOp := [
  ⟨(some 5), .assign (.const (.int .i64 0)), none, 0⟩]
def L37r4 : List AOp := [
  ⟨(some 13), .move (.tmp 5), none, 0⟩,
  ⟨(some 14), .binOp .lss 3 (.tmp 13) (.const (.int .i64 4)) 3, none, 0⟩]
def L37r6 : List AOp := [
  ⟨(some 6), .assign (.const (.int .i64 0)), none, 0⟩]
def L37r7 : List AOp := [
  ⟨(some 17), .move (.tmp 6), none, 0⟩,
  ⟨(some 18), .binOp .lss 3 (.tmp 17) (.const (.int .i64 4)) 3, none, 0⟩]
def L37r9 : List AOp := [
  ⟨(some 7), .assign (.const (.int .i64 0)), none, 0⟩]
def L37r10 : List AOp := [
  ⟨(some 21), .move (.tmp 7), none, 0⟩,
  ⟨(some 22), .binOp .lss 3 (.tmp 21) (.const (.int .i64 4)) 3, none, 0⟩]
def L37r12 : List AOp := [
  ⟨(some 25), .move (.tmp 5), none, 0⟩,
  ⟨(some 26), .binOp .mul 3 (.const (.int .i64 4)) (.tmp 25) 3, none, 1⟩,
  ⟨(some 27), .move (.tmp 6), none, 0⟩,
  ⟨(some 28), .binOp .add 3 (.tmp 26) (.tmp 27) 3, none, 7⟩,
  ⟨(some 29), .move (.tmp 5), none, 0⟩,
  ⟨(some 30), .binOp .mul 3 (.const (.int .i64 4)) (.tmp 29) 3, none, 16⟩,
  ⟨(some 31), .move (.tmp 6), none, 0⟩,
  ⟨(some 32), .binOp .add 3 (.tmp 30) (.tmp 31) 3, none, 112⟩,
  ⟨(some 33), .indexAddr 22 (.tmp 4) (.tmp 32), none, 240⟩,
  ⟨(some 34), .load 5 (.tmp 33), none, 496⟩,
  ⟨(some 35), .move (.tmp 3), none, 0⟩,
  ⟨(some 36), .move (.tmp 6), none, 0⟩,
  ⟨(some 37), .indexAddr 85 (.tmp 35) (.tmp 36), none, 3072⟩,
  ⟨(some 38), .load 27 (.tmp 37), none, 7168⟩,
  ⟨(some 39), .move (.tmp 7), none, 0⟩,
  ⟨(some 40), .indexAddr 27 (.tmp 38) (.tmp 39), none, 31744⟩,
  ⟨(some 41), .load 5 (.tmp 40), none, 64512⟩,
  ⟨(some 42), .move (.tmp 5), none, 0⟩,
  ⟨(some 43), .binOp .mul 3 (.const (.int .i64 4)) (.tmp 42) 3, none, 131072⟩,
  ⟨(some 44), .move (.tmp 7), none, 0⟩,
  ⟨(some 45), .binOp .add 3 (.tmp 43) (.tmp 44) 3, none, 917504⟩,
  ⟨(some 46), .indexAddr 22 (.tmp 1) (.tmp 45), none, 1966080⟩,
  ⟨(some 47), .load 5 (.tmp 46), none, 4063232⟩,
  ⟨(some 48), .call { callee := .value (.func 26), args := #[.tmp 41, .tmp 47], argTypes := #[5, 5] }, none, 8387584⟩,
  ⟨(some 49), .binOp .xor 5 (.tmp 34) (.tmp 48) 5, none, 16777200⟩,
  ⟨(some 50), .indexAddr 22 (.tmp 4) (.tmp 28), none, 1267650600228229401496736759807⟩,
  ⟨none, .store 5 (.tmp 50) (.tmp 49), none, 1267650600228229401496770314239⟩]
def L37r11 : List AOp := [
  ⟨(some 23), .move (.tmp 7), none, 0⟩,
  ⟨(some 24), .binOp .add 3 (.tmp 23) (.const (.int .i64 1)) 3, none, 0⟩,
  ⟨(some 7), .assign (.tmp 24), none, 0⟩]
def L37r8 : List AOp := [
  ⟨(some 19), .move (.tmp 6), none, 0⟩,
  ⟨(some 20), .binOp .add 3 (.tmp 19) (.const (.int .i64 1)) 3, none, 0⟩,
  ⟨(some 6), .assign (.tmp 20), none, 0⟩]
def L37r5 : List AOp := [
  ⟨(some 15), .move (.tmp 5), none, 0⟩,
  ⟨(some 16), .binOp .add 3 (.tmp 15) (.const (.int .i64 1)) 3, none, 0⟩,
  ⟨(some 5), .assign (.tmp 16), none, 0⟩]
def L37r13 : List AOp := [
  ⟨(some 51), .load 22 (.tmp 4), none, 0⟩,
  ⟨none, .store 22 (.tmp 2) (.tmp 51), none, 0⟩]
def L37 : LC := (.seq (.region L37r0) (.seq (.region L37r1) (.seq (.region L37r2) (.seq (.seq (.region L37r3) (.block 0 (.loop (.seq (.seq (.region L37r4) (.cond (.tmp 14) .skip (.exit 0))) (.seq (.block 1 (.seq (.region L37r6) (.block 2 (.loop (.seq (.seq (.region L37r7) (.cond (.tmp 18) .skip (.exit 2))) (.seq (.block 3 (.seq (.region L37r9) (.block 4 (.loop (.seq (.seq (.region L37r10) (.cond (.tmp 22) .skip (.exit 4))) (.seq (.block 5 (.regionD L37r12)) (.region L37r11))))))) (.region L37r8))))))) (.region L37r5)))))) (.seq (.region L37r13) .ret)))))
theorem nt37 : Try.f37.ntmps = 52 := by kernel_rfl
theorem rs37 : Try.f37.results.toList = [.cell 2 22] := by kernel_rfl
theorem lite37 : Try.f37.body.map (lite okDraw) = some L37 := by kernel_rfl
def L64r0 : List AOp := [
  ⟨(some 5), .assign (.const (.int .u8 0)), none, 0⟩]
def L64r1 : List AOp := [
  ⟨(some 6), .load 3 (.tmp 2), none, 0⟩,
  ⟨(some 7), .binOp .mul 3 (.const (.int .i64 4)) (.tmp 6) 3, none, 0⟩,
  ⟨(some 8), .load 3 (.tmp 3), none, 0⟩,
  ⟨(some 9), .move (.tmp 0), none, 0⟩,
  ⟨(some 10), .binOp .add 3 (.tmp 8) (.tmp 9) 3, none, 0⟩,
  ⟨(some 11), .binOp .rem 3 (.tmp 10) (.const (.int .i64 4)) 3, none, 0⟩,
  ⟨(some 12), .binOp .add 3 (.tmp 7) (.tmp 11) 3, none, 0⟩,
  ⟨(some 13), .indexAddr 22 (.tmp 1) (.tmp 12), none, 0⟩,
  ⟨(some 14), .load 5 (.tmp 13), none, 0⟩,
  ⟨(some 5), .assign (.tmp 14), none, 0⟩]
def L64 : LC := (.seq (.region L64r0) (.seq (.region L64r1) .ret))
theorem nt64 : Try.f64.ntmps = 15 := by kernel_rfl
theorem rs64 : Try.f64.results.toList = [.tmp 5] := by kernel_rfl
theorem lite64 : Try.f64.body.map (lite okDraw) = some L64 := by kernel_rfl
def L11r0 : List AOp := [
  ⟨(some 2), .assign (.const (.bool false)), none, 0⟩]
def L11r1 : List AOp := [
  ⟨(some 3), .call { callee := .value (.func 38), args := #[.const (.int .u8 0)], argTypes := #[5] }, none, 0⟩,
  ⟨(some 4), .binOp .eql 5 (.tmp 3) (.const (.int .u8 99)) 5, none, 0⟩,
  ⟨(some 5), .move (.tmp 4), none, 0⟩,
  ⟨(some 6), .move (.tmp 0), (some (5, true)), 0⟩,
  ⟨(some 7), .call { callee := .value (.func 38), args := #[.tmp 6], argTypes := #[5] }, (some (5, true)), 0⟩,
  ⟨(some 8), .move (.tmp 0), (some (5, true)), 0⟩,
  ⟨(some 9), .call { callee := .value (.func 39), args := #[.tmp 8], argTypes := #[5] }, (some (5, true)), 0⟩,
  ⟨(some 10), .binOp .eql 5 (.tmp 7) (.tmp 9) 5, (some (5, true)), 0⟩,
  ⟨(some 11), .pick (.tmp 5) (.tmp 10) (.const (.bool false)), none, 0⟩,
  ⟨(some 2), .assign (.tmp 11), none, 0⟩]
def L11 : LC := (.seq (.region L11r0) (.seq (.region L11r1) .ret))
theorem nt11 : Try.f11.ntmps = 12 := by kernel_rfl
theorem rs11 : Try.f11.results.toList = [.tmp 2] := by kernel_rfl
theorem lite11 : Try.f11.body.map (lite okDraw) = some L11 := by kernel_rfl
def L38r0 : List AOp := [
  ⟨(some 2), .assign (.const (.int .u8 0)), none, 0⟩]
def L38r1 : List AOp := [
  ⟨(some 5), .move (.tmp 0), none, 0⟩,
  ⟨(some 3), .assign (.const (.int .u8 1)), none, 0⟩,
  ⟨(some 4), .assign (.tmp 5), none, 0⟩]
def L38r2 : List AOp := [
  ⟨(some 6), .move (.const (.int .i64 0)), none, 0⟩]
def L38r3 : List AOp := [
  ⟨(some 7), .binOp .lss 3 (.tmp 6) (.const (.int .i64 7)) 3, none, 0⟩]
def L38r4 : List AOp := [
  ⟨(some 8), .move (.tmp 4), none, 0⟩,
  ⟨(some 9), .move (.tmp 4), none, 0⟩,
  ⟨(some 10), .call { callee := .value (.func 25), args := #[.tmp 8, .tmp 9], argTypes := #[5, 5] }, none, 0⟩,
  ⟨(some 4), .assign (.tmp 10), none, 0⟩]
def L38r5 : List AOp := [
  ⟨(some 11), .move (.tmp 3), none, 0⟩,
  ⟨(some 12), .move (.tmp 4), none, 0⟩,
  ⟨(some 13), .call { callee := .value (.func 25), args := #[.tmp 11, .tmp 12], argTypes := #[5, 5] }, none, 0⟩,
  ⟨(some 3), .assign (.tmp 13), none, 0⟩]
def L38r6 : List AOp := [
  ⟨(some 14), .binOp .add 3 (.tmp 6) (.const (.int .i64 1)) 3, none, 0⟩,
  ⟨(some 6), .move (.tmp 14), none, 0⟩]
def L38r7 : List AOp := [
  ⟨(some 15), .move (.tmp 3), none, 0⟩,
  ⟨(some 16), .move (.tmp 3), none, 0⟩,
  ⟨(some 17), .call { callee := .value (.func 65), args := #[.tmp 16, .const (.int .i64 1)], argTypes := #[5, 3] }, none, 0⟩,
  ⟨(some 18), .binOp .xor 5 (.tmp 15) (.tmp 17) 5, none, 0⟩,
  ⟨(some 19), .move (.tmp 3), none, 0⟩,
  ⟨(some 20), .call { callee := .value (.func 65), args := #[.tmp 19, .const (.int .i64 2)], argTypes := #[5, 3] }, none, 0⟩,
  ⟨(some 21), .binOp .xor 5 (.tmp 18) (.tmp 20) 5, none, 0⟩,
  ⟨(some 22), .move (.tmp 3), none, 0⟩,
  ⟨(some 23), .call { callee := .value (.func 65), args := #[.tmp 22, .const (.int .i64 3)], argTypes := #[5, 3] }, none, 0⟩,
  ⟨(some 24), .binOp .xor 5 (.tmp 21) (.tmp 23) 5, none, 0⟩,
  ⟨(some 25), .move (.tmp 3), none, 0⟩,
  ⟨(some 26), .call { callee := .value (.func 65), args := #[.tmp 25, .const (.int .i64 4)], argTypes := #[5, 3] }, none, 0⟩,
  ⟨(some 27), .binOp .xor 5 (.tmp 24) (.tmp 26) 5, none, 0⟩,
  ⟨(some 28), .binOp .xor 5 (.tmp 27) (.const (.int .u8 99)) 5, none, 0⟩,
  ⟨(some 2), .assign (.tmp 28), none, 0⟩]
def L38 : LC := (.seq (.region L38r0) (.seq (.region L38r1) (.seq (.seq (.region L38r2) (.block 0 (.loop (.seq (.region L38r3) (.seq (.cond (.tmp 7) .skip (.exit 0)) (.seq (.block 1 (.seq (.region L38r4) (.region L38r5))) (.region L38r6))))))) (.seq (.region L38r7) .ret))))
theorem nt38 : Try.f38.ntmps = 29 := by kernel_rfl
theorem rs38 : Try.f38.results.toList = [.tmp 2] := by kernel_rfl
theorem lite38 : Try.f38.body.map (lite okDraw) = some L38 := by kernel_rfl
def L39r0 : List AOp := [
  ⟨(some 2), .assign (.const (.int .u8 0)), none, 0⟩]
def L39r1 : List AOp := [
  ⟨(some 3), .assign (.const (.int .u8 0)), none, 0⟩]
def L39r2 : List AOp := [
  ⟨(some 4), .assign (.const (.int .i64 1)), none, 0⟩]
def L39r3 : List AOp := [
  ⟨(some 8), .move (.tmp 4), none, 0⟩,
  ⟨(some 9), .binOp .lss 3 (.tmp 8) (.const (.int .i64 256)) 3, none, 0⟩]
def L39r5 : List AOp := [
  ⟨(some 12), .move (.tmp 0), none, 0⟩,
  ⟨(some 13), .move (.tmp 4), none, 0⟩,
  ⟨(some 14), .convert 3 5 (.tmp 13), none, 0⟩,
  ⟨(some 15), .call { callee := .value (.func 26), args := #[.tmp 12, .tmp 14], argTypes := #[5, 5] }, none, 0⟩,
  ⟨(some 16), .binOp .eql 5 (.tmp 15) (.const (.int .u8 1)) 5, none, 0⟩]
def L39r6 : List AOp := [
  ⟨(some 17), .move (.tmp 4), none, 0⟩,
  ⟨(some 18), .convert 3 5 (.tmp 17), none, 0⟩,
  ⟨(some 3), .assign (.tmp 18), none, 0⟩]
def L39r4 : List AOp := [
  ⟨(some 10), .move (.tmp 4), none, 0⟩,
  ⟨(some 11), .binOp .add 3 (.tmp 10) (.const (.int .i64 1)) 3, none, 0⟩,
  ⟨(some 4), .assign (.tmp 11), none, 0⟩]
def L39r7 : List AOp := [
  ⟨(some 5), .assign (.const (.int .i64 0)), none, 0⟩]
def L39r8 : List AOp := [
  ⟨(some 6), .assign (.const (.int .i64 0)), none, 0⟩]
def L39r9 : List AOp := [
  ⟨(some 19), .move (.tmp 6), none, 0⟩,
  ⟨(some 20), .binOp .lss 3 (.tmp 19) (.const (.int .i64 8)) 3, none, 0⟩]
def L39r11 : List AOp := [
  ⟨(some 23), .move (.tmp 6), none, 0⟩,
  ⟨(some 24), .binOp .shr 3 (.const (.int .i64 99)) (.tmp 23) 3, none, 0⟩,
  ⟨(some 25), .binOp .rem 3 (.tmp 24) (.const (.int .i64 2)) 3, none, 0⟩,
  ⟨(some 7), .assign (.tmp 25), none, 0⟩]
def L39r12 : List AOp := [
  ⟨(some 26), .move (.tmp 7), none, 0⟩,
  ⟨(some 27), .move (.tmp 3), none, 0⟩,
  ⟨(some 28), .convert 5 3 (.tmp 27), none, 0⟩,
  ⟨(some 29), .move (.tmp 6), none, 0⟩,
  ⟨(some 30), .binOp .shr 3 (.tmp 28) (.tmp 29) 3, none, 0⟩,
  ⟨(some 31), .binOp .rem 3 (.tmp 30) (.const (.int .i64 2)) 3, none, 0⟩,
  ⟨(some 32), .binOp .add 3 (.tmp 26) (.tmp 31) 3, none, 0⟩,
  ⟨(some 7), .assign (.tmp 32), none, 0⟩]
def L39r13 : List AOp := [
  ⟨(some 33), .move (.tmp 7), none, 0⟩,
  ⟨(some 34), .move (.tmp 3), none, 0⟩,
  ⟨(some 35), .convert 5 3 (.tmp 34), none, 0⟩,
  ⟨(some 36), .move (.tmp 6), none, 0⟩,
  ⟨(some 37), .binOp .add 3 (.tmp 36) (.const (.int .i64 4)) 3, none, 0⟩,
  ⟨(some 38), .binOp .rem 3 (.tmp 37) (.const (.int .i64 8)) 3, none, 0⟩,
  ⟨(some 39), .binOp .shr 3 (.tmp 35) (.tmp 38) 3, none, 0⟩,
  ⟨(some 40), .binOp .rem 3 (.tmp 39) (.const (.int .i64 2)) 3, none, 0⟩,
  ⟨(some 41), .binOp .add 3 (.tmp 33) (.tmp 40) 3, none, 0⟩,
  ⟨(some 7), .assign (.tmp 41), none, 0⟩]
def L39r14 : List AOp := [
  ⟨(some 42), .move (.tmp 7), none, 0⟩,
  ⟨(some 43), .move (.tmp 3), none, 0⟩,
  ⟨(some 44), .convert 5 3 (.tmp 43), none, 0⟩,
  ⟨(some 45), .move (.tmp 6), none, 0⟩,
  ⟨(some 46), .binOp .add 3 (.tmp 45) (.const (.int .i64 5)) 3, none, 0⟩,
  ⟨(some 47), .binOp .rem 3 (.tmp 46) (.const (.int .i64 8)) 3, none, 0⟩,
  ⟨(some 48), .binOp .shr 3 (.tmp 44) (.tmp 47) 3, none, 0⟩,
  ⟨(some 49), .binOp .rem 3 (.tmp 48) (.const (.int .i64 2)) 3, none, 0⟩,
  ⟨(some 50), .binOp .add 3 (.tmp 42) (.tmp 49) 3, none, 0⟩,
  ⟨(some 7), .assign (.tmp 50), none, 0⟩]
def L39r15 : List AOp := [
  ⟨(some 51), .move (.tmp 7), none, 0⟩,
  ⟨(some 52), .move (.tmp 3), none, 0⟩,
  ⟨(some 53), .convert 5 3 (.tmp 52), none, 0⟩,
  ⟨(some 54), .move (.tmp 6), none, 0⟩,
  ⟨(some 55), .binOp .add 3 (.tmp 54) (.const (.int .i64 6)) 3, none, 0⟩,
  ⟨(some 56), .binOp .rem 3 (.tmp 55) (.const (.int .i64 8)) 3, none, 0⟩,
  ⟨(some 57), .binOp .shr 3 (.tmp 53) (.tmp 56) 3, none, 0⟩,
  ⟨(some 58), .binOp .rem 3 (.tmp 57) (.const (.int .i64 2)) 3, none, 0⟩,
  ⟨(some 59), .binOp .add 3 (.tmp 51) (.tmp 58) 3, none, 0⟩,
  ⟨(some 7), .assign (.tmp 59), none, 0⟩]
def L39r16 : List AOp := [
  ⟨(some 60), .move (.tmp 7), none, 0⟩,
  ⟨(some 61), .move (.tmp 3), none, 0⟩,
  ⟨(some 62), .convert 5 3 (.tmp 61), none, 0⟩,
  ⟨(some 63), .move (.tmp 6), none, 0⟩,
  ⟨(some 64), .binOp .add 3 (.tmp 63) (.const (.int .i64 7)) 3, none, 0⟩,
  ⟨(some 65), .binOp .rem 3 (.tmp 64) (.const (.int .i64 8)) 3, none, 0⟩,
  ⟨(some 66), .binOp .shr 3 (.tmp 62) (.tmp 65) 3, none, 0⟩,
  ⟨(some 67), .binOp .rem 3 (.tmp 66) (.const (.int .i64 2)) 3, none, 0⟩,
  ⟨(some 68), .binOp .add 3 (.tmp 60) (.tmp 67) 3, none, 0⟩,
  ⟨(some 7), .assign (.tmp 68), none, 0⟩]
def L39r17 : List AOp := [
  ⟨(some 69), .move (.tmp 5), none, 0⟩,
  ⟨(some 70), .move (.tmp 7), none, 0⟩,
  ⟨(some 71), .binOp .rem 3 (.tmp 70) (.const (.int .i64 2)) 3, none, 0⟩,
  ⟨(some 72), .move (.tmp 6), none, 0⟩,
  ⟨(some 73), .binOp .shl 3 (.tmp 71) (.tmp 72) 3, none, 0⟩,
  ⟨(some 74), .binOp .add 3 (.tmp 69) (.tmp 73) 3, none, 0⟩,
  ⟨(some 5), .assign (.tmp 74), none, 0⟩]
def L39r10 : List AOp := [
  ⟨(some 21), .move (.tmp 6), none, 0⟩,
  ⟨(some 22), .binOp .add 3 (.tmp 21) (.const (.int .i64 1)) 3, none, 0⟩,
  ⟨(some 6), .assign (.tmp 22), none, 0⟩]
def L39r18 : List AOp := [
  ⟨(some 75), .move (.tmp 5), none, 0⟩,
  ⟨(some 76), .convert 3 5 (.tmp 75), none, 0⟩,
  ⟨(some 2), .assign (.tmp 76), none, 0⟩]
def L39 : LC := (.seq (.region L39r0) (.seq (.region L39r1) (.seq (.seq (.region L39r2) (.block 0 (.loop (.seq (.seq (.region L39r3) (.cond (.tmp 9) .skip (.exit 0))) (.seq (.block 1 (.seq (.region L39r5) (.cond (.tmp 16) (.region L39r6) .skip))) (.region L39r4)))))) (.seq (.region L39r7) (.seq (.seq (.region L39r8) (.block 2 (.loop (.seq (.seq (.region L39r9) (.cond (.tmp 20) .skip (.exit 2))) (.seq (.block 3 (.seq (.region L39r11) (.seq (.region L39r12) (.seq (.region L39r13) (.seq (.region L39r14) (.seq (.region L39r15) (.seq (.region L39r16) (.region L39r17)))))))) (.region L39r10)))))) (.seq (.region L39r18) .ret))))))
theorem nt39 : Try.f39.ntmps = 77 := by kernel_rfl
theorem rs39 : Try.f39.results.toList = [.tmp 2] := by kernel_rfl
theorem lite39 : Try.f39.body.map (lite okDraw) = some L39 := by kernel_rfl
def L65r0 : List AOp := [
  ⟨(some 4), .assign (.const (.int .u8 0)), none, 0⟩]
def L65r1 : List AOp := [
  ⟨(some 6), .move (.tmp 1), none, 0⟩,
  ⟨(some 7), .convert 3 76 (.tmp 6), none, 0⟩,
  ⟨(some 8), .binOp .and 76 (.tmp 7) (.const (.int .u64 7)) 76, none, 0⟩,
  ⟨(some 5), .assign (.tmp 8), none, 0⟩]
def L65r2 : List AOp := [
  ⟨(some 9), .move (.tmp 0), none, 0⟩,
  ⟨(some 10), .move (.tmp 5), none, 0⟩,
  ⟨(some 11), .binOp .shl 5 (.tmp 9) (.tmp 10) 76, none, 0⟩,
  ⟨(some 12), .move (.tmp 0), none, 0⟩,
  ⟨(some 13), .move (.tmp 5), none, 0⟩,
  ⟨(some 14), .binOp .sub 76 (.const (.int .u64 8)) (.tmp 13) 76, none, 0⟩,
  ⟨(some 15), .binOp .shr 5 (.tmp 12) (.tmp 14) 76, none, 0⟩,
  ⟨(some 16), .binOp .or 5 (.tmp 11) (.tmp 15) 5, none, 0⟩,
  ⟨(some 4), .assign (.tmp 16), none, 0⟩]
def L65 : LC := (.seq (.region L65r0) (.seq (.region L65r1) (.seq (.region L65r2) .ret)))
theorem nt65 : Try.f65.ntmps = 17 := by kernel_rfl
theorem rs65 : Try.f65.results.toList = [.tmp 4] := by kernel_rfl
theorem lite65 : Try.f65.body.map (lite okDraw) = some L65 := by kernel_rfl
def L9r0 : List AOp := [
  ⟨(some 2), .assign (.const (.bool false)), none, 0⟩]
def L9r1 : List AOp := [
  ⟨(some 8), .call { callee := .value (.func 34), args := #[.const (.int .i64 0)], argTypes := #[3] }, none, 0⟩,
  ⟨(some 7), .move (.tmp 8), none, 0⟩,
  ⟨(some 9), .extract (.tmp 7) 0, none, 0⟩,
  ⟨(some 10), .extract (.tmp 7) 1, none, 0⟩,
  ⟨(some 3), .assign (.tmp 9), none, 0⟩,
  ⟨(some 4), .assign (.tmp 10), none, 0⟩]
def L9r2 : List AOp := [
  ⟨(some 12), .move (.tmp 0), none, 0⟩,
  ⟨(some 13), .call { callee := .value (.func 34), args := #[.tmp 12], argTypes := #[3] }, none, 0⟩,
  ⟨(some 11), .move (.tmp 13), none, 0⟩,
  ⟨(some 14), .extract (.tmp 11) 0, none, 0⟩,
  ⟨(some 15), .extract (.tmp 11) 1, none, 0⟩,
  ⟨(some 5), .assign (.tmp 14), none, 0⟩,
  ⟨(some 6), .assign (.tmp 15), none, 0⟩]
def L9r3 : List AOp := [
  ⟨(some 16), .move (.tmp 3), none, 0⟩,
  ⟨(some 17), .call { callee := .builtin .len, args := #[.tmp 16], argTypes := #[27] }, none, 0⟩,
  ⟨(some 18), .binOp .neq 3 (.tmp 17) (.const (.int .i64 128)) 3, none, 0⟩,
  ⟨(some 19), .move (.tmp 18), none, 0⟩,
  ⟨(some 20), .move (.tmp 4), (some (19, false)), 0⟩,
  ⟨(some 21), .binOp .neq 38 (.tmp 20) (.const .nilIface) 38, (some (19, false)), 0⟩,
  ⟨(some 22), .pick (.tmp 19) (.const (.bool true)) (.tmp 21), none, 0⟩]
def L9r4 : List AOp := [
  ⟨(some 2), .assign (.const (.bool false)), none, 0⟩]
def L9r5 : List AOp := [
  ⟨(some 23), .move (.tmp 0), none, 0⟩,
  ⟨(some 24), .binOp .lss 3 (.tmp 23) (.const (.int .i64 0)) 3, none, 0⟩,
  ⟨(some 25), .move (.tmp 24), none, 0⟩,
  ⟨(some 26), .move (.tmp 0), (some (25, false)), 0⟩,
  ⟨(some 27), .binOp .gtr 3 (.tmp 26) (.const (.int .i64 1125899906842624)) 3, (some (25, false)), 0⟩,
  ⟨(some 28), .pick (.tmp 25) (.const (.bool true)) (.tmp 27), none, 0⟩]
def L9r6 : List AOp := [
  ⟨(some 29), .move (.tmp 6), none, 0⟩,
  ⟨(some 30), .makeInterface 41 (.const (.int .i64 1)), none, 0⟩,
  ⟨(some 31), .binOp .eql 38 (.tmp 29) (.tmp 30) 38, none, 0⟩,
  ⟨(some 32), .move (.tmp 31), none, 0⟩,
  ⟨(some 33), .move (.tmp 5), (some (32, true)), 0⟩,
  ⟨(some 34), .call { callee := .builtin .len, args := #[.tmp 33], argTypes := #[27] }, (some (32, true)), 0⟩,
  ⟨(some 35), .binOp .eql 3 (.tmp 34) (.const (.int .i64 0)) 3, (some (32, true)), 0⟩,
  ⟨(some 36), .pick (.tmp 32) (.tmp 35) (.const (.bool false)), none, 0⟩,
  ⟨(some 2), .assign (.tmp 36), none, 0⟩]
def L9r7 : List AOp := [
  ⟨(some 37), .move (.tmp 6), none, 1267650600228229401496703205376⟩,
  ⟨(some 38), .binOp .eql 38 (.tmp 37) (.const .nilIface) 38, none, 1267650600228229401496703205377⟩,
  ⟨(some 39), .move (.tmp 38), none, 1267650600228229401496703205379⟩,
  ⟨(some 40), .move (.tmp 5), (some (39, true)), 7⟩,
  ⟨(some 41), .convert 27 9 (.tmp 40), (some (39, true)), 15⟩,
  ⟨(some 42), .move (.tmp 0), (some (39, true)), 7⟩,
  ⟨(some 43), .call { callee := .value (.func 35), args := #[.tmp 42], argTypes := #[3] }, (some (39, true)), 39⟩,
  ⟨(some 44), .convert 27 9 (.tmp 43), (some (39, true)), 103⟩,
  ⟨(some 45), .binOp .eql 9 (.tmp 41) (.tmp 44) 9, (some (39, true)), 1267650600228229401496703205631⟩,
  ⟨(some 46), .pick (.tmp 39) (.tmp 45) (.const (.bool false)), none, 1267650600228229401496703205887⟩,
  ⟨(some 47), .move (.tmp 46), none, 1267650600228229401496703206399⟩,
  ⟨(some 48), .move (.tmp 0), (some (47, true)), 2047⟩,
  ⟨(some 49), .move (.tmp 5), (some (47, true)), 2047⟩,
  ⟨(some 50), .call { callee := .builtin .len, args := #[.tmp 49], argTypes := #[27] }, (some (47, true)), 6143⟩,
  ⟨(some 51), .binOp .add 3 (.tmp 48) (.tmp 50) 3, (some (47, true)), 1267650600228229401496703221759⟩,
  ⟨(some 52), .binOp .rem 3 (.tmp 51) (.const (.int .i64 128)) 3, (some (47, true)), 1267650600228229401496703238143⟩,
  ⟨(some 53), .binOp .eql 3 (.tmp 52) (.const (.int .i64 0)) 3, (some (47, true)), 1267650600228229401496703270911⟩,
  ⟨(some 54), .pick (.tmp 47) (.tmp 53) (.const (.bool false)), none, 1267650600228229401496703336447⟩,
  ⟨(some 2), .assign (.tmp 54), none, 1267650600228229401496703467519⟩]
def L9 : LC := (.seq (.region L9r0) (.seq (.region L9r1) (.seq (.region L9r2) (.seq (.seq (.region L9r3) (.cond (.tmp 22) (.seq (.region L9r4) .ret) .skip)) (.seq (.seq (.region L9r5) (.cond (.tmp 28) (.seq (.region L9r6) .ret) .skip)) (.seq (.regionD L9r7) .ret))))))
theorem nt9 : Try.f9.ntmps = 55 := by kernel_rfl
theorem rs9 : Try.f9.results.toList = [.tmp 2] := by kernel_rfl
theorem lite9 : Try.f9.body.map (lite okDraw) = some L9 := by kernel_rfl
def L34r0 : List AOp := [
  ⟨(some 2), .assign (.const (.slice none 0 0)), none, 0⟩,
  ⟨(some 3), .assign (.const .nilIface), none, 0⟩]
def L34r1 : List AOp := [
  ⟨(some 8), .move (.tmp 0), none, 0⟩,
  ⟨(some 9), .binOp .lss 3 (.tmp 8) (.const (.int .i64 0)) 3, none, 0⟩,
  ⟨(some 10), .move (.tmp 9), none, 0⟩,
  ⟨(some 11), .move (.tmp 0), (some (10, false)), 0⟩,
  ⟨(some 12), .binOp .gtr 3 (.tmp 11) (.const (.int .i64 1125899906842624)) 3, (some (10, false)), 0⟩,
  ⟨(some 13), .pick (.tmp 10) (.const (.bool true)) (.tmp 12), none, 0⟩]
def L34r2 : List AOp := [
  ⟨(some 14), .makeInterface 41 (.const (.int .i64 1)), none, 0⟩,
  ⟨(some 2), .assign (.const (.slice none 0 0)), none, 0⟩,
  ⟨(some 3), .assign (.tmp 14), none, 0⟩]
def L34r3 : List AOp := [
  ⟨(some 15), .buildSlice 27 1 #[(0, .const (.int .u8 128))], none, 0⟩,
  ⟨(some 4), .assign (.tmp 15), none, 0⟩]
def L34r4 : List AOp := [
  ⟨(some 16), .move (.tmp 0), none, 0⟩,
  ⟨(some 17), .move (.tmp 4), none, 0⟩,
  ⟨(some 18), .call { callee := .builtin .len, args := #[.tmp 17], argTypes := #[27] }, none, 0⟩,
  ⟨(some 19), .binOp .add 3 (.tmp 16) (.tmp 18) 3, none, 0⟩,
  ⟨(some 20), .binOp .rem 3 (.tmp 19) (.const (.int .i64 128)) 3, none, 0⟩,
  ⟨(some 21), .binOp .neq 3 (.tmp 20) (.const (.int .i64 112)) 3, none, 0⟩]
def L34r5 : List AOp := [
  ⟨(some 22), .move (.tmp 4), none, 0⟩,
  ⟨(some 23), .buildSlice 27 1 #[(0, .const (.int .u8 0))], none, 0⟩,
  ⟨(some 24), .call { callee := .builtin .append, args := #[.tmp 22, .tmp 23], argTypes := #[27, 27] }, none, 0⟩,
  ⟨(some 4), .assign (.tmp 24), none, 0⟩]
def L34r6 : List AOp := [
  ⟨(some 25), .move (.tmp 0), none, 0⟩,
  ⟨(some 26), .convert 3 29 (.tmp 25), none, 0⟩,
  ⟨(some 27), .binOp .mul 29 (.tmp 26) (.const (.int .u64 8)) 29, none, 0⟩,
  ⟨(some 5), .assign (.tmp 27), none, 0⟩]
def L34r7 : List AOp := [
  ⟨(some 6), .assign (.const (.int .i64 15)), none, 0⟩]
def L34r8 : List AOp := [
  ⟨(some 28), .move (.tmp 6), none, 0⟩,
  ⟨(some 29), .binOp .geq 3 (.tmp 28) (.const (.int .i64 0)) 3, none, 0⟩]
def L34r10 : List AOp := [
  ⟨(some 7), .assign (.const (.int .u8 0)), none, 0⟩]
def L34r11 : List AOp := [
  ⟨(some 32), .move (.tmp 6), none, 0⟩,
  ⟨(some 33), .binOp .lss 3 (.tmp 32) (.const (.int .i64 8)) 3, none, 0⟩]
def L34r12 : List AOp := [
  ⟨(some 34), .move (.tmp 5), none, 0⟩,
  ⟨(some 35), .move (.tmp 6), none, 0⟩,
  ⟨(some 36), .binOp .mul 3 (.const (.int .i64 8)) (.tmp 35) 3, none, 0⟩,
  ⟨(some 37), .binOp .shr 29 (.tmp 34) (.tmp 36) 3, none, 0⟩,
  ⟨(some 38), .convert 29 5 (.tmp 37), none, 0⟩,
  ⟨(some 7), .assign (.tmp 38), none, 0⟩]
def L34r13 : List AOp := [
  ⟨(some 39), .move (.tmp 4), none, 0⟩,
  ⟨(some 40), .move (.tmp 7), none, 0⟩,
  ⟨(some 41), .buildSlice 27 1 #[(0, .tmp 40)], none, 0⟩,
  ⟨(some 42), .call { callee := .builtin .append, args := #[.tmp 39, .tmp 41], argTypes := #[27, 27] }, none, 0⟩,
  ⟨(some 4), .assign (.tmp 42), none, 0⟩]
def L34r9 : List AOp := [
  ⟨(some 30), .move (.tmp 6), none, 0⟩,
  ⟨(some 31), .binOp .sub 3 (.tmp 30) (.const (.int .i64 1)) 3, none, 0⟩,
  ⟨(some 6), .assign (.tmp 31), none, 0⟩]
def L34r14 : List AOp := [
  ⟨(some 43), .move (.tmp 4), none, 0⟩,
  ⟨(some 2), .assign (.tmp 43), none, 0⟩,
  ⟨(some 3), .assign (.const .nilIface), none, 0⟩]
def L34 : LC := (.seq (.region L34r0) (.seq (.seq (.region L34r1) (.cond (.tmp 13) (.seq (.region L34r2) .ret) .skip)) (.seq (.region L34r3) (.seq (.block 0 (.loop (.seq (.seq (.region L34r4) (.cond (.tmp 21) .skip (.exit 0))) (.block 1 (.region L34r5))))) (.seq (.region L34r6) (.seq (.seq (.region L34r7) (.block 2 (.loop (.seq (.seq (.region L34r8) (.cond (.tmp 29) .skip (.exit 2))) (.seq (.block 3 (.seq (.region L34r10) (.seq (.seq (.region L34r11) (.cond (.tmp 33) (.region L34r12) .skip)) (.region L34r13)))) (.region L34r9)))))) (.seq (.region L34r14) .ret)))))))
theorem nt34 : Try.f34.ntmps = 44 := by kernel_rfl
theorem rs34 : Try.f34.results.toList = [.tmp 2, .tmp 3] := by kernel_rfl
theorem lite34 : Try.f34.body.map (lite okDraw) = some L34 := by kernel_rfl
def L35r0 : List AOp := [
  ⟨(some 2), .assign (.const (.slice none 0 0)), none, 0⟩]
def L35r1 : List AOp := [
  ⟨(some 5), .buildSlice 27 1 #[(0, .const (.int .u8 128))], none, 0⟩,
  ⟨(some 3), .assign (.tmp 5), none, 0⟩]
def L35r2 : List AOp := [
  ⟨(some 6), .move (.tmp 0), none, 0⟩,
  ⟨(some 7), .move (.tmp 3), none, 0⟩,
  ⟨(some 8), .call { callee := .builtin .len, args := #[.tmp 7], argTypes := #[27] }, none, 0⟩,
  ⟨(some 9), .binOp .add 3 (.tmp 6) (.tmp 8) 3, none, 0⟩,
  ⟨(some 10), .binOp .rem 3 (.tmp 9) (.const (.int .i64 128)) 3, none, 0⟩,
  ⟨(some 11), .binOp .neq 3 (.tmp 10) (.const (.int .i64 112)) 3, none, 0⟩]
def L35r3 : List AOp := [
  ⟨(some 12), .move (.tmp 3), none, 0⟩,
  ⟨(some 13), .buildSlice 27 1 #[(0, .const (.int .u8 0))], none, 0⟩,
  ⟨(some 14), .call { callee := .builtin .append, args := #[.tmp 12, .tmp 13], argTypes := #[27, 27] }, none, 0⟩,
  ⟨(some 3), .assign (.tmp 14), none, 0⟩]
def L35r4 : List AOp := [
  ⟨(some 15), .move (.tmp 0), none, 0⟩,
  ⟨(some 16), .convert 3 29 (.tmp 15), none, 0⟩,
  ⟨(some 17), .buildSlice 46 1 #[(0, .tmp 16)], none, 0⟩,
  ⟨(some 18), .call { callee := .value (.func 62), args := #[.tmp 17], argTypes := #[46] }, none, 0⟩,
  ⟨(some 19), .buildSlice 80 1 #[(0, .const (.int .u64 8))], none, 0⟩,
  ⟨(some 20), .call { callee := .value (.func 61), args := #[.tmp 18, .tmp 19], argTypes := #[80, 80] }, none, 0⟩,
  ⟨(some 4), .assign (.tmp 20), none, 0⟩]
def L35r5 : List AOp := [
  ⟨(some 21), .move (.tmp 3), none, 0⟩,
  ⟨(some 22), .move (.tmp 4), none, 0⟩,
  ⟨(some 23), .call { callee := .value (.func 63), args := #[.tmp 22, .const (.int .i64 16)], argTypes := #[80, 3] }, none, 0⟩,
  ⟨(some 24), .call { callee := .builtin .append, args := #[.tmp 21, .tmp 23], argTypes := #[27, 27] }, none, 0⟩,
  ⟨(some 2), .assign (.tmp 24), none, 0⟩]
def L35 : LC := (.seq (.region L35r0) (.seq (.region L35r1) (.seq (.block 0 (.loop (.seq (.seq (.region L35r2) (.cond (.tmp 11) .skip (.exit 0))) (.block 1 (.region L35r3))))) (.seq (.region L35r4) (.seq (.region L35r5) .ret)))))
theorem nt35 : Try.f35.ntmps = 25 := by kernel_rfl
theorem rs35 : Try.f35.results.toList = [.tmp 2] := by kernel_rfl
theorem lite35 : Try.f35.body.map (lite okDraw) = some L35 := by kernel_rfl
def L61r0 : List AOp := [
  ⟨(some 4), .assign (.const (.slice none 0 0)), none, 0⟩]
def L61r1 : List AOp := [
  ⟨(some 10), .move (.tmp 0), none, 0⟩,
  ⟨(some 11), .call { callee := .builtin .len, args := #[.tmp 10], argTypes := #[80] }, none, 0⟩,
  ⟨(some 12), .move (.tmp 1), none, 0⟩,
  ⟨(some 13), .call { callee := .builtin .len, args := #[.tmp 12], argTypes := #[80] }, none, 0⟩,
  ⟨(some 14), .binOp .add 3 (.tmp 11) (.tmp 13) 3, none, 0⟩,
  ⟨(some 15), .binOp .add 3 (.tmp 14) (.const (.int .i64 1)) 3, none, 0⟩,
  ⟨(some 16), .makeSlice 80 (.tmp 15) (.tmp 15), none, 0⟩,
  ⟨(some 5), .assign (.tmp 16), none, 0⟩]
def L61r2 : List AOp := [
  ⟨(some 6), .assign (.const (.int .i64 0)), none, 0⟩]
def L61r3 : List AOp := [
  ⟨(some 17), .move (.tmp 6), none, 0⟩,
  ⟨(some 18), .move (.tmp 0), none, 0⟩,
  ⟨(some 19), .call { callee := .builtin .len, args := #[.tmp 18], argTypes := #[80] }, none, 0⟩,
  ⟨(some 20), .binOp .lss 3 (.tmp 17) (.tmp 19) 3, none, 0⟩]
def L61r5 : List AOp := [
  ⟨(some 7), .assign (.const (.int .u64 0)), none, 0⟩]
def L61r6 : List AOp := [
  ⟨(some 8), .assign (.const (.int .i64 0)), none, 0⟩]
def L61r7 : List AOp := [
  ⟨(some 23), .move (.tmp 8), none, 0⟩,
  ⟨(some 24), .move (.tmp 1), none, 0⟩,
  ⟨(some 25), .call { callee := .builtin .len, args := #[.tmp 24], argTypes := #[80] }, none, 0⟩,
  ⟨(some 26), .binOp .lss 3 (.tmp 23) (.tmp 25) 3, none, 0⟩,
  ⟨(some 27), .move (.tmp 26), none, 0⟩,
  ⟨(some 28), .move (.tmp 7), (some (27, false)), 0⟩,
  ⟨(some 29), .binOp .gtr 29 (.tmp 28) (.const (.int .u64 0)) 29, (some (27, false)), 0⟩,
  ⟨(some 30), .pick (.tmp 27) (.const (.bool true)) (.tmp 29), none, 0⟩]
def L61r9 : List AOp := [
  ⟨(some 33), .move (.tmp 5), none, 0⟩,
  ⟨(some 34), .move (.tmp 6), none, 0⟩,
  ⟨(some 35), .move (.tmp 8), none, 0⟩,
  ⟨(some 36), .binOp .add 3 (.tmp 34) (.tmp 35) 3, none, 6⟩,
  ⟨(some 37), .indexAddr 80 (.tmp 33) (.tmp 36), none, 15⟩,
  ⟨(some 38), .load 29 (.tmp 37), none, 31⟩,
  ⟨(some 39), .move (.tmp 0), none, 0⟩,
  ⟨(some 40), .move (.tmp 6), none, 0⟩,
  ⟨(some 41), .indexAddr 80 (.tmp 39) (.tmp 40), none, 192⟩,
  ⟨(some 42), .load 29 (.tmp 41), none, 448⟩,
  ⟨(some 43), .move (.tmp 1), none, 0⟩,
  ⟨(some 44), .move (.tmp 8), none, 0⟩,
  ⟨(some 45), .call { callee := .value (.func 74), args := #[.tmp 43, .tmp 44], argTypes := #[80, 3] }, none, 3072⟩,
  ⟨(some 46), .binOp .mul 29 (.tmp 42) (.tmp 45) 29, none, 8128⟩,
  ⟨(some 47), .binOp .add 29 (.tmp 38) (.tmp 46) 29, none, 16383⟩,
  ⟨(some 48), .move (.tmp 7), none, 0⟩,
  ⟨(some 49), .binOp .add 29 (.tmp 47) (.tmp 48) 29, none, 1267650600228229401496703270911⟩,
  ⟨(some 9), .assign (.tmp 49), none, 1267650600228229401496703336447⟩]
def L61r10 : List AOp := [
  ⟨(some 50), .move (.tmp 5), none, 0⟩,
  ⟨(some 51), .move (.tmp 6), none, 0⟩,
  ⟨(some 52), .move (.tmp 8), none, 0⟩,
  ⟨(some 53), .binOp .add 3 (.tmp 51) (.tmp 52) 3, none, 0⟩,
  ⟨(some 54), .move (.tmp 9), none, 0⟩,
  ⟨(some 55), .binOp .rem 29 (.tmp 54) (.const (.int .u64 4294967296)) 29, none, 0⟩,
  ⟨(some 56), .indexAddr 80 (.tmp 50) (.tmp 53), none, 0⟩,
  ⟨none, .store 29 (.tmp 56) (.tmp 55), none, 0⟩]
def L61r11 : List AOp := [
  ⟨(some 57), .move (.tmp 9), none, 0⟩,
  ⟨(some 58), .binOp .quo 29 (.tmp 57) (.const (.int .u64 4294967296)) 29, none, 0⟩,
  ⟨(some 7), .assign (.tmp 58), none, 0⟩]
def L61r8 : List AOp := [
  ⟨(some 31), .move (.tmp 8), none, 0⟩,
  ⟨(some 32), .binOp .add 3 (.tmp 31) (.const (.int .i64 1)) 3, none, 0⟩,
  ⟨(some 8), .assign (.tmp 32), none, 0⟩]
def L61r4 : List AOp := [
  ⟨(some 21), .move (.tmp 6), none, 0⟩,
  ⟨(some 22), .binOp .add 3 (.tmp 21) (.const (.int .i64 1)) 3, none, 0⟩,
  ⟨(some 6), .assign (.tmp 22), none, 0⟩]
def L61r12 : List AOp := [
  ⟨(some 59), .move (.tmp 5), none, 0⟩,
  ⟨(some 60), .call { callee := .value (.func 75), args := #[.tmp 59], argTypes := #[80] }, none, 0⟩,
  ⟨(some 4), .assign (.tmp 60), none, 0⟩]
def L61 : LC := (.seq (.region L61r0) (.seq (.region L61r1) (.seq (.seq (.region L61r2) (.block 0 (.loop (.seq (.seq (.region L61r3) (.cond (.tmp 20) .skip (.exit 0))) (.seq (.block 1 (.seq (.region L61r5) (.seq (.region L61r6) (.block 2 (.loop (.seq (.seq (.region L61r7) (.cond (.tmp 30) .skip (.exit 2))) (.seq (.block 3 (.seq (.regionD L61r9) (.seq (.region L61r10) (.region L61r11)))) (.region L61r8)))))))) (.region L61r4)))))) (.seq (.region L61r12) .ret))))
theorem nt61 : Try.f61.ntmps = 61 := by kernel_rfl
theorem rs61 : Try.f61.results.toList = [.tmp 4] := by kernel_rfl
theorem lite61 : Try.f61.body.map (lite okDraw) = some L61 := by kernel_rfl
def L62r0 : List AOp := [
  ⟨(some 2), .assign (.const (.slice none 0 0)), none, 0⟩]
def L62r1 : List AOp := [
  ⟨(some 3), .assign (.const (.slice none 0 0)), none, 0⟩]
def L62r2 : List AOp := [
  ⟨(some 4), .assign (.const (.int .i64 0)), none, 0⟩]
def L62r3 : List AOp := [
  ⟨(some 5), .move (.tmp 4), none, 0⟩,
  ⟨(some 6), .move (.tmp 0), none, 0⟩,
  ⟨(some 7), .call { callee := .builtin .len, args := #[.tmp 6], argTypes := #[46] }, none, 0⟩,
  ⟨(some 8), .binOp .lss 3 (.tmp 5) (.tmp 7) 3, none, 0⟩]
def L62r5 : List AOp := [
  ⟨(some 11), .move (.tmp 3), none, 0⟩,
  ⟨(some 12), .move (.tmp 0), none, 0⟩,
  ⟨(some 13), .move (.tmp 4), none, 0⟩,
  ⟨(some 14), .indexAddr 46 (.tmp 12) (.tmp 13), none, 6⟩,
  ⟨(some 15), .load 29 (.tmp 14), none, 14⟩,
  ⟨(some 16), .binOp .rem 29 (.tmp 15) (.const (.int .u64 4294967296)) 29, none, 30⟩,
  ⟨(some 17), .move (.tmp 0), none, 0⟩,
  ⟨(some 18), .move (.tmp 4), none, 0⟩,
  ⟨(some 19), .indexAddr 46 (.tmp 17) (.tmp 18), none, 192⟩,
  ⟨(some 20), .load 29 (.tmp 19), none, 448⟩,
  ⟨(some 21), .binOp .quo 29 (.tmp 20) (.const (.int .u64 4294967296)) 29, none, 960⟩,
  ⟨(some 22), .buildSlice 80 2 #[(0, .tmp 16), (1, .tmp 21)], none, 2046⟩,
  ⟨(some 23), .call { callee := .builtin .append, args := #[.tmp 11, .tmp 22], argTypes := #[80, 80] }, none, 1267650600228229401496703209471⟩,
  ⟨(some 3), .assign (.tmp 23), none, 1267650600228229401496703213567⟩]
def L62r4 : List AOp := [
  ⟨(some 9), .move (.tmp 4), none, 0⟩,
  ⟨(some 10), .binOp .add 3 (.tmp 9) (.const (.int .i64 1)) 3, none, 0⟩,
  ⟨(some 4), .assign (.tmp 10), none, 0⟩]
def L62r6 : List AOp := [
  ⟨(some 24), .move (.tmp 3), none, 0⟩,
  ⟨(some 25), .call { callee := .value (.func 75), args := #[.tmp 24], argTypes := #[80] }, none, 0⟩,
  ⟨(some 2), .assign (.tmp 25), none, 0⟩]
def L62 : LC := (.seq (.region L62r0) (.seq (.region L62r1) (.seq (.seq (.region L62r2) (.block 0 (.loop (.seq (.seq (.region L62r3) (.cond (.tmp 8) .skip (.exit 0))) (.seq (.block 1 (.regionD L62r5)) (.region L62r4)))))) (.seq (.region L62r6) .ret))))
theorem nt62 : Try.f62.ntmps = 26 := by kernel_rfl
theorem rs62 : Try.f62.results.toList = [.tmp 2] := by kernel_rfl
theorem lite62 : Try.f62.body.map (lite okDraw) = some L62 := by kernel_rfl
def L63r0 : List AOp := [
  ⟨(some 4), .assign (.const (.slice none 0 0)), none, 0⟩]
def L63r1 : List AOp := [
  ⟨(some 9), .move (.tmp 1), none, 0⟩,
  ⟨(some 10), .makeSlice 27 (.tmp 9) (.tmp 9), none, 0⟩,
  ⟨(some 5), .assign (.tmp 10), none, 0⟩]
def L63r2 : List AOp := [
  ⟨(some 6), .assign (.const (.int .i64 0)), none, 0⟩]
def L63r3 : List AOp := [
  ⟨(some 11), .move (.tmp 6), none, 0⟩,
  ⟨(some 12), .move (.tmp 1), none, 0⟩,
  ⟨(some 13), .binOp .lss 3 (.tmp 11) (.tmp 12) 3, none, 0⟩]
def L63r5 : List AOp := [
  ⟨(some 16), .move (.tmp 0), none, 0⟩,
  ⟨(some 17), .move (.tmp 6), none, 0⟩,
  ⟨(some 18), .binOp .quo 3 (.tmp 17) (.const (.int .i64 4)) 3, none, 0⟩,
  ⟨(some 19), .call { callee := .value (.func 74), args := #[.tmp 16, .tmp 18], argTypes := #[80, 3] }, none, 0⟩,
  ⟨(some 7), .assign (.tmp 19), none, 0⟩]
def L63r6 : List AOp := [
  ⟨(some 8), .assign (.const (.int .i64 0)), none, 0⟩]
def L63r7 : List AOp := [
  ⟨(some 20), .move (.tmp 8), none, 0⟩,
  ⟨(some 21), .move (.tmp 6), none, 0⟩,
  ⟨(some 22), .binOp .rem 3 (.tmp 21) (.const (.int .i64 4)) 3, none, 0⟩,
  ⟨(some 23), .binOp .lss 3 (.tmp 20) (.tmp 22) 3, none, 0⟩]
def L63r9 : List AOp := [
  ⟨(some 26), .move (.tmp 7), none, 0⟩,
  ⟨(some 27), .binOp .quo 29 (.tmp 26) (.const (.int .u64 256)) 29, none, 0⟩,
  ⟨(some 7), .assign (.tmp 27), none, 0⟩]
def L63r8 : List AOp := [
  ⟨(some 24), .move (.tmp 8), none, 0⟩,
  ⟨(some 25), .binOp .add 3 (.tmp 24) (.const (.int .i64 1)) 3, none, 0⟩,
  ⟨(some 8), .assign (.tmp 25), none, 0⟩]
def L63r10 : List AOp := [
  ⟨(some 28), .move (.tmp 5), none, 0⟩,
  ⟨(some 29), .move (.tmp 1), none, 0⟩,
  ⟨(some 30), .binOp .sub 3 (.tmp 29) (.const (.int .i64 1)) 3, none, 0⟩,
  ⟨(some 31), .move (.tmp 6), none, 0⟩,
  ⟨(some 32), .binOp .sub 3 (.tmp 30) (.tmp 31) 3, none, 0⟩,
  ⟨(some 33), .move (.tmp 7), none, 0⟩,
  ⟨(some 34), .binOp .rem 29 (.tmp 33) (.const (.int .u64 256)) 29, none, 0⟩,
  ⟨(some 35), .convert 29 5 (.tmp 34), none, 0⟩,
  ⟨(some 36), .indexAddr 27 (.tmp 28) (.tmp 32), none, 0⟩,
  ⟨none, .store 5 (.tmp 36) (.tmp 35), none, 0⟩]
def L63r4 : List AOp := [
  ⟨(some 14), .move (.tmp 6), none, 0⟩,
  ⟨(some 15), .binOp .add 3 (.tmp 14) (.const (.int .i64 1)) 3, none, 0⟩,
  ⟨(some 6), .assign (.tmp 15), none, 0⟩]
def L63r11 : List AOp := [
  ⟨(some 37), .move (.tmp 5), none, 0⟩,
  ⟨(some 4), .assign (.tmp 37), none, 0⟩]
def L63 : LC := (.seq (.region L63r0) (.seq (.region L63r1) (.seq (.seq (.region L63r2) (.block 0 (.loop (.seq (.seq (.region L63r3) (.cond (.tmp 13) .skip (.exit 0))) (.seq (.block 1 (.seq (.region L63r5) (.seq (.seq (.region L63r6) (.block 2 (.loop (.seq (.seq (.region L63r7) (.cond (.tmp 23) .skip (.exit 2))) (.seq (.block 3 (.region L63r9)) (.region L63r8)))))) (.region L63r10)))) (.region L63r4)))))) (.seq (.region L63r11) .ret))))
theorem nt63 : Try.f63.ntmps = 38 := by kernel_rfl
theorem rs63 : Try.f63.results.toList = [.tmp 4] := by kernel_rfl
theorem lite63 : Try.f63.body.map (lite okDraw) = some L63 := by kernel_rfl
def L74r0 : List AOp := [
  ⟨(some 4), .assign (.const (.int .u64 0)), none, 0⟩]
def L74r1 : List AOp := [
  ⟨(some 5), .move (.tmp 1), none, 0⟩,
  ⟨(some 6), .move (.tmp 0), none, 0⟩,
  ⟨(some 7), .call { callee := .builtin .len, args := #[.tmp 6], argTypes := #[80] }, none, 0⟩,
  ⟨(some 8), .binOp .lss 3 (.tmp 5) (.tmp 7) 3, none, 0⟩]
def L74r2 : List AOp := [
  ⟨(some 9), .move (.tmp 0), none, 0⟩,
  ⟨(some 10), .move (.tmp 1), none, 0⟩,
  ⟨(some 11), .indexAddr 80 (.tmp 9) (.tmp 10), none, 0⟩,
  ⟨(some 12), .load 29 (.tmp 11), none, 0⟩,
  ⟨(some 4), .assign (.tmp 12), none, 0⟩]
def L74r3 : List AOp := [
  ⟨(some 4), .assign (.const (.int .u64 0)), none, 0⟩]
def L74 : LC := (.seq (.region L74r0) (.seq (.seq (.region L74r1) (.cond (.tmp 8) (.seq (.region L74r2) .ret) .skip)) (.seq (.region L74r3) .ret)))
theorem nt74 : Try.f74.ntmps = 13 := by kernel_rfl
theorem rs74 : Try.f74.results.toList = [.tmp 4] := by kernel_rfl
theorem lite74 : Try.f74.body.map (lite okDraw) = some L74 := by kernel_rfl
def L75r0 : List AOp := [
  ⟨(some 2), .assign (.const (.slice none 0 0)), none, 0⟩]
def L75r1 : List AOp := [
  ⟨(some 4), .move (.tmp 0), none, 0⟩,
  ⟨(some 5), .call { callee := .builtin .len, args := #[.tmp 4], argTypes := #[80] }, none, 0⟩,
  ⟨(some 3), .assign (.tmp 5), none, 0⟩]
def L75r2 : List AOp := [
  ⟨(some 6), .move (.tmp 3), none, 0⟩,
  ⟨(some 7), .binOp .gtr 3 (.tmp 6) (.const (.int .i64 0)) 3, none, 0⟩,
  ⟨(some 8), .move (.tmp 7), none, 0⟩,
  ⟨(some 9), .move (.tmp 0), (some (8, true)), 0⟩,
  ⟨(some 10), .move (.tmp 3), (some (8, true)), 0⟩,
  ⟨(some 11), .binOp .sub 3 (.tmp 10) (.const (.int .i64 1)) 3, (some (8, true)), 0⟩,
  ⟨(some 12), .indexAddr 80 (.tmp 9) (.tmp 11), (some (8, true)), 0⟩,
  ⟨(some 13), .load 29 (.tmp 12), (some (8, true)), 0⟩,
  ⟨(some 14), .binOp .eql 29 (.tmp 13) (.const (.int .u64 0)) 29, (some (8, true)), 0⟩,
  ⟨(some 15), .pick (.tmp 8) (.tmp 14) (.const (.bool false)), none, 0⟩]
def L75r3 : List AOp := [
  ⟨(some 16), .move (.tmp 3), none, 0⟩,
  ⟨(some 17), .binOp .sub 3 (.tmp 16) (.const (.int .i64 1)) 3, none, 0⟩,
  ⟨(some 3), .assign (.tmp 17), none, 0⟩]
def L75r4 : List AOp := [
  ⟨(some 18), .move (.tmp 0), none, 0⟩,
  ⟨(some 19), .move (.tmp 3), none, 0⟩,
  ⟨(some 20), .slice 80 (.tmp 18) none (some (.tmp 19)) none, none, 0⟩,
  ⟨(some 2), .assign (.tmp 20), none, 0⟩]
def L75 : LC := (.seq (.region L75r0) (.seq (.region L75r1) (.seq (.block 0 (.loop (.seq (.seq (.region L75r2) (.cond (.tmp 15) .skip (.exit 0))) (.block 1 (.region L75r3))))) (.seq (.region L75r4) .ret))))
theorem nt75 : Try.f75.ntmps = 21 := by kernel_rfl
theorem rs75 : Try.f75.results.toList = [.tmp 2] := by kernel_rfl
theorem lite75 : Try.f75.body.map (lite okDraw) = some L75 := by kernel_rfl
def L12r0 : List AOp := [
  ⟨(some 2), .assign (.const (.bool false)), none, 0⟩]
def L12r1 : List AOp := [
  ⟨(some 10), .move (.tmp 0), none, 0⟩,
  ⟨(some 11), .call { callee := .value (.func 40), args := #[.tmp 10], argTypes := #[27] }, none, 0⟩,
  ⟨(some 9), .move (.tmp 11), none, 0⟩,
  ⟨(some 12), .extract (.tmp 9) 0, none, 0⟩,
  ⟨(some 13), .extract (.tmp 9) 1, none, 0⟩,
  ⟨(some 3), .assign (.tmp 12), none, 0⟩,
  ⟨(some 4), .assign (.tmp 13), none, 0⟩]
def L12r2 : List AOp := [
  ⟨(some 15), .makeSlice 27 (.const (.int .i64 128)) (.const (.int .i64 128)), none, 0⟩,
  ⟨(some 16), .call { callee := .value (.func 40), args := #[.tmp 15], argTypes := #[27] }, none, 0⟩,
  ⟨(some 14), .move (.tmp 16), none, 0⟩,
  ⟨(some 17), .extract (.tmp 14) 0, none, 0⟩,
  ⟨(some 18), .extract (.tmp 14) 1, none, 0⟩,
  ⟨(some 5), .assign (.tmp 17), none, 0⟩,
  ⟨(some 6), .assign (.tmp 18), none, 0⟩]
def L12r3 : List AOp := [
  ⟨(some 19), .move (.tmp 5), none, 0⟩,
  ⟨(some 20), .call { callee := .builtin .len, args := #[.tmp 19], argTypes := #[46] }, none, 0⟩,
  ⟨(some 21), .binOp .neq 3 (.tmp 20) (.const (.int .i64 80)) 3, none, 0⟩,
  ⟨(some 22), .move (.tmp 21), none, 0⟩,
  ⟨(some 23), .move (.tmp 6), (some (22, false)), 0⟩,
  ⟨(some 24), .binOp .neq 38 (.tmp 23) (.const .nilIface) 38, (some (22, false)), 0⟩,
  ⟨(some 25), .pick (.tmp 22) (.const (.bool true)) (.tmp 24), none, 0⟩]
def L12r4 : List AOp := [
  ⟨(some 2), .assign (.const (.bool false)), none, 0⟩]
def L12r5 : List AOp := [
  ⟨(some 26), .move (.tmp 0), none, 0⟩,
  ⟨(some 27), .call { callee := .builtin .len, args := #[.tmp 26], argTypes := #[27] }, none, 0⟩,
  ⟨(some 28), .binOp .neq 3 (.tmp 27) (.const (.int .i64 128)) 3, none, 0⟩]
def L12r6 : List AOp := [
  ⟨(some 29), .move (.tmp 4), none, 0⟩,
  ⟨(some 30), .makeInterface 41 (.const (.int .i64 1)), none, 0⟩,
  ⟨(some 31), .binOp .eql 38 (.tmp 29) (.tmp 30) 38, none, 0⟩,
  ⟨(some 32), .move (.tmp 31), none, 0⟩,
  ⟨(some 33), .move (.tmp 3), (some (32, true)), 0⟩,
  ⟨(some 34), .call { callee := .builtin .len, args := #[.tmp 33], argTypes := #[46] }, (some (32, true)), 0⟩,
  ⟨(some 35), .binOp .eql 3 (.tmp 34) (.const (.int .i64 0)) 3, (some (32, true)), 0⟩,
  ⟨(some 36), .pick (.tmp 32) (.tmp 35) (.const (.bool false)), none, 0⟩,
  ⟨(some 2), .assign (.tmp 36), none, 0⟩]
def L12r7 : List AOp := [
  ⟨(some 37), .move (.tmp 0), none, 0⟩,
  ⟨(some 38), .call { callee := .value (.func 41), args := #[.tmp 37], argTypes := #[27] }, none, 0⟩,
  ⟨(some 7), .assign (.tmp 38), none, 0⟩]
def L12r8 : List AOp := [
  ⟨(some 39), .move (.tmp 4), none, 0⟩,
  ⟨(some 40), .binOp .neq 38 (.tmp 39) (.const .nilIface) 38, none, 0⟩,
  ⟨(some 41), .move (.tmp 40), none, 0⟩,
  ⟨(some 42), .move (.tmp 3), (some (41, false)), 0⟩,
  ⟨(some 43), .call { callee := .builtin .len, args := #[.tmp 42], argTypes := #[46] }, (some (41, false)), 0⟩,
  ⟨(some 44), .binOp .neq 3 (.tmp 43) (.const (.int .i64 80)) 3, (some (41, false)), 0⟩,
  ⟨(some 45), .pick (.tmp 41) (.const (.bool true)) (.tmp 44), none, 0⟩]
def L12r9 : List AOp := [
  ⟨(some 2), .assign (.const (.bool false)), none, 0⟩]
def L12r10 : List AOp := [
  ⟨(some 8), .assign (.const (.int .i64 0)), none, 0⟩]
def L12r11 : List AOp := [
  ⟨(some 46), .move (.tmp 8), none, 0⟩,
  ⟨(some 47), .binOp .lss 3 (.tmp 46) (.const (.int .i64 80)) 3, none, 0⟩]
def L12r13 : List AOp := [
  ⟨(some 50), .move (.tmp 3), none, 0⟩,
  ⟨(some 51), .move (.tmp 8), none, 0⟩,
  ⟨(some 52), .indexAddr 46 (.tmp 50) (.tmp 51), none, 3⟩,
  ⟨(some 53), .load 29 (.tmp 52), none, 7⟩,
  ⟨(some 54), .move (.tmp 7), none, 0⟩,
  ⟨(some 55), .move (.tmp 8), none, 0⟩,
  ⟨(some 56), .indexAddr 46 (.tmp 54) (.tmp 55), none, 48⟩,
  ⟨(some 57), .load 29 (.tmp 56), none, 112⟩,
  ⟨(some 58), .binOp .neq 29 (.tmp 53) (.tmp 57) 29, none, 1267650600228229401496703205631⟩]
def L12r14 : List AOp := [
  ⟨(some 2), .assign (.const (.bool false)), none, 0⟩]
def L12r12 : List AOp := [
  ⟨(some 48), .move (.tmp 8), none, 0⟩,
  ⟨(some 49), .binOp .add 3 (.tmp 48) (.const (.int .i64 1)) 3, none, 0⟩,
  ⟨(some 8), .assign (.tmp 49), none, 0⟩]
def L12r15 : List AOp := [
  ⟨(some 2), .assign (.const (.bool true)), none, 0⟩]
def L12 : LC := (.seq (.region L12r0) (.seq (.region L12r1) (.seq (.region L12r2) (.seq (.seq (.region L12r3) (.cond (.tmp 25) (.seq (.region L12r4) .ret) .skip)) (.seq (.seq (.region L12r5) (.cond (.tmp 28) (.seq (.region L12r6) .ret) .skip)) (.seq (.region L12r7) (.seq (.seq (.region L12r8) (.cond (.tmp 45) (.seq (.region L12r9) .ret) .skip)) (.seq (.seq (.region L12r10) (.block 0 (.loop (.seq (.seq (.region L12r11) (.cond (.tmp 47) .skip (.exit 0))) (.seq (.block 1 (.seq (.regionD L12r13) (.cond (.tmp 58) (.seq (.region L12r14) .ret) .skip))) (.region L12r12)))))) (.seq (.region L12r15) .ret)))))))))
theorem nt12 : Try.f12.ntmps = 59 := by kernel_rfl
theorem rs12 : Try.f12.results.toList = [.tmp 2] := by kernel_rfl
theorem lite12 : Try.f12.body.map (lite okDraw) = some L12 := by kernel_rfl
def L40r0 : List AOp := [
  ⟨(some 2), .assign (.const (.slice none 0 0)), none, 0⟩,
  ⟨(some 3), .assign (.const .nilIface), none, 0⟩]
def L40r1 : List AOp := [
  ⟨(some 12), .move (.tmp 0), none, 0⟩,
  ⟨(some 13), .call { callee := .builtin .len, args := #[.tmp 12], argTypes := #[27] }, none, 0⟩,
  ⟨(some 14), .binOp .neq 3 (.tmp 13) (.const (.int .i64 128)) 3, none, 0⟩]
def L40r2 : List AOp := [
  ⟨(some 15), .makeInterface 41 (.const (.int .i64 1)), none, 0⟩,
  ⟨(some 2), .assign (.const (.slice none 0 0)), none, 0⟩,
  ⟨(some 3), .assign (.tmp 15), none, 0⟩]
def L40r3 : List AOp := [
  ⟨(some 16), .makeSlice 46 (.const (.int .i64 80)) (.const (.int .i64 80)), none, 0⟩,
  ⟨(some 4), .assign (.tmp 16), none, 0⟩]
def L40r4 : List AOp := [
  ⟨(some 17), .move (.const (.int .i64 0)), none, 0⟩]
def L40r5 : List AOp := [
  ⟨(some 18), .binOp .lss 3 (.tmp 17) (.const (.int .i64 16)) 3, none, 0⟩]
def L40r6 : List AOp := [
  ⟨(some 19), .move (.tmp 17), none, 0⟩,
  ⟨(some 5), .assign (.tmp 19), none, 0⟩]
def L40r7 : List AOp := [
  ⟨(some 20), .move (.const (.int .i64 0)), none, 0⟩]
def L40r8 : List AOp := [
  ⟨(some 21), .binOp .lss 3 (.tmp 20) (.const (.int .i64 8)) 3, none, 0⟩]
def L40r9 : List AOp := [
  ⟨(some 22), .move (.tmp 20), none, 0⟩,
  ⟨(some 6), .assign (.tmp 22), none, 0⟩]
def L40r10 : List AOp := [
  ⟨(some 23), .move (.tmp 4), none, 0⟩,
  ⟨(some 24), .move (.tmp 5), none, 0⟩,
  ⟨(some 25), .move (.tmp 4), none, 0⟩,
  ⟨(some 26), .move (.tmp 5), none, 0⟩,
  ⟨(some 27), .indexAddr 46 (.tmp 25) (.tmp 26), none, 12⟩,
  ⟨(some 28), .load 29 (.tmp 27), none, 28⟩,
  ⟨(some 29), .binOp .shl 29 (.tmp 28) (.const (.int .u64 8)) 76, none, 60⟩,
  ⟨(some 30), .move (.tmp 0), none, 0⟩,
  ⟨(some 31), .move (.tmp 5), none, 0⟩,
  ⟨(some 32), .binOp .mul 3 (.const (.int .i64 8)) (.tmp 31) 3, none, 256⟩,
  ⟨(some 33), .move (.tmp 6), none, 0⟩,
  ⟨(some 34), .binOp .add 3 (.tmp 32) (.tmp 33) 3, none, 1792⟩,
  ⟨(some 35), .indexAddr 27 (.tmp 30) (.tmp 34), none, 3968⟩,
  ⟨(some 36), .load 5 (.tmp 35), none, 8064⟩,
  ⟨(some 37), .convert 5 29 (.tmp 36), none, 16256⟩,
  ⟨(some 38), .binOp .or 29 (.tmp 29) (.tmp 37) 29, none, 32764⟩,
  ⟨(some 39), .indexAddr 46 (.tmp 23) (.tmp 24), none, 1267650600228229401496703270911⟩,
  ⟨none, .store 29 (.tmp 39) (.tmp 38), none, 1267650600228229401496703336447⟩]
def L40r11 : List AOp := [
  ⟨(some 40), .binOp .add 3 (.tmp 20) (.const (.int .i64 1)) 3, none, 0⟩,
  ⟨(some 20), .move (.tmp 40), none, 0⟩]
def L40r12 : List AOp := [
  ⟨(some 41), .binOp .add 3 (.tmp 17) (.const (.int .i64 1)) 3, none, 0⟩,
  ⟨(some 17), .move (.tmp 41), none, 0⟩]
def L40r13 : List AOp := [
  ⟨(some 7), .assign (.const (.int .i64 16)), none, 0⟩]
def L40r14 : List AOp := [
  ⟨(some 42), .move (.tmp 7), none, 0⟩,
  ⟨(some 43), .move (.tmp 4), none, 0⟩,
  ⟨(some 44), .call { callee := .builtin .len, args := #[.tmp 43], argTypes := #[46] }, none, 0⟩,
  ⟨(some 45), .binOp .lss 3 (.tmp 42) (.tmp 44) 3, none, 0⟩]
def L40r16 : List AOp := [
  ⟨(some 48), .move (.tmp 4), none, 0⟩,
  ⟨(some 49), .move (.tmp 7), none, 0⟩,
  ⟨(some 50), .binOp .sub 3 (.tmp 49) (.const (.int .i64 15)) 3, none, 2⟩,
  ⟨(some 51), .indexAddr 46 (.tmp 48) (.tmp 50), none, 7⟩,
  ⟨(some 52), .load 29 (.tmp 51), none, 15⟩,
  ⟨(some 53), .move (.tmp 4), none, 0⟩,
  ⟨(some 54), .move (.tmp 7), none, 0⟩,
  ⟨(some 55), .binOp .sub 3 (.tmp 54) (.const (.int .i64 2)) 3, none, 64⟩,
  ⟨(some 56), .indexAddr 46 (.tmp 53) (.tmp 55), none, 224⟩,
  ⟨(some 57), .load 29 (.tmp 56), none, 480⟩,
  ⟨(some 8), .assign (.tmp 52), none, 31⟩,
  ⟨(some 9), .assign (.tmp 57), none, 1267650600228229401496703207423⟩]
def L40r17 : List AOp := [
  ⟨(some 58), .move (.tmp 8), none, 0⟩,
  ⟨(some 59), .call { callee := .value (.func 58), args := #[.tmp 58, .const (.int .i64 (-1))], argTypes := #[29, 3] }, none, 0⟩,
  ⟨(some 60), .move (.tmp 8), none, 0⟩,
  ⟨(some 61), .call { callee := .value (.func 58), args := #[.tmp 60, .const (.int .i64 (-8))], argTypes := #[29, 3] }, none, 0⟩,
  ⟨(some 62), .binOp .xor 29 (.tmp 59) (.tmp 61) 29, none, 0⟩,
  ⟨(some 63), .move (.tmp 8), none, 0⟩,
  ⟨(some 64), .binOp .shr 29 (.tmp 63) (.const (.int .u64 7)) 76, none, 0⟩,
  ⟨(some 65), .binOp .xor 29 (.tmp 62) (.tmp 64) 29, none, 0⟩,
  ⟨(some 10), .assign (.tmp 65), none, 0⟩]
def L40r18 : List AOp := [
  ⟨(some 66), .move (.tmp 9), none, 0⟩,
  ⟨(some 67), .call { callee := .value (.func 58), args := #[.tmp 66, .const (.int .i64 (-19))], argTypes := #[29, 3] }, none, 0⟩,
  ⟨(some 68), .move (.tmp 9), none, 0⟩,
  ⟨(some 69), .call { callee := .value (.func 58), args := #[.tmp 68, .const (.int .i64 (-61))], argTypes := #[29, 3] }, none, 0⟩,
  ⟨(some 70), .binOp .xor 29 (.tmp 67) (.tmp 69) 29, none, 0⟩,
  ⟨(some 71), .move (.tmp 9), none, 0⟩,
  ⟨(some 72), .binOp .shr 29 (.tmp 71) (.const (.int .u64 6)) 76, none, 0⟩,
  ⟨(some 73), .binOp .xor 29 (.tmp 70) (.tmp 72) 29, none, 0⟩,
  ⟨(some 11), .assign (.tmp 73), none, 0⟩]
def L40r19 : List AOp := [
  ⟨(some 74), .move (.tmp 4), none, 0⟩,
  ⟨(some 75), .move (.tmp 7), none, 0⟩,
  ⟨(some 76), .move (.tmp 4), none, 0⟩,
  ⟨(some 77), .move (.tmp 7), none, 0⟩,
  ⟨(some 78), .binOp .sub 3 (.tmp 77) (.const (.int .i64 16)) 3, none, 8⟩,
  ⟨(some 79), .indexAddr 46 (.tmp 76) (.tmp 78), none, 28⟩,
  ⟨(some 80), .load 29 (.tmp 79), none, 60⟩,
  ⟨(some 81), .move (.tmp 10), none, 0⟩,
  ⟨(some 82), .binOp .add 29 (.tmp 80) (.tmp 81) 29, none, 252⟩,
  ⟨(some 83), .move (.tmp 4), none, 0⟩,
  ⟨(some 84), .move (.tmp 7), none, 0⟩,
  ⟨(some 85), .binOp .sub 3 (.tmp 84) (.const (.int .i64 7)) 3, none, 1024⟩,
  ⟨(some 86), .indexAddr 46 (.tmp 83) (.tmp 85), none, 3584⟩,
  ⟨(some 87), .load 29 (.tmp 86), none, 7680⟩,
  ⟨(some 88), .binOp .add 29 (.tmp 82) (.tmp 87) 29, none, 16380⟩,
  ⟨(some 89), .move (.tmp 11), none, 0⟩,
  ⟨(some 90), .binOp .add 29 (.tmp 88) (.tmp 89) 29, none, 65532⟩,
  ⟨(some 91), .indexAddr 46 (.tmp 74) (.tmp 75), none, 1267650600228229401496703336447⟩,
  ⟨none, .store 29 (.tmp 91) (.tmp 90), none, 1267650600228229401496703467519⟩]
def L40r15 : List AOp := [
  ⟨(some 46), .move (.tmp 7), none, 0⟩,
  ⟨(some 47), .binOp .add 3 (.tmp 46) (.const (.int .i64 1)) 3, none, 0⟩,
  ⟨(some 7), .assign (.tmp 47), none, 0⟩]
def L40r20 : List AOp := [
  ⟨(some 92), .move (.tmp 4), none, 0⟩,
  ⟨(some 2), .assign (.tmp 92), none, 0⟩,
  ⟨(some 3), .assign (.const .nilIface), none, 0⟩]
def L40 : LC := (.seq (.region L40r0) (.seq (.seq (.region L40r1) (.cond (.tmp 14) (.seq (.region L40r2) .ret) .skip)) (.seq (.region L40r3) (.seq (.seq (.region L40r4) (.block 0 (.loop (.seq (.region L40r5) (.seq (.cond (.tmp 18) .skip (.exit 0)) (.seq (.block 1 (.seq (.region L40r6) (.seq (.region L40r7) (.block 2 (.loop (.seq (.region L40r8) (.seq (.cond (.tmp 21) .skip (.exit 2)) (.seq (.block 3 (.seq (.region L40r9) (.regionD L40r10))) (.region L40r11))))))))) (.region L40r12))))))) (.seq (.seq (.region L40r13) (.block 4 (.loop (.seq (.seq (.region L40r14) (.cond (.tmp 45) .skip (.exit 4))) (.seq (.block 5 (.seq (.regionD L40r16) (.seq (.region L40r17) (.seq (.region L40r18) (.regionD L40r19))))) (.region L40r15)))))) (.seq (.region L40r20) .ret))))))
theorem nt40 : Try.f40.ntmps = 93 := by kernel_rfl
theorem rs40 : Try.f40.results.toList = [.tmp 2, .tmp 3] := by kernel_rfl
theorem lite40 : Try.f40.body.map (lite okDraw) = some L40 := by kernel_rfl
def L41r0 : List AOp := [
  ⟨(some 2), .assign (.const (.slice none 0 0)), none, 0⟩]
def L41r1 : List AOp := [
  ⟨(some 3), .assign (.const (.slice none 0 0)), none, 0⟩]
def L41r2 : List AOp := [
  ⟨(some 4), .assign (.const (.int .i64 0)), none, 0⟩]
def L41r3 : List AOp := [
  ⟨(some 9), .move (.tmp 4), none, 0⟩,
  ⟨(some 10), .binOp .lss 3 (.tmp 9) (.const (.int .i64 80)) 3, none, 0⟩]
def L41r5 : List AOp := [
  ⟨(some 13), .move (.tmp 4), none, 0⟩,
  ⟨(some 14), .binOp .lss 3 (.tmp 13) (.const (.int .i64 16)) 3, none, 0⟩]
def L41r6 : List AOp := [
  ⟨(some 5), .assign (.const (.int .u64 0)), none, 0⟩]
def L41r7 : List AOp := [
  ⟨(some 6), .assign (.const (.int .i64 0)), none, 0⟩]
def L41r8 : List AOp := [
  ⟨(some 15), .move (.tmp 6), none, 0⟩,
  ⟨(some 16), .binOp .lss 3 (.tmp 15) (.const (.int .i64 8)) 3, none, 0⟩]
def L41r10 : List AOp := [
  ⟨(some 19), .move (.tmp 5), none, 0⟩,
  ⟨(some 20), .binOp .mul 29 (.const (.int .u64 256)) (.tmp 19) 29, none, 0⟩,
  ⟨(some 21), .move (.tmp 0), none, 0⟩,
  ⟨(some 22), .move (.tmp 4), none, 0⟩,
  ⟨(some 23), .binOp .mul 3 (.const (.int .i64 8)) (.tmp 22) 3, none, 0⟩,
  ⟨(some 24), .move (.tmp 6), none, 0⟩,
  ⟨(some 25), .binOp .add 3 (.tmp 23) (.tmp 24) 3, none, 0⟩,
  ⟨(some 26), .indexAddr 27 (.tmp 21) (.tmp 25), none, 0⟩,
  ⟨(some 27), .load 5 (.tmp 26), none, 0⟩,
  ⟨(some 28), .convert 5 29 (.tmp 27), none, 0⟩,
  ⟨(some 29), .binOp .add 29 (.tmp 20) (.tmp 28) 29, none, 0⟩,
  ⟨(some 5), .assign (.tmp 29), none, 0⟩]
def L41r9 : List AOp := [
  ⟨(some 17), .move (.tmp 6), none, 0⟩,
  ⟨(some 18), .binOp .add 3 (.tmp 17) (.const (.int .i64 1)) 3, none, 0⟩,
  ⟨(some 6), .assign (.tmp 18), none, 0⟩]
def L41r11 : List AOp := [
  ⟨(some 30), .move (.tmp 3), none, 0⟩,
  ⟨(some 31), .move (.tmp 5), none, 0⟩,
  ⟨(some 32), .buildSlice 46 1 #[(0, .tmp 31)], none, 0⟩,
  ⟨(some 33), .call { callee := .builtin .append, args := #[.tmp 30, .tmp 32], argTypes := #[46, 46] }, none, 0⟩,
  ⟨(some 3), .assign (.tmp 33), none, 0⟩]
def L41r12 : List AOp := [
  ⟨(some 34), .move (.tmp 3), none, 0⟩,
  ⟨(some 35), .move (.tmp 4), none, 0⟩,
  ⟨(some 36), .binOp .sub 3 (.tmp 35) (.const (.int .i64 15)) 3, none, 2⟩,
  ⟨(some 37), .indexAddr 46 (.tmp 34) (.tmp 36), none, 7⟩,
  ⟨(some 38), .load 29 (.tmp 37), none, 15⟩,
  ⟨(some 39), .call { callee := .value (.func 59), args := #[.tmp 38, .const (.int .i64 1)], argTypes := #[29, 3] }, none, 31⟩,
  ⟨(some 40), .move (.tmp 3), none, 0⟩,
  ⟨(some 41), .move (.tmp 4), none, 0⟩,
  ⟨(some 42), .binOp .sub 3 (.tmp 41) (.const (.int .i64 15)) 3, none, 128⟩,
  ⟨(some 43), .indexAddr 46 (.tmp 40) (.tmp 42), none, 448⟩,
  ⟨(some 44), .load 29 (.tmp 43), none, 960⟩,
  ⟨(some 45), .call { callee := .value (.func 59), args := #[.tmp 44, .const (.int .i64 8)], argTypes := #[29, 3] }, none, 2047⟩,
  ⟨(some 46), .binOp .xor 29 (.tmp 39) (.tmp 45) 29, none, 4095⟩,
  ⟨(some 47), .move (.tmp 3), none, 0⟩,
  ⟨(some 48), .move (.tmp 4), none, 0⟩,
  ⟨(some 49), .binOp .sub 3 (.tmp 48) (.const (.int .i64 15)) 3, none, 16384⟩,
  ⟨(some 50), .indexAddr 46 (.tmp 47) (.tmp 49), none, 57344⟩,
  ⟨(some 51), .load 29 (.tmp 50), none, 122880⟩,
  ⟨(some 52), .binOp .shr 29 (.tmp 51) (.const (.int .u64 7)) 76, none, 253952⟩,
  ⟨(some 53), .binOp .xor 29 (.tmp 46) (.tmp 52) 29, none, 1267650600228229401496703729663⟩,
  ⟨(some 7), .assign (.tmp 53), none, 1267650600228229401496704253951⟩]
def L41r13 : List AOp := [
  ⟨(some 54), .move (.tmp 3), none, 0⟩,
  ⟨(some 55), .move (.tmp 4), none, 0⟩,
  ⟨(some 56), .binOp .sub 3 (.tmp 55) (.const (.int .i64 2)) 3, none, 2⟩,
  ⟨(some 57), .indexAddr 46 (.tmp 54) (.tmp 56), none, 7⟩,
  ⟨(some 58), .load 29 (.tmp 57), none, 15⟩,
  ⟨(some 59), .call { callee := .value (.func 59), args := #[.tmp 58, .const (.int .i64 19)], argTypes := #[29, 3] }, none, 31⟩,
  ⟨(some 60), .move (.tmp 3), none, 0⟩,
  ⟨(some 61), .move (.tmp 4), none, 0⟩,
  ⟨(some 62), .binOp .sub 3 (.tmp 61) (.const (.int .i64 2)) 3, none, 128⟩,
  ⟨(some 63), .indexAddr 46 (.tmp 60) (.tmp 62), none, 448⟩,
  ⟨(some 64), .load 29 (.tmp 63), none, 960⟩,
  ⟨(some 65), .call { callee := .value (.func 59), args := #[.tmp 64, .const (.int .i64 61)], argTypes := #[29, 3] }, none, 2047⟩,
  ⟨(some 66), .binOp .xor 29 (.tmp 59) (.tmp 65) 29, none, 4095⟩,
  ⟨(some 67), .move (.tmp 3), none, 0⟩,
  ⟨(some 68), .move (.tmp 4), none, 0⟩,
  ⟨(some 69), .binOp .sub 3 (.tmp 68) (.const (.int .i64 2)) 3, none, 16384⟩,
  ⟨(some 70), .indexAddr 46 (.tmp 67) (.tmp 69), none, 57344⟩,
  ⟨(some 71), .load 29 (.tmp 70), none, 122880⟩,
  ⟨(some 72), .binOp .shr 29 (.tmp 71) (.const (.int .u64 6)) 76, none, 253952⟩,
  ⟨(some 73), .binOp .xor 29 (.tmp 66) (.tmp 72) 29, none, 1267650600228229401496703729663⟩,
  ⟨(some 8), .assign (.tmp 73), none, 1267650600228229401496704253951⟩]
def L41r14 : List AOp := [
  ⟨(some 74), .move (.tmp 3), none, 0⟩,
  ⟨(some 75), .move (.tmp 3), none, 0⟩,
  ⟨(some 76), .move (.tmp 4), none, 0⟩,
  ⟨(some 77), .binOp .sub 3 (.tmp 76) (.const (.int .i64 16)) 3, none, 4⟩,
  ⟨(some 78), .indexAddr 46 (.tmp 75) (.tmp 77), none, 14⟩,
  ⟨(some 79), .load 29 (.tmp 78), none, 30⟩,
  ⟨(some 80), .move (.tmp 7), none, 0⟩,
  ⟨(some 81), .binOp .add 29 (.tmp 79) (.tmp 80) 29, none, 126⟩,
  ⟨(some 82), .move (.tmp 3), none, 0⟩,
  ⟨(some 83), .move (.tmp 4), none, 0⟩,
  ⟨(some 84), .binOp .sub 3 (.tmp 83) (.const (.int .i64 7)) 3, none, 512⟩,
  ⟨(some 85), .indexAddr 46 (.tmp 82) (.tmp 84), none, 1792⟩,
  ⟨(some 86), .load 29 (.tmp 85), none, 3840⟩,
  ⟨(some 87), .binOp .add 29 (.tmp 81) (.tmp 86) 29, none, 8190⟩,
  ⟨(some 88), .move (.tmp 8), none, 0⟩,
  ⟨(some 89), .binOp .add 29 (.tmp 87) (.tmp 88) 29, none, 32766⟩,
  ⟨(some 90), .buildSlice 46 1 #[(0, .tmp 89)], none, 65534⟩,
  ⟨(some 91), .call { callee := .builtin .append, args := #[.tmp 74, .tmp 90], argTypes := #[46, 46] }, none, 1267650600228229401496703336447⟩,
  ⟨(some 3), .assign (.tmp 91), none, 1267650600228229401496703467519⟩]
def L41r4 : List AOp := [
  ⟨(some 11), .move (.tmp 4), none, 0⟩,
  ⟨(some 12), .binOp .add 3 (.tmp 11) (.const (.int .i64 1)) 3, none, 0⟩,
  ⟨(some 4), .assign (.tmp 12), none, 0⟩]
def L41r15 : List AOp := [
  ⟨(some 92), .move (.tmp 3), none, 0⟩,
  ⟨(some 2), .assign (.tmp 92), none, 0⟩]
def L41 : LC := (.seq (.region L41r0) (.seq (.region L41r1) (.seq (.seq (.region L41r2) (.block 0 (.loop (.seq (.seq (.region L41r3) (.cond (.tmp 10) .skip (.exit 0))) (.seq (.block 1 (.seq (.seq (.region L41r5) (.cond (.tmp 14) (.seq (.region L41r6) (.seq (.seq (.region L41r7) (.block 2 (.loop (.seq (.seq (.region L41r8) (.cond (.tmp 16) .skip (.exit 2))) (.seq (.block 3 (.region L41r10)) (.region L41r9)))))) (.seq (.region L41r11) (.exit 1)))) .skip)) (.seq (.regionD L41r12) (.seq (.regionD L41r13) (.regionD L41r14))))) (.region L41r4)))))) (.seq (.region L41r15) .ret))))
theorem nt41 : Try.f41.ntmps = 93 := by kernel_rfl
theorem rs41 : Try.f41.results.toList = [.tmp 2] := by kernel_rfl
theorem lite41 : Try.f41.body.map (lite okDraw) = some L41 := by kernel_rfl
end Eng
