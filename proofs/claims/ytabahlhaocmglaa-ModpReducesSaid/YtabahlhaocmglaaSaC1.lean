/- Contracts of the program's functions, and laws over them. There is no further condition. -/
import Derived.Test.YtabahlhaocmglaaSaTy
set_option linter.unusedVariables false
set_option linter.unusedSimpArgs false
set_option exponentiation.threshold 2000
namespace Eng
open Go Go.Proofs
theorem hM0 : Try.prog.follows .mixedOrders = true := by kernel_rfl
theorem eq24 : eqArr Try.prog 24 = true := by kernel_rfl
def L3r0 : List AOp := [
  ⟨(some 2), .box 24 (.tmp 0), none, 0⟩,
  ⟨(some 4), .assign (.const (.bool false)), none, 0⟩]
def L3r1 : List AOp := [
  ⟨(some 5), .assign (.const (.int .u64 0)), none, 0⟩]
def L3r2 : List AOp := [
  ⟨(some 6), .move (.tmp 1), none, 0⟩,
  ⟨(some 7), .binOp .geq 3 (.tmp 6) (.const (.int .i64 0)) 3, none, 0⟩,
  ⟨(some 8), .move (.tmp 7), none, 0⟩,
  ⟨(some 9), .move (.tmp 1), (some (8, true)), 0⟩,
  ⟨(some 10), .binOp .lss 3 (.tmp 9) (.const (.int .i64 384)) 3, (some (8, true)), 0⟩,
  ⟨(some 11), .pick (.tmp 8) (.tmp 10) (.const (.bool false)), none, 0⟩]
def L3r3 : List AOp := [
  ⟨(some 12), .move (.tmp 1), none, 0⟩,
  ⟨(some 13), .binOp .quo 3 (.tmp 12) (.const (.int .i64 64)) 3, none, 0⟩,
  ⟨(some 14), .indexAddr 24 (.tmp 2) (.tmp 13), none, 0⟩,
  ⟨(some 15), .load 22 (.tmp 14), none, 0⟩,
  ⟨(some 16), .move (.tmp 1), none, 0⟩,
  ⟨(some 17), .binOp .rem 3 (.tmp 16) (.const (.int .i64 64)) 3, none, 0⟩,
  ⟨(some 18), .binOp .shr 22 (.tmp 15) (.tmp 17) 3, none, 0⟩,
  ⟨(some 19), .binOp .rem 22 (.tmp 18) (.const (.int .u64 2)) 22, none, 0⟩,
  ⟨(some 5), .assign (.tmp 19), none, 0⟩]
def L3r4 : List AOp := [
  ⟨(some 20), .call { callee := .value (.func 22), args := #[], argTypes := #[] }, none, 0⟩,
  ⟨(some 21), .call { callee := .value (.func 21), args := #[.tmp 20, .const (.int .i64 0)], argTypes := #[24, 3] }, none, 0⟩,
  ⟨(some 22), .binOp .eql 22 (.tmp 21) (.const (.int .u64 1)) 22, none, 0⟩,
  ⟨(some 23), .move (.tmp 22), none, 0⟩,
  ⟨(some 24), .load 24 (.tmp 2), (some (23, true)), 0⟩,
  ⟨(some 25), .move (.tmp 1), (some (23, true)), 0⟩,
  ⟨(some 26), .call { callee := .value (.func 21), args := #[.tmp 24, .tmp 25], argTypes := #[24, 3] }, (some (23, true)), 0⟩,
  ⟨(some 27), .move (.tmp 5), (some (23, true)), 0⟩,
  ⟨(some 28), .binOp .eql 22 (.tmp 26) (.tmp 27) 22, (some (23, true)), 0⟩,
  ⟨(some 29), .pick (.tmp 23) (.tmp 28) (.const (.bool false)), none, 0⟩,
  ⟨(some 4), .assign (.tmp 29), none, 0⟩]
def L3 : LC := (.seq (.region L3r0) (.seq (.region L3r1) (.seq (.seq (.region L3r2) (.cond (.tmp 11) (.region L3r3) .skip)) (.seq (.region L3r4) .ret))))
theorem nt3 : Try.f3.ntmps = 30 := by kernel_rfl
theorem rs3 : Try.f3.results.toList = [.tmp 4] := by kernel_rfl
theorem lite3 : Try.f3.body.map (lite okDraw) = some L3 := by kernel_rfl
def L21r0 : List AOp := [
  ⟨(some 2), .box 24 (.tmp 0), none, 0⟩,
  ⟨(some 4), .assign (.const (.int .u64 0)), none, 0⟩]
def L21r1 : List AOp := [
  ⟨(some 5), .move (.tmp 1), none, 0⟩,
  ⟨(some 6), .binOp .lss 3 (.tmp 5) (.const (.int .i64 0)) 3, none, 0⟩,
  ⟨(some 7), .move (.tmp 6), none, 0⟩,
  ⟨(some 8), .move (.tmp 1), (some (7, false)), 0⟩,
  ⟨(some 9), .binOp .geq 3 (.tmp 8) (.const (.int .i64 384)) 3, (some (7, false)), 0⟩,
  ⟨(some 10), .pick (.tmp 7) (.const (.bool true)) (.tmp 9), none, 0⟩]
def L21r2 : List AOp := [
  ⟨(some 4), .assign (.const (.int .u64 0)), none, 0⟩]
def L21r3 : List AOp := [
  ⟨(some 11), .move (.tmp 1), none, 0⟩,
  ⟨(some 12), .binOp .quo 3 (.tmp 11) (.const (.int .i64 64)) 3, none, 0⟩,
  ⟨(some 13), .indexAddr 24 (.tmp 2) (.tmp 12), none, 0⟩,
  ⟨(some 14), .load 22 (.tmp 13), none, 0⟩,
  ⟨(some 15), .move (.tmp 1), none, 0⟩,
  ⟨(some 16), .binOp .rem 3 (.tmp 15) (.const (.int .i64 64)) 3, none, 0⟩,
  ⟨(some 17), .binOp .shr 22 (.tmp 14) (.tmp 16) 3, none, 0⟩,
  ⟨(some 18), .binOp .and 22 (.tmp 17) (.const (.int .u64 1)) 22, none, 0⟩,
  ⟨(some 4), .assign (.tmp 18), none, 0⟩]
def L21 : LC := (.seq (.region L21r0) (.seq (.seq (.region L21r1) (.cond (.tmp 10) (.seq (.region L21r2) .ret) .skip)) (.seq (.region L21r3) .ret)))
theorem nt21 : Try.f21.ntmps = 19 := by kernel_rfl
theorem rs21 : Try.f21.results.toList = [.tmp 4] := by kernel_rfl
theorem lite21 : Try.f21.body.map (lite okDraw) = some L21 := by kernel_rfl
def L22r0 : List AOp := [
  ⟨(some 0), .alloc 24, none, 0⟩]
def L22r1 : List AOp := [
  ⟨(some 1), .build 24 #[(0, .const (.int .u64 1))], none, 0⟩,
  ⟨none, .store 24 (.tmp 0) (.tmp 1), none, 0⟩]
def L22 : LC := (.seq (.region L22r0) (.seq (.region L22r1) .ret))
theorem nt22 : Try.f22.ntmps = 2 := by kernel_rfl
theorem rs22 : Try.f22.results.toList = [.cell 0 24] := by kernel_rfl
theorem lite22 : Try.f22.body.map (lite okDraw) = some L22 := by kernel_rfl
def L4r0 : List AOp := [
  ⟨(some 4), .box 24 (.tmp 1), none, 0⟩,
  ⟨(some 5), .box 24 (.tmp 2), none, 0⟩,
  ⟨(some 6), .assign (.const (.bool false)), none, 0⟩]
def L4r1 : List AOp := [
  ⟨(some 8), .load 24 (.tmp 4), none, 0⟩,
  ⟨(some 7), .alloc 24, none, 0⟩,
  ⟨none, .store 24 (.tmp 7) (.tmp 8), none, 0⟩]
def L4r2 : List AOp := [
  ⟨(some 9), .move (.tmp 0), none, 0⟩,
  ⟨(some 10), .binOp .rem 22 (.tmp 9) (.const (.int .u64 2)) 22, none, 0⟩,
  ⟨(some 11), .binOp .eql 22 (.tmp 10) (.const (.int .u64 1)) 22, none, 0⟩]
def L4r3 : List AOp := [
  ⟨(some 12), .load 24 (.tmp 5), none, 0⟩,
  ⟨none, .store 24 (.tmp 7) (.tmp 12), none, 0⟩]
def L4r4 : List AOp := [
  ⟨(some 13), .call { callee := .value (.func 22), args := #[], argTypes := #[] }, none, 0⟩,
  ⟨(some 14), .build 24 #[], none, 0⟩,
  ⟨(some 15), .call { callee := .value (.func 23), args := #[.const (.int .u64 0), .tmp 13, .tmp 14], argTypes := #[22, 24, 24] }, none, 1267650600228229401496703205379⟩,
  ⟨(some 16), .call { callee := .value (.func 22), args := #[], argTypes := #[] }, none, 1267650600228229401496703205383⟩,
  ⟨(some 17), .binOp .eql 24 (.tmp 15) (.tmp 16) 24, none, 1267650600228229401496703205391⟩,
  ⟨(some 18), .move (.tmp 17), none, 1267650600228229401496703205407⟩,
  ⟨(some 19), .move (.tmp 0), (some (18, true)), 63⟩,
  ⟨(some 20), .load 24 (.tmp 4), (some (18, true)), 63⟩,
  ⟨(some 21), .load 24 (.tmp 5), (some (18, true)), 63⟩,
  ⟨(some 22), .call { callee := .value (.func 23), args := #[.tmp 19, .tmp 20, .tmp 21], argTypes := #[22, 24, 24] }, (some (18, true)), 511⟩,
  ⟨(some 23), .load 24 (.tmp 7), (some (18, true)), 63⟩,
  ⟨(some 24), .binOp .eql 24 (.tmp 22) (.tmp 23) 24, (some (18, true)), 1267650600228229401496703207423⟩,
  ⟨(some 25), .pick (.tmp 18) (.tmp 24) (.const (.bool false)), none, 1267650600228229401496703209471⟩,
  ⟨(some 6), .assign (.tmp 25), none, 1267650600228229401496703213567⟩]
def L4 : LC := (.seq (.region L4r0) (.seq (.region L4r1) (.seq (.seq (.region L4r2) (.cond (.tmp 11) (.region L4r3) .skip)) (.seq (.regionD L4r4) .ret))))
theorem nt4 : Try.f4.ntmps = 26 := by kernel_rfl
theorem rs4 : Try.f4.results.toList = [.tmp 6] := by kernel_rfl
theorem lite4 : Try.f4.body.map (lite okDraw) = some L4 := by kernel_rfl
def L23r0 : List AOp := [
  ⟨(some 4), .box 24 (.tmp 1), none, 0⟩,
  ⟨(some 5), .box 24 (.tmp 2), none, 0⟩,
  ⟨(some 6), .alloc 24, none, 0⟩]
def L23r1 : List AOp := [
  ⟨(some 10), .move (.tmp 0), none, 0⟩,
  ⟨(some 11), .binOp .and 22 (.tmp 10) (.const (.int .u64 1)) 22, none, 0⟩,
  ⟨(some 12), .unOp .neg 22 (.tmp 11), none, 0⟩,
  ⟨(some 7), .assign (.tmp 12), none, 0⟩]
def L23r2 : List AOp := [
  ⟨(some 8), .alloc 24, none, 0⟩]
def L23r3 : List AOp := [
  ⟨(some 13), .move (.const (.int .i64 0)), none, 0⟩]
def L23r4 : List AOp := [
  ⟨(some 14), .binOp .lss 3 (.tmp 13) (.const (.int .i64 6)) 3, none, 0⟩]
def L23r5 : List AOp := [
  ⟨(some 15), .move (.tmp 13), none, 0⟩,
  ⟨(some 9), .assign (.tmp 15), none, 0⟩]
def L23r6 : List AOp := [
  ⟨(some 16), .move (.tmp 9), none, 0⟩,
  ⟨(some 17), .move (.tmp 9), none, 0⟩,
  ⟨(some 18), .indexAddr 24 (.tmp 4) (.tmp 17), none, 2⟩,
  ⟨(some 19), .load 22 (.tmp 18), none, 6⟩,
  ⟨(some 20), .move (.tmp 7), none, 0⟩,
  ⟨(some 21), .binOp .andNot 22 (.tmp 19) (.tmp 20) 22, none, 30⟩,
  ⟨(some 22), .move (.tmp 9), none, 0⟩,
  ⟨(some 23), .indexAddr 24 (.tmp 5) (.tmp 22), none, 64⟩,
  ⟨(some 24), .load 22 (.tmp 23), none, 192⟩,
  ⟨(some 25), .move (.tmp 7), none, 0⟩,
  ⟨(some 26), .binOp .and 22 (.tmp 24) (.tmp 25) 22, none, 960⟩,
  ⟨(some 27), .binOp .or 22 (.tmp 21) (.tmp 26) 22, none, 2046⟩,
  ⟨(some 28), .indexAddr 24 (.tmp 8) (.tmp 16), none, 1267650600228229401496703209471⟩,
  ⟨none, .store 22 (.tmp 28) (.tmp 27), none, 1267650600228229401496703213567⟩]
def L23r7 : List AOp := [
  ⟨(some 29), .binOp .add 3 (.tmp 13) (.const (.int .i64 1)) 3, none, 0⟩,
  ⟨(some 13), .move (.tmp 29), none, 0⟩]
def L23r8 : List AOp := [
  ⟨(some 30), .load 24 (.tmp 8), none, 0⟩,
  ⟨none, .store 24 (.tmp 6) (.tmp 30), none, 0⟩]
def L23 : LC := (.seq (.region L23r0) (.seq (.region L23r1) (.seq (.region L23r2) (.seq (.seq (.region L23r3) (.block 0 (.loop (.seq (.region L23r4) (.seq (.cond (.tmp 14) .skip (.exit 0)) (.seq (.block 1 (.seq (.region L23r5) (.regionD L23r6))) (.region L23r7))))))) (.seq (.region L23r8) .ret)))))
theorem nt23 : Try.f23.ntmps = 31 := by kernel_rfl
theorem rs23 : Try.f23.results.toList = [.cell 6 24] := by kernel_rfl
theorem lite23 : Try.f23.body.map (lite okDraw) = some L23 := by kernel_rfl
def L6r0 : List AOp := [
  ⟨(some 2), .box 24 (.tmp 0), none, 0⟩,
  ⟨(some 3), .box 24 (.tmp 1), none, 0⟩,
  ⟨(some 4), .assign (.const (.bool false)), none, 0⟩]
def L6r1 : List AOp := [
  ⟨(some 13), .call { callee := .value (.func 22), args := #[], argTypes := #[] }, none, 0⟩,
  ⟨(some 14), .build 24 #[], none, 0⟩,
  ⟨(some 15), .call { callee := .value (.func 27), args := #[.tmp 13, .tmp 14], argTypes := #[24, 24] }, none, 0⟩,
  ⟨(some 12), .move (.tmp 15), none, 0⟩,
  ⟨(some 16), .extract (.tmp 12) 0, none, 0⟩,
  ⟨(some 17), .extract (.tmp 12) 1, none, 0⟩,
  ⟨(some 5), .alloc 24, none, 0⟩,
  ⟨none, .store 24 (.tmp 5) (.tmp 16), none, 0⟩,
  ⟨(some 6), .assign (.tmp 17), none, 0⟩]
def L6r2 : List AOp := [
  ⟨(some 19), .load 24 (.tmp 2), none, 0⟩,
  ⟨(some 20), .load 24 (.tmp 3), none, 0⟩,
  ⟨(some 21), .call { callee := .value (.func 27), args := #[.tmp 19, .tmp 20], argTypes := #[24, 24] }, none, 0⟩,
  ⟨(some 18), .move (.tmp 21), none, 0⟩,
  ⟨(some 22), .extract (.tmp 18) 0, none, 0⟩,
  ⟨(some 23), .extract (.tmp 18) 1, none, 0⟩,
  ⟨(some 7), .alloc 24, none, 0⟩,
  ⟨none, .store 24 (.tmp 7) (.tmp 22), none, 0⟩,
  ⟨(some 8), .assign (.tmp 23), none, 0⟩]
def L6r3 : List AOp := [
  ⟨(some 24), .load 24 (.tmp 2), none, 0⟩,
  ⟨(some 25), .call { callee := .value (.func 28), args := #[.tmp 24], argTypes := #[23] }, none, 0⟩,
  ⟨(some 9), .assign (.tmp 25), none, 0⟩]
def L6r4 : List AOp := [
  ⟨(some 26), .load 24 (.tmp 3), none, 0⟩,
  ⟨(some 27), .call { callee := .value (.func 28), args := #[.tmp 26], argTypes := #[23] }, none, 0⟩,
  ⟨(some 10), .assign (.tmp 27), none, 0⟩]
def L6r5 : List AOp := [
  ⟨(some 28), .move (.tmp 9), none, 0⟩,
  ⟨(some 29), .move (.tmp 10), none, 0⟩,
  ⟨(some 30), .call { callee := .value (.func 29), args := #[.tmp 28, .tmp 29], argTypes := #[38, 38] }, none, 0⟩,
  ⟨(some 31), .binOp .lss 3 (.tmp 30) (.const (.int .i64 0)) 3, none, 0⟩,
  ⟨(some 11), .assign (.tmp 31), none, 0⟩]
def L6r6 : List AOp := [
  ⟨(some 32), .move (.tmp 11), none, 0⟩]
def L6r7 : List AOp := [
  ⟨(some 33), .move (.tmp 9), none, 0⟩,
  ⟨(some 34), .call { callee := .value (.func 31), args := #[], argTypes := #[] }, none, 0⟩,
  ⟨(some 35), .call { callee := .value (.func 30), args := #[.tmp 33, .tmp 34], argTypes := #[38, 38] }, none, 0⟩,
  ⟨(some 9), .assign (.tmp 35), none, 0⟩]
def L6r8 : List AOp := [
  ⟨(some 36), .load 24 (.tmp 5), none, 0⟩,
  ⟨(some 37), .call { callee := .value (.func 22), args := #[], argTypes := #[] }, none, 0⟩,
  ⟨(some 38), .binOp .eql 24 (.tmp 36) (.tmp 37) 24, none, 1267650600228229401496703205379⟩,
  ⟨(some 39), .move (.tmp 38), none, 1267650600228229401496703205383⟩,
  ⟨(some 40), .move (.tmp 6), (some (39, true)), 1267650600228229401496703205391⟩,
  ⟨(some 41), .binOp .eql 22 (.tmp 40) (.const (.int .u64 0)) 22, (some (39, true)), 1267650600228229401496703205407⟩,
  ⟨(some 42), .pick (.tmp 39) (.tmp 41) (.const (.bool false)), none, 1267650600228229401496703205439⟩,
  ⟨(some 43), .move (.tmp 42), none, 1267650600228229401496703205503⟩,
  ⟨(some 44), .load 24 (.tmp 7), (some (43, true)), 255⟩,
  ⟨(some 45), .move (.tmp 9), (some (43, true)), 255⟩,
  ⟨(some 46), .move (.tmp 10), (some (43, true)), 255⟩,
  ⟨(some 47), .call { callee := .value (.func 32), args := #[.tmp 45, .tmp 46], argTypes := #[38, 38] }, (some (43, true)), 1791⟩,
  ⟨(some 48), .call { callee := .value (.func 25), args := #[.tmp 47], argTypes := #[38] }, (some (43, true)), 3839⟩,
  ⟨(some 49), .binOp .eql 24 (.tmp 44) (.tmp 48) 24, (some (43, true)), 1267650600228229401496703213567⟩,
  ⟨(some 50), .pick (.tmp 43) (.tmp 49) (.const (.bool false)), none, 1267650600228229401496703221759⟩,
  ⟨(some 51), .move (.tmp 50), none, 1267650600228229401496703238143⟩,
  ⟨(some 52), .move (.tmp 8), (some (51, true)), 65535⟩,
  ⟨(some 53), .move (.tmp 11), (some (51, true)), 65535⟩,
  ⟨(some 54), .call { callee := .value (.func 33), args := #[.tmp 53], argTypes := #[4] }, (some (51, true)), 196607⟩,
  ⟨(some 55), .binOp .eql 22 (.tmp 52) (.tmp 54) 22, (some (51, true)), 1267650600228229401496703729663⟩,
  ⟨(some 56), .pick (.tmp 51) (.tmp 55) (.const (.bool false)), none, 1267650600228229401496704253951⟩,
  ⟨(some 4), .assign (.tmp 56), none, 1267650600228229401496705302527⟩]
def L6 : LC := (.seq (.region L6r0) (.seq (.region L6r1) (.seq (.region L6r2) (.seq (.region L6r3) (.seq (.region L6r4) (.seq (.region L6r5) (.seq (.seq (.region L6r6) (.cond (.tmp 32) (.region L6r7) .skip)) (.seq (.regionD L6r8) .ret))))))))
theorem nt6 : Try.f6.ntmps = 57 := by kernel_rfl
theorem rs6 : Try.f6.results.toList = [.tmp 4] := by kernel_rfl
theorem lite6 : Try.f6.body.map (lite okDraw) = some L6 := by kernel_rfl
def L27r0 : List AOp := [
  ⟨(some 2), .box 24 (.tmp 0), none, 0⟩,
  ⟨(some 3), .box 24 (.tmp 1), none, 0⟩,
  ⟨(some 4), .alloc 24, none, 0⟩,
  ⟨(some 5), .assign (.const (.int .u64 0)), none, 0⟩]
def L27r1 : List AOp := [
  ⟨(some 6), .alloc 24, none, 0⟩]
def L27r2 : List AOp := [
  ⟨(some 7), .assign (.const (.int .u64 0)), none, 0⟩]
def L27r3 : List AOp := [
  ⟨(some 9), .move (.const (.int .i64 0)), none, 0⟩]
def L27r4 : List AOp := [
  ⟨(some 10), .binOp .lss 3 (.tmp 9) (.const (.int .i64 6)) 3, none, 0⟩]
def L27r5 : List AOp := [
  ⟨(some 11), .move (.tmp 9), none, 0⟩,
  ⟨(some 8), .assign (.tmp 11), none, 0⟩]
def L27r6 : List AOp := [
  ⟨(some 13), .move (.tmp 8), none, 0⟩,
  ⟨(some 14), .move (.tmp 8), none, 0⟩,
  ⟨(some 15), .indexAddr 24 (.tmp 2) (.tmp 14), none, 2⟩,
  ⟨(some 16), .load 22 (.tmp 15), none, 6⟩,
  ⟨(some 17), .move (.tmp 8), none, 0⟩,
  ⟨(some 18), .indexAddr 24 (.tmp 3) (.tmp 17), none, 16⟩,
  ⟨(some 19), .load 22 (.tmp 18), none, 48⟩,
  ⟨(some 20), .move (.tmp 7), none, 0⟩,
  ⟨(some 21), .call { callee := .value (.func 55), args := #[.tmp 16, .tmp 19, .tmp 20], argTypes := #[22, 22, 22] }, none, 254⟩,
  ⟨(some 12), .move (.tmp 21), none, 510⟩,
  ⟨(some 22), .extract (.tmp 12) 0, none, 1022⟩,
  ⟨(some 23), .extract (.tmp 12) 1, none, 1022⟩,
  ⟨(some 24), .indexAddr 24 (.tmp 6) (.tmp 13), none, 2047⟩,
  ⟨none, .store 22 (.tmp 24) (.tmp 22), none, 6143⟩,
  ⟨(some 7), .assign (.tmp 23), none, 1267650600228229401496703221759⟩]
def L27r7 : List AOp := [
  ⟨(some 25), .binOp .add 3 (.tmp 9) (.const (.int .i64 1)) 3, none, 0⟩,
  ⟨(some 9), .move (.tmp 25), none, 0⟩]
def L27r8 : List AOp := [
  ⟨(some 26), .load 24 (.tmp 6), none, 0⟩,
  ⟨(some 27), .move (.tmp 7), none, 0⟩,
  ⟨none, .store 24 (.tmp 4) (.tmp 26), none, 0⟩,
  ⟨(some 5), .assign (.tmp 27), none, 0⟩]
def L27 : LC := (.seq (.region L27r0) (.seq (.region L27r1) (.seq (.region L27r2) (.seq (.seq (.region L27r3) (.block 0 (.loop (.seq (.region L27r4) (.seq (.cond (.tmp 10) .skip (.exit 0)) (.seq (.block 1 (.seq (.region L27r5) (.regionD L27r6))) (.region L27r7))))))) (.seq (.region L27r8) .ret)))))
theorem nt27 : Try.f27.ntmps = 28 := by kernel_rfl
theorem rs27 : Try.f27.results.toList = [.cell 4 24, .tmp 5] := by kernel_rfl
theorem lite27 : Try.f27.body.map (lite okDraw) = some L27 := by kernel_rfl
def L7r0 : List AOp := [
  ⟨(some 2), .box 24 (.tmp 0), none, 0⟩,
  ⟨(some 3), .box 24 (.tmp 1), none, 0⟩,
  ⟨(some 4), .assign (.const (.bool false)), none, 0⟩]
def L7r1 : List AOp := [
  ⟨(some 5), .call { callee := .value (.func 22), args := #[], argTypes := #[] }, none, 1267650600228229401496703205376⟩,
  ⟨(some 6), .call { callee := .value (.func 22), args := #[], argTypes := #[] }, none, 1267650600228229401496703205377⟩,
  ⟨(some 7), .call { callee := .value (.func 34), args := #[.tmp 5, .tmp 6], argTypes := #[24, 24] }, none, 1267650600228229401496703205379⟩,
  ⟨(some 8), .binOp .eql 22 (.tmp 7) (.const (.int .u64 1)) 22, none, 1267650600228229401496703205383⟩,
  ⟨(some 9), .move (.tmp 8), none, 1267650600228229401496703205391⟩,
  ⟨(some 10), .load 24 (.tmp 2), (some (9, true)), 31⟩,
  ⟨(some 11), .load 24 (.tmp 3), (some (9, true)), 31⟩,
  ⟨(some 12), .call { callee := .value (.func 34), args := #[.tmp 10, .tmp 11], argTypes := #[24, 24] }, (some (9, true)), 127⟩,
  ⟨(some 13), .load 24 (.tmp 2), (some (9, true)), 31⟩,
  ⟨(some 14), .load 24 (.tmp 3), (some (9, true)), 31⟩,
  ⟨(some 15), .binOp .eql 24 (.tmp 13) (.tmp 14) 24, (some (9, true)), 799⟩,
  ⟨(some 16), .call { callee := .value (.func 33), args := #[.tmp 15], argTypes := #[4] }, (some (9, true)), 1267650600228229401496703207423⟩,
  ⟨(some 17), .binOp .eql 22 (.tmp 12) (.tmp 16) 22, (some (9, true)), 1267650600228229401496703209471⟩,
  ⟨(some 18), .pick (.tmp 9) (.tmp 17) (.const (.bool false)), none, 1267650600228229401496703213567⟩,
  ⟨(some 19), .move (.tmp 18), none, 1267650600228229401496703221759⟩,
  ⟨(some 20), .load 24 (.tmp 2), (some (19, true)), 32767⟩,
  ⟨(some 21), .load 24 (.tmp 2), (some (19, true)), 32767⟩,
  ⟨(some 22), .call { callee := .value (.func 34), args := #[.tmp 20, .tmp 21], argTypes := #[24, 24] }, (some (19, true)), 1267650600228229401496703336447⟩,
  ⟨(some 23), .binOp .eql 22 (.tmp 22) (.const (.int .u64 1)) 22, (some (19, true)), 1267650600228229401496703467519⟩,
  ⟨(some 24), .pick (.tmp 19) (.tmp 23) (.const (.bool false)), none, 1267650600228229401496703729663⟩,
  ⟨(some 4), .assign (.tmp 24), none, 1267650600228229401496704253951⟩]
def L7 : LC := (.seq (.region L7r0) (.seq (.regionD L7r1) .ret))
theorem nt7 : Try.f7.ntmps = 25 := by kernel_rfl
theorem rs7 : Try.f7.results.toList = [.tmp 4] := by kernel_rfl
theorem lite7 : Try.f7.body.map (lite okDraw) = some L7 := by kernel_rfl
def L34r0 : List AOp := [
  ⟨(some 2), .box 24 (.tmp 0), none, 0⟩,
  ⟨(some 3), .box 24 (.tmp 1), none, 0⟩,
  ⟨(some 4), .assign (.const (.int .u64 0)), none, 0⟩]
def L34r1 : List AOp := [
  ⟨(some 5), .assign (.const (.int .u64 0)), none, 0⟩]
def L34r2 : List AOp := [
  ⟨(some 9), .move (.const (.int .i64 0)), none, 0⟩]
def L34r3 : List AOp := [
  ⟨(some 10), .binOp .lss 3 (.tmp 9) (.const (.int .i64 6)) 3, none, 0⟩]
def L34r4 : List AOp := [
  ⟨(some 11), .move (.tmp 9), none, 0⟩,
  ⟨(some 6), .assign (.tmp 11), none, 0⟩]
def L34r5 : List AOp := [
  ⟨(some 12), .move (.tmp 5), none, 0⟩,
  ⟨(some 13), .move (.tmp 6), none, 0⟩,
  ⟨(some 14), .indexAddr 24 (.tmp 2) (.tmp 13), none, 2⟩,
  ⟨(some 15), .load 22 (.tmp 14), none, 6⟩,
  ⟨(some 16), .move (.tmp 6), none, 0⟩,
  ⟨(some 17), .indexAddr 24 (.tmp 3) (.tmp 16), none, 16⟩,
  ⟨(some 18), .load 22 (.tmp 17), none, 48⟩,
  ⟨(some 19), .binOp .xor 22 (.tmp 15) (.tmp 18) 22, none, 126⟩,
  ⟨(some 20), .binOp .or 22 (.tmp 12) (.tmp 19) 22, none, 1267650600228229401496703205631⟩,
  ⟨(some 5), .assign (.tmp 20), none, 1267650600228229401496703205887⟩]
def L34r6 : List AOp := [
  ⟨(some 21), .binOp .add 3 (.tmp 9) (.const (.int .i64 1)) 3, none, 0⟩,
  ⟨(some 9), .move (.tmp 21), none, 0⟩]
def L34r7 : List AOp := [
  ⟨(some 23), .move (.tmp 5), none, 0⟩,
  ⟨(some 24), .call { callee := .value (.func 55), args := #[.tmp 23, .const (.int .u64 1), .const (.int .u64 0)], argTypes := #[22, 22, 22] }, none, 0⟩,
  ⟨(some 22), .move (.tmp 24), none, 0⟩,
  ⟨(some 25), .extract (.tmp 22) 0, none, 0⟩,
  ⟨(some 26), .extract (.tmp 22) 1, none, 0⟩,
  ⟨(some 7), .assign (.tmp 25), none, 0⟩,
  ⟨(some 8), .assign (.tmp 26), none, 0⟩]
def L34r8 : List AOp := [
  ⟨(some 27), .move (.tmp 8), none, 0⟩,
  ⟨(some 4), .assign (.tmp 27), none, 0⟩]
def L34 : LC := (.seq (.region L34r0) (.seq (.region L34r1) (.seq (.seq (.region L34r2) (.block 0 (.loop (.seq (.region L34r3) (.seq (.cond (.tmp 10) .skip (.exit 0)) (.seq (.block 1 (.seq (.region L34r4) (.regionD L34r5))) (.region L34r6))))))) (.seq (.region L34r7) (.seq (.region L34r8) .ret)))))
theorem nt34 : Try.f34.ntmps = 28 := by kernel_rfl
theorem rs34 : Try.f34.results.toList = [.tmp 4] := by kernel_rfl
theorem lite34 : Try.f34.body.map (lite okDraw) = some L34 := by kernel_rfl
def L33r0 : List AOp := [
  ⟨(some 2), .assign (.const (.int .u64 0)), none, 0⟩]
def L33r1 : List AOp := [
  ⟨(some 3), .move (.tmp 0), none, 0⟩]
def L33r2 : List AOp := [
  ⟨(some 2), .assign (.const (.int .u64 1)), none, 0⟩]
def L33r3 : List AOp := [
  ⟨(some 2), .assign (.const (.int .u64 0)), none, 0⟩]
def L33 : LC := (.seq (.region L33r0) (.seq (.seq (.region L33r1) (.cond (.tmp 3) (.seq (.region L33r2) .ret) .skip)) (.seq (.region L33r3) .ret)))
theorem nt33 : Try.f33.ntmps = 4 := by kernel_rfl
theorem rs33 : Try.f33.results.toList = [.tmp 2] := by kernel_rfl
theorem lite33 : Try.f33.body.map (lite okDraw) = some L33 := by kernel_rfl
def L8r0 : List AOp := [
  ⟨(some 2), .box 24 (.tmp 0), none, 0⟩,
  ⟨(some 3), .box 24 (.tmp 1), none, 0⟩,
  ⟨(some 4), .assign (.const (.bool false)), none, 0⟩]
def L8r1 : List AOp := [
  ⟨(some 11), .build 24 #[], none, 0⟩,
  ⟨(some 12), .call { callee := .value (.func 22), args := #[], argTypes := #[] }, none, 0⟩,
  ⟨(some 13), .call { callee := .value (.func 35), args := #[.tmp 11, .tmp 12], argTypes := #[24, 24] }, none, 0⟩,
  ⟨(some 10), .move (.tmp 13), none, 0⟩,
  ⟨(some 14), .extract (.tmp 10) 0, none, 0⟩,
  ⟨(some 15), .extract (.tmp 10) 1, none, 0⟩,
  ⟨(some 5), .alloc 24, none, 0⟩,
  ⟨none, .store 24 (.tmp 5) (.tmp 14), none, 0⟩,
  ⟨(some 6), .assign (.tmp 15), none, 0⟩]
def L8r2 : List AOp := [
  ⟨(some 17), .load 24 (.tmp 2), none, 0⟩,
  ⟨(some 18), .load 24 (.tmp 3), none, 0⟩,
  ⟨(some 19), .call { callee := .value (.func 35), args := #[.tmp 17, .tmp 18], argTypes := #[24, 24] }, none, 0⟩,
  ⟨(some 16), .move (.tmp 19), none, 0⟩,
  ⟨(some 20), .extract (.tmp 16) 0, none, 0⟩,
  ⟨(some 21), .extract (.tmp 16) 1, none, 0⟩,
  ⟨(some 7), .alloc 24, none, 0⟩,
  ⟨none, .store 24 (.tmp 7) (.tmp 20), none, 0⟩,
  ⟨(some 8), .assign (.tmp 21), none, 0⟩]
def L8r3 : List AOp := [
  ⟨(some 22), .load 24 (.tmp 2), none, 0⟩,
  ⟨(some 23), .call { callee := .value (.func 28), args := #[.tmp 22], argTypes := #[23] }, none, 1⟩,
  ⟨(some 24), .load 24 (.tmp 3), none, 0⟩,
  ⟨(some 25), .call { callee := .value (.func 28), args := #[.tmp 24], argTypes := #[23] }, none, 1267650600228229401496703205383⟩,
  ⟨(some 26), .call { callee := .value (.func 30), args := #[.tmp 23, .tmp 25], argTypes := #[38, 38] }, none, 1267650600228229401496703205391⟩,
  ⟨(some 9), .assign (.tmp 26), none, 1267650600228229401496703205407⟩]
def L8r4 : List AOp := [
  ⟨(some 27), .load 24 (.tmp 5), none, 0⟩,
  ⟨(some 28), .call { callee := .value (.func 22), args := #[], argTypes := #[] }, none, 0⟩,
  ⟨(some 29), .binOp .eql 24 (.tmp 27) (.tmp 28) 24, none, 1267650600228229401496703205379⟩,
  ⟨(some 30), .move (.tmp 29), none, 1267650600228229401496703205383⟩,
  ⟨(some 31), .move (.tmp 6), (some (30, true)), 1267650600228229401496703205391⟩,
  ⟨(some 32), .binOp .eql 22 (.tmp 31) (.const (.int .u64 0)) 22, (some (30, true)), 1267650600228229401496703205407⟩,
  ⟨(some 33), .pick (.tmp 30) (.tmp 32) (.const (.bool false)), none, 1267650600228229401496703205439⟩,
  ⟨(some 34), .move (.tmp 33), none, 1267650600228229401496703205503⟩,
  ⟨(some 35), .load 24 (.tmp 7), (some (34, true)), 255⟩,
  ⟨(some 36), .move (.tmp 9), (some (34, true)), 255⟩,
  ⟨(some 37), .call { callee := .value (.func 25), args := #[.tmp 36], argTypes := #[38] }, (some (34, true)), 767⟩,
  ⟨(some 38), .binOp .eql 24 (.tmp 35) (.tmp 37) 24, (some (34, true)), 1267650600228229401496703207423⟩,
  ⟨(some 39), .pick (.tmp 34) (.tmp 38) (.const (.bool false)), none, 1267650600228229401496703209471⟩,
  ⟨(some 40), .move (.tmp 39), none, 1267650600228229401496703213567⟩,
  ⟨(some 41), .move (.tmp 8), (some (40, true)), 16383⟩,
  ⟨(some 42), .move (.tmp 9), (some (40, true)), 16383⟩,
  ⟨(some 43), .call { callee := .value (.func 36), args := #[.tmp 42], argTypes := #[38] }, (some (40, true)), 49151⟩,
  ⟨(some 44), .binOp .gtr 3 (.tmp 43) (.const (.int .i64 384)) 3, (some (40, true)), 114687⟩,
  ⟨(some 45), .call { callee := .value (.func 33), args := #[.tmp 44], argTypes := #[4] }, (some (40, true)), 245759⟩,
  ⟨(some 46), .binOp .eql 22 (.tmp 41) (.tmp 45) 22, (some (40, true)), 1267650600228229401496703729663⟩,
  ⟨(some 47), .pick (.tmp 40) (.tmp 46) (.const (.bool false)), none, 1267650600228229401496704253951⟩,
  ⟨(some 4), .assign (.tmp 47), none, 1267650600228229401496705302527⟩]
def L8 : LC := (.seq (.region L8r0) (.seq (.region L8r1) (.seq (.region L8r2) (.seq (.regionD L8r3) (.seq (.regionD L8r4) .ret)))))
theorem nt8 : Try.f8.ntmps = 48 := by kernel_rfl
theorem rs8 : Try.f8.results.toList = [.tmp 4] := by kernel_rfl
theorem lite8 : Try.f8.body.map (lite okDraw) = some L8 := by kernel_rfl
def L35r0 : List AOp := [
  ⟨(some 2), .box 24 (.tmp 0), none, 0⟩,
  ⟨(some 3), .box 24 (.tmp 1), none, 0⟩,
  ⟨(some 4), .alloc 24, none, 0⟩,
  ⟨(some 5), .assign (.const (.int .u64 0)), none, 0⟩]
def L35r1 : List AOp := [
  ⟨(some 6), .alloc 24, none, 0⟩]
def L35r2 : List AOp := [
  ⟨(some 7), .assign (.const (.int .u64 0)), none, 0⟩]
def L35r3 : List AOp := [
  ⟨(some 9), .move (.const (.int .i64 0)), none, 0⟩]
def L35r4 : List AOp := [
  ⟨(some 10), .binOp .lss 3 (.tmp 9) (.const (.int .i64 6)) 3, none, 0⟩]
def L35r5 : List AOp := [
  ⟨(some 11), .move (.tmp 9), none, 0⟩,
  ⟨(some 8), .assign (.tmp 11), none, 0⟩]
def L35r6 : List AOp := [
  ⟨(some 13), .move (.tmp 8), none, 0⟩,
  ⟨(some 14), .move (.tmp 8), none, 0⟩,
  ⟨(some 15), .indexAddr 24 (.tmp 2) (.tmp 14), none, 2⟩,
  ⟨(some 16), .load 22 (.tmp 15), none, 6⟩,
  ⟨(some 17), .move (.tmp 8), none, 0⟩,
  ⟨(some 18), .indexAddr 24 (.tmp 3) (.tmp 17), none, 16⟩,
  ⟨(some 19), .load 22 (.tmp 18), none, 48⟩,
  ⟨(some 20), .move (.tmp 7), none, 0⟩,
  ⟨(some 21), .call { callee := .value (.func 58), args := #[.tmp 16, .tmp 19, .tmp 20], argTypes := #[22, 22, 22] }, none, 254⟩,
  ⟨(some 12), .move (.tmp 21), none, 510⟩,
  ⟨(some 22), .extract (.tmp 12) 0, none, 1022⟩,
  ⟨(some 23), .extract (.tmp 12) 1, none, 1022⟩,
  ⟨(some 24), .indexAddr 24 (.tmp 6) (.tmp 13), none, 2047⟩,
  ⟨none, .store 22 (.tmp 24) (.tmp 22), none, 6143⟩,
  ⟨(some 7), .assign (.tmp 23), none, 1267650600228229401496703221759⟩]
def L35r7 : List AOp := [
  ⟨(some 25), .binOp .add 3 (.tmp 9) (.const (.int .i64 1)) 3, none, 0⟩,
  ⟨(some 9), .move (.tmp 25), none, 0⟩]
def L35r8 : List AOp := [
  ⟨(some 26), .load 24 (.tmp 6), none, 0⟩,
  ⟨(some 27), .move (.tmp 7), none, 0⟩,
  ⟨none, .store 24 (.tmp 4) (.tmp 26), none, 0⟩,
  ⟨(some 5), .assign (.tmp 27), none, 0⟩]
def L35 : LC := (.seq (.region L35r0) (.seq (.region L35r1) (.seq (.region L35r2) (.seq (.seq (.region L35r3) (.block 0 (.loop (.seq (.region L35r4) (.seq (.cond (.tmp 10) .skip (.exit 0)) (.seq (.block 1 (.seq (.region L35r5) (.regionD L35r6))) (.region L35r7))))))) (.seq (.region L35r8) .ret)))))
theorem nt35 : Try.f35.ntmps = 28 := by kernel_rfl
theorem rs35 : Try.f35.results.toList = [.cell 4 24, .tmp 5] := by kernel_rfl
theorem lite35 : Try.f35.body.map (lite okDraw) = some L35 := by kernel_rfl
def L11r0 : List AOp := [
  ⟨(some 2), .box 24 (.tmp 0), none, 0⟩,
  ⟨(some 3), .box 24 (.tmp 1), none, 0⟩,
  ⟨(some 4), .assign (.const (.bool false)), none, 0⟩]
def L11r1 : List AOp := [
  ⟨(some 12), .call { callee := .value (.func 22), args := #[], argTypes := #[] }, none, 0⟩,
  ⟨(some 13), .call { callee := .value (.func 22), args := #[], argTypes := #[] }, none, 0⟩,
  ⟨(some 14), .call { callee := .value (.func 35), args := #[.tmp 12, .tmp 13], argTypes := #[24, 24] }, none, 0⟩,
  ⟨(some 11), .move (.tmp 14), none, 0⟩,
  ⟨(some 15), .extract (.tmp 11) 0, none, 0⟩,
  ⟨(some 16), .extract (.tmp 11) 1, none, 0⟩,
  ⟨(some 5), .alloc 24, none, 0⟩,
  ⟨none, .store 24 (.tmp 5) (.tmp 15), none, 0⟩,
  ⟨(some 6), .assign (.tmp 16), none, 0⟩]
def L11r2 : List AOp := [
  ⟨(some 18), .load 24 (.tmp 2), none, 0⟩,
  ⟨(some 19), .load 24 (.tmp 3), none, 0⟩,
  ⟨(some 20), .call { callee := .value (.func 35), args := #[.tmp 18, .tmp 19], argTypes := #[24, 24] }, none, 0⟩,
  ⟨(some 17), .move (.tmp 20), none, 0⟩,
  ⟨(some 21), .extract (.tmp 17) 0, none, 0⟩,
  ⟨(some 22), .extract (.tmp 17) 1, none, 0⟩,
  ⟨(some 7), .alloc 24, none, 0⟩,
  ⟨none, .store 24 (.tmp 7) (.tmp 21), none, 0⟩,
  ⟨(some 8), .assign (.tmp 22), none, 0⟩]
def L11r3 : List AOp := [
  ⟨(some 24), .load 24 (.tmp 7), none, 0⟩,
  ⟨(some 25), .load 24 (.tmp 3), none, 0⟩,
  ⟨(some 26), .call { callee := .value (.func 27), args := #[.tmp 24, .tmp 25], argTypes := #[24, 24] }, none, 0⟩,
  ⟨(some 23), .move (.tmp 26), none, 0⟩,
  ⟨(some 27), .extract (.tmp 23) 0, none, 0⟩,
  ⟨(some 28), .extract (.tmp 23) 1, none, 0⟩,
  ⟨(some 9), .alloc 24, none, 0⟩,
  ⟨none, .store 24 (.tmp 9) (.tmp 27), none, 0⟩,
  ⟨(some 10), .assign (.tmp 28), none, 0⟩]
def L11r4 : List AOp := [
  ⟨(some 29), .indexAddr 24 (.tmp 5) (.const (.int .i64 0)), none, 0⟩,
  ⟨(some 30), .load 22 (.tmp 29), none, 0⟩,
  ⟨(some 31), .binOp .eql 22 (.tmp 30) (.const (.int .u64 2)) 22, none, 0⟩,
  ⟨(some 32), .move (.tmp 31), none, 0⟩,
  ⟨(some 33), .load 24 (.tmp 9), (some (32, true)), 0⟩,
  ⟨(some 34), .load 24 (.tmp 2), (some (32, true)), 0⟩,
  ⟨(some 35), .binOp .eql 24 (.tmp 33) (.tmp 34) 24, (some (32, true)), 0⟩,
  ⟨(some 36), .pick (.tmp 32) (.tmp 35) (.const (.bool false)), none, 0⟩,
  ⟨(some 37), .move (.tmp 36), none, 0⟩,
  ⟨(some 38), .move (.tmp 8), (some (37, true)), 0⟩,
  ⟨(some 39), .move (.tmp 10), (some (37, true)), 0⟩,
  ⟨(some 40), .binOp .eql 22 (.tmp 38) (.tmp 39) 22, (some (37, true)), 0⟩,
  ⟨(some 41), .pick (.tmp 37) (.tmp 40) (.const (.bool false)), none, 0⟩,
  ⟨(some 4), .assign (.tmp 41), none, 0⟩]
def L11 : LC := (.seq (.region L11r0) (.seq (.region L11r1) (.seq (.region L11r2) (.seq (.region L11r3) (.seq (.region L11r4) .ret)))))
theorem nt11 : Try.f11.ntmps = 42 := by kernel_rfl
theorem rs11 : Try.f11.results.toList = [.tmp 4] := by kernel_rfl
theorem lite11 : Try.f11.body.map (lite okDraw) = some L11 := by kernel_rfl
def L9r0 : List AOp := [
  ⟨(some 2), .box 24 (.tmp 0), none, 0⟩,
  ⟨(some 3), .box 24 (.tmp 1), none, 0⟩,
  ⟨(some 4), .assign (.const (.bool false)), none, 0⟩]
def L9r1 : List AOp := [
  ⟨(some 6), .load 24 (.tmp 2), none, 0⟩,
  ⟨(some 7), .call { callee := .value (.func 28), args := #[.tmp 6], argTypes := #[23] }, none, 1⟩,
  ⟨(some 8), .load 24 (.tmp 3), none, 0⟩,
  ⟨(some 9), .call { callee := .value (.func 28), args := #[.tmp 8], argTypes := #[23] }, none, 1267650600228229401496703205383⟩,
  ⟨(some 10), .call { callee := .value (.func 29), args := #[.tmp 7, .tmp 9], argTypes := #[38, 38] }, none, 1267650600228229401496703205391⟩,
  ⟨(some 5), .assign (.tmp 10), none, 1267650600228229401496703205407⟩]
def L9r2 : List AOp := [
  ⟨(some 11), .build 24 #[], none, 0⟩,
  ⟨(some 12), .call { callee := .value (.func 22), args := #[], argTypes := #[] }, none, 0⟩,
  ⟨(some 13), .call { callee := .value (.func 37), args := #[.tmp 11, .tmp 12], argTypes := #[24, 24] }, none, 0⟩,
  ⟨(some 14), .binOp .eql 22 (.tmp 13) (.const (.int .u64 1)) 22, none, 0⟩,
  ⟨(some 15), .move (.tmp 14), none, 0⟩,
  ⟨(some 16), .load 24 (.tmp 2), (some (15, true)), 0⟩,
  ⟨(some 17), .load 24 (.tmp 3), (some (15, true)), 0⟩,
  ⟨(some 18), .call { callee := .value (.func 37), args := #[.tmp 16, .tmp 17], argTypes := #[24, 24] }, (some (15, true)), 0⟩,
  ⟨(some 19), .move (.tmp 5), (some (15, true)), 0⟩,
  ⟨(some 20), .binOp .lss 3 (.tmp 19) (.const (.int .i64 0)) 3, (some (15, true)), 0⟩,
  ⟨(some 21), .call { callee := .value (.func 33), args := #[.tmp 20], argTypes := #[4] }, (some (15, true)), 0⟩,
  ⟨(some 22), .binOp .eql 22 (.tmp 18) (.tmp 21) 22, (some (15, true)), 0⟩,
  ⟨(some 23), .pick (.tmp 15) (.tmp 22) (.const (.bool false)), none, 0⟩,
  ⟨(some 4), .assign (.tmp 23), none, 0⟩]
def L9 : LC := (.seq (.region L9r0) (.seq (.regionD L9r1) (.seq (.region L9r2) .ret)))
theorem nt9 : Try.f9.ntmps = 24 := by kernel_rfl
theorem rs9 : Try.f9.results.toList = [.tmp 4] := by kernel_rfl
theorem lite9 : Try.f9.body.map (lite okDraw) = some L9 := by kernel_rfl
def L37r0 : List AOp := [
  ⟨(some 2), .box 24 (.tmp 0), none, 0⟩,
  ⟨(some 3), .box 24 (.tmp 1), none, 0⟩,
  ⟨(some 4), .assign (.const (.int .u64 0)), none, 0⟩]
def L37r1 : List AOp := [
  ⟨(some 8), .load 24 (.tmp 2), none, 0⟩,
  ⟨(some 9), .load 24 (.tmp 3), none, 0⟩,
  ⟨(some 10), .call { callee := .value (.func 27), args := #[.tmp 8, .tmp 9], argTypes := #[24, 24] }, none, 0⟩,
  ⟨(some 7), .move (.tmp 10), none, 0⟩,
  ⟨(some 11), .extract (.tmp 7) 0, none, 0⟩,
  ⟨(some 12), .extract (.tmp 7) 1, none, 0⟩,
  ⟨(some 5), .alloc 24, none, 0⟩,
  ⟨none, .store 24 (.tmp 5) (.tmp 11), none, 0⟩,
  ⟨(some 6), .assign (.tmp 12), none, 0⟩]
def L37r2 : List AOp := [
  ⟨(some 13), .move (.tmp 6), none, 0⟩,
  ⟨(some 4), .assign (.tmp 13), none, 0⟩]
def L37 : LC := (.seq (.region L37r0) (.seq (.region L37r1) (.seq (.region L37r2) .ret)))
theorem nt37 : Try.f37.ntmps = 14 := by kernel_rfl
theorem rs37 : Try.f37.results.toList = [.tmp 4] := by kernel_rfl
theorem lite37 : Try.f37.body.map (lite okDraw) = some L37 := by kernel_rfl
def L54r0 : List AOp := [
  ⟨(some 2), .assign (.const (.slice none 0 0)), none, 0⟩]
def L54r1 : List AOp := [
  ⟨(some 4), .move (.tmp 0), none, 0⟩,
  ⟨(some 5), .call { callee := .builtin .len, args := #[.tmp 4], argTypes := #[38] }, none, 0⟩,
  ⟨(some 3), .assign (.tmp 5), none, 0⟩]
def L54r2 : List AOp := [
  ⟨(some 6), .move (.tmp 3), none, 0⟩,
  ⟨(some 7), .binOp .gtr 3 (.tmp 6) (.const (.int .i64 0)) 3, none, 0⟩,
  ⟨(some 8), .move (.tmp 7), none, 0⟩,
  ⟨(some 9), .move (.tmp 0), (some (8, true)), 0⟩,
  ⟨(some 10), .move (.tmp 3), (some (8, true)), 0⟩,
  ⟨(some 11), .binOp .sub 3 (.tmp 10) (.const (.int .i64 1)) 3, (some (8, true)), 0⟩,
  ⟨(some 12), .indexAddr 38 (.tmp 9) (.tmp 11), (some (8, true)), 0⟩,
  ⟨(some 13), .load 22 (.tmp 12), (some (8, true)), 0⟩,
  ⟨(some 14), .binOp .eql 22 (.tmp 13) (.const (.int .u64 0)) 22, (some (8, true)), 0⟩,
  ⟨(some 15), .pick (.tmp 8) (.tmp 14) (.const (.bool false)), none, 0⟩]
def L54r3 : List AOp := [
  ⟨(some 16), .move (.tmp 3), none, 0⟩,
  ⟨(some 17), .binOp .sub 3 (.tmp 16) (.const (.int .i64 1)) 3, none, 0⟩,
  ⟨(some 3), .assign (.tmp 17), none, 0⟩]
def L54r4 : List AOp := [
  ⟨(some 18), .move (.tmp 0), none, 0⟩,
  ⟨(some 19), .move (.tmp 3), none, 0⟩,
  ⟨(some 20), .slice 38 (.tmp 18) none (some (.tmp 19)) none, none, 0⟩,
  ⟨(some 2), .assign (.tmp 20), none, 0⟩]
def L54 : LC := (.seq (.region L54r0) (.seq (.region L54r1) (.seq (.block 0 (.loop (.seq (.seq (.region L54r2) (.cond (.tmp 15) .skip (.exit 0))) (.block 1 (.region L54r3))))) (.seq (.region L54r4) .ret))))
theorem nt54 : Try.f54.ntmps = 21 := by kernel_rfl
theorem rs54 : Try.f54.results.toList = [.tmp 2] := by kernel_rfl
theorem lite54 : Try.f54.body.map (lite okDraw) = some L54 := by kernel_rfl
def L28r0 : List AOp := [
  ⟨(some 1), .box 23 (.tmp 0), none, 0⟩,
  ⟨(some 2), .assign (.const (.slice none 0 0)), none, 0⟩]
def L28r1 : List AOp := [
  ⟨(some 3), .assign (.const (.slice none 0 0)), none, 0⟩]
def L28r2 : List AOp := [
  ⟨(some 4), .assign (.const (.int .i64 0)), none, 0⟩]
def L28r3 : List AOp := [
  ⟨(some 5), .move (.tmp 4), none, 0⟩,
  ⟨(some 6), .binOp .lss 3 (.tmp 5) (.const (.int .i64 6)) 3, none, 0⟩]
def L28r5 : List AOp := [
  ⟨(some 9), .move (.tmp 3), none, 0⟩,
  ⟨(some 10), .move (.tmp 4), none, 0⟩,
  ⟨(some 11), .indexAddr 23 (.tmp 1) (.tmp 10), none, 0⟩,
  ⟨(some 12), .load 22 (.tmp 11), none, 0⟩,
  ⟨(some 13), .buildSlice 37 1 #[(0, .tmp 12)], none, 0⟩,
  ⟨(some 14), .call { callee := .builtin .append, args := #[.tmp 9, .tmp 13], argTypes := #[37, 37] }, none, 0⟩,
  ⟨(some 3), .assign (.tmp 14), none, 0⟩]
def L28r4 : List AOp := [
  ⟨(some 7), .move (.tmp 4), none, 0⟩,
  ⟨(some 8), .binOp .add 3 (.tmp 7) (.const (.int .i64 1)) 3, none, 0⟩,
  ⟨(some 4), .assign (.tmp 8), none, 0⟩]
def L28r6 : List AOp := [
  ⟨(some 15), .move (.tmp 3), none, 0⟩,
  ⟨(some 16), .call { callee := .value (.func 56), args := #[.tmp 15], argTypes := #[37] }, none, 0⟩,
  ⟨(some 2), .assign (.tmp 16), none, 0⟩]
def L28 : LC := (.seq (.region L28r0) (.seq (.region L28r1) (.seq (.seq (.region L28r2) (.block 0 (.loop (.seq (.seq (.region L28r3) (.cond (.tmp 6) .skip (.exit 0))) (.seq (.block 1 (.region L28r5)) (.region L28r4)))))) (.seq (.region L28r6) .ret))))
theorem nt28 : Try.f28.ntmps = 17 := by kernel_rfl
theorem rs28 : Try.f28.results.toList = [.tmp 2] := by kernel_rfl
theorem lite28 : Try.f28.body.map (lite okDraw) = some L28 := by kernel_rfl
def L56r0 : List AOp := [
  ⟨(some 2), .assign (.const (.slice none 0 0)), none, 0⟩]
def L56r1 : List AOp := [
  ⟨(some 3), .assign (.const (.slice none 0 0)), none, 0⟩]
def L56r2 : List AOp := [
  ⟨(some 4), .assign (.const (.int .i64 0)), none, 0⟩]
def L56r3 : List AOp := [
  ⟨(some 5), .move (.tmp 4), none, 0⟩,
  ⟨(some 6), .move (.tmp 0), none, 0⟩,
  ⟨(some 7), .call { callee := .builtin .len, args := #[.tmp 6], argTypes := #[37] }, none, 0⟩,
  ⟨(some 8), .binOp .lss 3 (.tmp 5) (.tmp 7) 3, none, 0⟩]
def L56r5 : List AOp := [
  ⟨(some 11), .move (.tmp 3), none, 0⟩,
  ⟨(some 12), .move (.tmp 0), none, 0⟩,
  ⟨(some 13), .move (.tmp 4), none, 0⟩,
  ⟨(some 14), .indexAddr 37 (.tmp 12) (.tmp 13), none, 6⟩,
  ⟨(some 15), .load 22 (.tmp 14), none, 14⟩,
  ⟨(some 16), .binOp .rem 22 (.tmp 15) (.const (.int .u64 4294967296)) 22, none, 30⟩,
  ⟨(some 17), .move (.tmp 0), none, 0⟩,
  ⟨(some 18), .move (.tmp 4), none, 0⟩,
  ⟨(some 19), .indexAddr 37 (.tmp 17) (.tmp 18), none, 192⟩,
  ⟨(some 20), .load 22 (.tmp 19), none, 448⟩,
  ⟨(some 21), .binOp .quo 22 (.tmp 20) (.const (.int .u64 4294967296)) 22, none, 960⟩,
  ⟨(some 22), .buildSlice 38 2 #[(0, .tmp 16), (1, .tmp 21)], none, 2046⟩,
  ⟨(some 23), .call { callee := .builtin .append, args := #[.tmp 11, .tmp 22], argTypes := #[38, 38] }, none, 1267650600228229401496703209471⟩,
  ⟨(some 3), .assign (.tmp 23), none, 1267650600228229401496703213567⟩]
def L56r4 : List AOp := [
  ⟨(some 9), .move (.tmp 4), none, 0⟩,
  ⟨(some 10), .binOp .add 3 (.tmp 9) (.const (.int .i64 1)) 3, none, 0⟩,
  ⟨(some 4), .assign (.tmp 10), none, 0⟩]
def L56r6 : List AOp := [
  ⟨(some 24), .move (.tmp 3), none, 0⟩,
  ⟨(some 25), .call { callee := .value (.func 54), args := #[.tmp 24], argTypes := #[38] }, none, 0⟩,
  ⟨(some 2), .assign (.tmp 25), none, 0⟩]
def L56 : LC := (.seq (.region L56r0) (.seq (.region L56r1) (.seq (.seq (.region L56r2) (.block 0 (.loop (.seq (.seq (.region L56r3) (.cond (.tmp 8) .skip (.exit 0))) (.seq (.block 1 (.regionD L56r5)) (.region L56r4)))))) (.seq (.region L56r6) .ret))))
theorem nt56 : Try.f56.ntmps = 26 := by kernel_rfl
theorem rs56 : Try.f56.results.toList = [.tmp 2] := by kernel_rfl
theorem lite56 : Try.f56.body.map (lite okDraw) = some L56 := by kernel_rfl
def L57r0 : List AOp := [
  ⟨(some 4), .assign (.const (.int .u64 0)), none, 0⟩]
def L57r1 : List AOp := [
  ⟨(some 5), .move (.tmp 1), none, 0⟩,
  ⟨(some 6), .move (.tmp 0), none, 0⟩,
  ⟨(some 7), .call { callee := .builtin .len, args := #[.tmp 6], argTypes := #[38] }, none, 0⟩,
  ⟨(some 8), .binOp .lss 3 (.tmp 5) (.tmp 7) 3, none, 0⟩]
def L57r2 : List AOp := [
  ⟨(some 9), .move (.tmp 0), none, 0⟩,
  ⟨(some 10), .move (.tmp 1), none, 0⟩,
  ⟨(some 11), .indexAddr 38 (.tmp 9) (.tmp 10), none, 0⟩,
  ⟨(some 12), .load 22 (.tmp 11), none, 0⟩,
  ⟨(some 4), .assign (.tmp 12), none, 0⟩]
def L57r3 : List AOp := [
  ⟨(some 4), .assign (.const (.int .u64 0)), none, 0⟩]
def L57 : LC := (.seq (.region L57r0) (.seq (.seq (.region L57r1) (.cond (.tmp 8) (.seq (.region L57r2) .ret) .skip)) (.seq (.region L57r3) .ret)))
theorem nt57 : Try.f57.ntmps = 13 := by kernel_rfl
theorem rs57 : Try.f57.results.toList = [.tmp 4] := by kernel_rfl
theorem lite57 : Try.f57.body.map (lite okDraw) = some L57 := by kernel_rfl
def L30r0 : List AOp := [
  ⟨(some 4), .assign (.const (.slice none 0 0)), none, 0⟩]
def L30r1 : List AOp := [
  ⟨(some 5), .assign (.const (.slice none 0 0)), none, 0⟩]
def L30r2 : List AOp := [
  ⟨(some 6), .assign (.const (.int .u64 0)), none, 0⟩]
def L30r3 : List AOp := [
  ⟨(some 7), .assign (.const (.int .i64 0)), none, 0⟩]
def L30r4 : List AOp := [
  ⟨(some 9), .move (.tmp 7), none, 0⟩,
  ⟨(some 10), .move (.tmp 0), none, 0⟩,
  ⟨(some 11), .call { callee := .builtin .len, args := #[.tmp 10], argTypes := #[38] }, none, 0⟩,
  ⟨(some 12), .binOp .lss 3 (.tmp 9) (.tmp 11) 3, none, 0⟩,
  ⟨(some 13), .move (.tmp 12), none, 0⟩,
  ⟨(some 14), .move (.tmp 7), (some (13, false)), 0⟩,
  ⟨(some 15), .move (.tmp 1), (some (13, false)), 0⟩,
  ⟨(some 16), .call { callee := .builtin .len, args := #[.tmp 15], argTypes := #[38] }, (some (13, false)), 0⟩,
  ⟨(some 17), .binOp .lss 3 (.tmp 14) (.tmp 16) 3, (some (13, false)), 0⟩,
  ⟨(some 18), .pick (.tmp 13) (.const (.bool true)) (.tmp 17), none, 0⟩,
  ⟨(some 19), .move (.tmp 18), none, 0⟩,
  ⟨(some 20), .move (.tmp 6), (some (19, false)), 0⟩,
  ⟨(some 21), .binOp .gtr 22 (.tmp 20) (.const (.int .u64 0)) 22, (some (19, false)), 0⟩,
  ⟨(some 22), .pick (.tmp 19) (.const (.bool true)) (.tmp 21), none, 0⟩]
def L30r6 : List AOp := [
  ⟨(some 25), .move (.tmp 0), none, 0⟩,
  ⟨(some 26), .move (.tmp 7), none, 0⟩,
  ⟨(some 27), .call { callee := .value (.func 57), args := #[.tmp 25, .tmp 26], argTypes := #[38, 3] }, none, 0⟩,
  ⟨(some 28), .move (.tmp 1), none, 0⟩,
  ⟨(some 29), .move (.tmp 7), none, 0⟩,
  ⟨(some 30), .call { callee := .value (.func 57), args := #[.tmp 28, .tmp 29], argTypes := #[38, 3] }, none, 0⟩,
  ⟨(some 31), .binOp .add 22 (.tmp 27) (.tmp 30) 22, none, 0⟩,
  ⟨(some 32), .move (.tmp 6), none, 0⟩,
  ⟨(some 33), .binOp .add 22 (.tmp 31) (.tmp 32) 22, none, 0⟩,
  ⟨(some 8), .assign (.tmp 33), none, 0⟩]
def L30r7 : List AOp := [
  ⟨(some 34), .move (.tmp 5), none, 0⟩,
  ⟨(some 35), .move (.tmp 8), none, 0⟩,
  ⟨(some 36), .binOp .rem 22 (.tmp 35) (.const (.int .u64 4294967296)) 22, none, 0⟩,
  ⟨(some 37), .buildSlice 38 1 #[(0, .tmp 36)], none, 0⟩,
  ⟨(some 38), .call { callee := .builtin .append, args := #[.tmp 34, .tmp 37], argTypes := #[38, 38] }, none, 0⟩,
  ⟨(some 5), .assign (.tmp 38), none, 0⟩]
def L30r8 : List AOp := [
  ⟨(some 39), .move (.tmp 8), none, 0⟩,
  ⟨(some 40), .binOp .quo 22 (.tmp 39) (.const (.int .u64 4294967296)) 22, none, 0⟩,
  ⟨(some 6), .assign (.tmp 40), none, 0⟩]
def L30r5 : List AOp := [
  ⟨(some 23), .move (.tmp 7), none, 0⟩,
  ⟨(some 24), .binOp .add 3 (.tmp 23) (.const (.int .i64 1)) 3, none, 0⟩,
  ⟨(some 7), .assign (.tmp 24), none, 0⟩]
def L30r9 : List AOp := [
  ⟨(some 41), .move (.tmp 5), none, 0⟩,
  ⟨(some 42), .call { callee := .value (.func 54), args := #[.tmp 41], argTypes := #[38] }, none, 0⟩,
  ⟨(some 4), .assign (.tmp 42), none, 0⟩]
def L30 : LC := (.seq (.region L30r0) (.seq (.region L30r1) (.seq (.region L30r2) (.seq (.seq (.region L30r3) (.block 0 (.loop (.seq (.seq (.region L30r4) (.cond (.tmp 22) .skip (.exit 0))) (.seq (.block 1 (.seq (.region L30r6) (.seq (.region L30r7) (.region L30r8)))) (.region L30r5)))))) (.seq (.region L30r9) .ret)))))
theorem nt30 : Try.f30.ntmps = 43 := by kernel_rfl
theorem rs30 : Try.f30.results.toList = [.tmp 4] := by kernel_rfl
theorem lite30 : Try.f30.body.map (lite okDraw) = some L30 := by kernel_rfl
def L29r0 : List AOp := [
  ⟨(some 4), .assign (.const (.int .i64 0)), none, 0⟩]
def L29r1 : List AOp := [
  ⟨(some 6), .move (.tmp 0), none, 0⟩,
  ⟨(some 7), .call { callee := .builtin .len, args := #[.tmp 6], argTypes := #[38] }, none, 0⟩,
  ⟨(some 8), .move (.tmp 1), none, 0⟩,
  ⟨(some 9), .call { callee := .builtin .len, args := #[.tmp 8], argTypes := #[38] }, none, 0⟩,
  ⟨(some 10), .binOp .neq 3 (.tmp 7) (.tmp 9) 3, none, 0⟩]
def L29r2 : List AOp := [
  ⟨(some 11), .move (.tmp 0), none, 0⟩,
  ⟨(some 12), .call { callee := .builtin .len, args := #[.tmp 11], argTypes := #[38] }, none, 0⟩,
  ⟨(some 13), .move (.tmp 1), none, 0⟩,
  ⟨(some 14), .call { callee := .builtin .len, args := #[.tmp 13], argTypes := #[38] }, none, 0⟩,
  ⟨(some 15), .binOp .lss 3 (.tmp 12) (.tmp 14) 3, none, 0⟩]
def L29r3 : List AOp := [
  ⟨(some 4), .assign (.const (.int .i64 (-1))), none, 0⟩]
def L29r4 : List AOp := [
  ⟨(some 4), .assign (.const (.int .i64 1)), none, 0⟩]
def L29r5 : List AOp := [
  ⟨(some 16), .move (.tmp 0), none, 0⟩,
  ⟨(some 17), .call { callee := .builtin .len, args := #[.tmp 16], argTypes := #[38] }, none, 0⟩,
  ⟨(some 18), .binOp .sub 3 (.tmp 17) (.const (.int .i64 1)) 3, none, 0⟩,
  ⟨(some 5), .assign (.tmp 18), none, 0⟩]
def L29r6 : List AOp := [
  ⟨(some 19), .move (.tmp 5), none, 0⟩,
  ⟨(some 20), .binOp .geq 3 (.tmp 19) (.const (.int .i64 0)) 3, none, 0⟩]
def L29r8 : List AOp := [
  ⟨(some 23), .move (.tmp 0), none, 0⟩,
  ⟨(some 24), .move (.tmp 5), none, 0⟩,
  ⟨(some 25), .indexAddr 38 (.tmp 23) (.tmp 24), none, 3⟩,
  ⟨(some 26), .load 22 (.tmp 25), none, 7⟩,
  ⟨(some 27), .move (.tmp 1), none, 0⟩,
  ⟨(some 28), .move (.tmp 5), none, 0⟩,
  ⟨(some 29), .indexAddr 38 (.tmp 27) (.tmp 28), none, 48⟩,
  ⟨(some 30), .load 22 (.tmp 29), none, 112⟩,
  ⟨(some 31), .binOp .lss 22 (.tmp 26) (.tmp 30) 22, none, 1267650600228229401496703205631⟩]
def L29r9 : List AOp := [
  ⟨(some 4), .assign (.const (.int .i64 (-1))), none, 0⟩]
def L29r10 : List AOp := [
  ⟨(some 32), .move (.tmp 0), none, 0⟩,
  ⟨(some 33), .move (.tmp 5), none, 0⟩,
  ⟨(some 34), .indexAddr 38 (.tmp 32) (.tmp 33), none, 3⟩,
  ⟨(some 35), .load 22 (.tmp 34), none, 7⟩,
  ⟨(some 36), .move (.tmp 1), none, 0⟩,
  ⟨(some 37), .move (.tmp 5), none, 0⟩,
  ⟨(some 38), .indexAddr 38 (.tmp 36) (.tmp 37), none, 48⟩,
  ⟨(some 39), .load 22 (.tmp 38), none, 112⟩,
  ⟨(some 40), .binOp .gtr 22 (.tmp 35) (.tmp 39) 22, none, 1267650600228229401496703205631⟩]
def L29r11 : List AOp := [
  ⟨(some 4), .assign (.const (.int .i64 1)), none, 0⟩]
def L29r7 : List AOp := [
  ⟨(some 21), .move (.tmp 5), none, 0⟩,
  ⟨(some 22), .binOp .sub 3 (.tmp 21) (.const (.int .i64 1)) 3, none, 0⟩,
  ⟨(some 5), .assign (.tmp 22), none, 0⟩]
def L29r12 : List AOp := [
  ⟨(some 4), .assign (.const (.int .i64 0)), none, 0⟩]
def L29 : LC := (.seq (.region L29r0) (.seq (.seq (.region L29r1) (.cond (.tmp 10) (.seq (.seq (.region L29r2) (.cond (.tmp 15) (.seq (.region L29r3) .ret) .skip)) (.seq (.region L29r4) .ret)) .skip)) (.seq (.seq (.region L29r5) (.block 0 (.loop (.seq (.seq (.region L29r6) (.cond (.tmp 20) .skip (.exit 0))) (.seq (.block 1 (.seq (.seq (.regionD L29r8) (.cond (.tmp 31) (.seq (.region L29r9) .ret) .skip)) (.seq (.regionD L29r10) (.cond (.tmp 40) (.seq (.region L29r11) .ret) .skip)))) (.region L29r7)))))) (.seq (.region L29r12) .ret))))
theorem nt29 : Try.f29.ntmps = 41 := by kernel_rfl
theorem rs29 : Try.f29.results.toList = [.tmp 4] := by kernel_rfl
theorem lite29 : Try.f29.body.map (lite okDraw) = some L29 := by kernel_rfl
def L25r0 : List AOp := [
  ⟨(some 2), .alloc 23, none, 0⟩]
def L25r1 : List AOp := [
  ⟨(some 3), .alloc 23, none, 0⟩]
def L25r2 : List AOp := [
  ⟨(some 4), .assign (.const (.int .i64 0)), none, 0⟩]
def L25r3 : List AOp := [
  ⟨(some 5), .move (.tmp 4), none, 0⟩,
  ⟨(some 6), .binOp .lss 3 (.tmp 5) (.const (.int .i64 12)) 3, none, 0⟩,
  ⟨(some 7), .move (.tmp 6), none, 0⟩,
  ⟨(some 8), .move (.tmp 4), (some (7, true)), 0⟩,
  ⟨(some 9), .move (.tmp 0), (some (7, true)), 0⟩,
  ⟨(some 10), .call { callee := .builtin .len, args := #[.tmp 9], argTypes := #[38] }, (some (7, true)), 0⟩,
  ⟨(some 11), .binOp .lss 3 (.tmp 8) (.tmp 10) 3, (some (7, true)), 0⟩,
  ⟨(some 12), .pick (.tmp 7) (.tmp 11) (.const (.bool false)), none, 0⟩]
def L25r5 : List AOp := [
  ⟨(some 15), .move (.tmp 4), none, 0⟩,
  ⟨(some 16), .binOp .rem 3 (.tmp 15) (.const (.int .i64 2)) 3, none, 0⟩,
  ⟨(some 17), .binOp .eql 3 (.tmp 16) (.const (.int .i64 0)) 3, none, 0⟩]
def L25r6 : List AOp := [
  ⟨(some 18), .move (.tmp 4), none, 0⟩,
  ⟨(some 19), .binOp .quo 3 (.tmp 18) (.const (.int .i64 2)) 3, none, 0⟩,
  ⟨(some 20), .move (.tmp 0), none, 0⟩,
  ⟨(some 21), .move (.tmp 4), none, 0⟩,
  ⟨(some 22), .indexAddr 38 (.tmp 20) (.tmp 21), none, 0⟩,
  ⟨(some 23), .load 22 (.tmp 22), none, 0⟩,
  ⟨(some 24), .indexAddr 23 (.tmp 3) (.tmp 19), none, 0⟩,
  ⟨none, .store 22 (.tmp 24) (.tmp 23), none, 0⟩]
def L25r7 : List AOp := [
  ⟨(some 25), .move (.tmp 4), none, 0⟩,
  ⟨(some 26), .binOp .quo 3 (.tmp 25) (.const (.int .i64 2)) 3, none, 1⟩,
  ⟨(some 27), .move (.tmp 4), none, 0⟩,
  ⟨(some 28), .binOp .quo 3 (.tmp 27) (.const (.int .i64 2)) 3, none, 4⟩,
  ⟨(some 29), .indexAddr 23 (.tmp 3) (.tmp 28), none, 12⟩,
  ⟨(some 30), .load 22 (.tmp 29), none, 28⟩,
  ⟨(some 31), .move (.tmp 0), none, 0⟩,
  ⟨(some 32), .move (.tmp 4), none, 0⟩,
  ⟨(some 33), .indexAddr 38 (.tmp 31) (.tmp 32), none, 192⟩,
  ⟨(some 34), .load 22 (.tmp 33), none, 448⟩,
  ⟨(some 35), .binOp .mul 22 (.tmp 34) (.const (.int .u64 4294967296)) 22, none, 960⟩,
  ⟨(some 36), .binOp .add 22 (.tmp 30) (.tmp 35) 22, none, 2044⟩,
  ⟨(some 37), .indexAddr 23 (.tmp 3) (.tmp 26), none, 1267650600228229401496703209471⟩,
  ⟨none, .store 22 (.tmp 37) (.tmp 36), none, 1267650600228229401496703213567⟩]
def L25r4 : List AOp := [
  ⟨(some 13), .move (.tmp 4), none, 0⟩,
  ⟨(some 14), .binOp .add 3 (.tmp 13) (.const (.int .i64 1)) 3, none, 0⟩,
  ⟨(some 4), .assign (.tmp 14), none, 0⟩]
def L25r8 : List AOp := [
  ⟨(some 38), .load 23 (.tmp 3), none, 0⟩,
  ⟨none, .store 23 (.tmp 2) (.tmp 38), none, 0⟩]
def L25 : LC := (.seq (.region L25r0) (.seq (.region L25r1) (.seq (.seq (.region L25r2) (.block 0 (.loop (.seq (.seq (.region L25r3) (.cond (.tmp 12) .skip (.exit 0))) (.seq (.block 1 (.seq (.region L25r5) (.cond (.tmp 17) (.region L25r6) (.regionD L25r7)))) (.region L25r4)))))) (.seq (.region L25r8) .ret))))
theorem nt25 : Try.f25.ntmps = 39 := by kernel_rfl
theorem rs25 : Try.f25.results.toList = [.cell 2 23] := by kernel_rfl
theorem lite25 : Try.f25.body.map (lite okDraw) = some L25 := by kernel_rfl
def L31r0 : List AOp := [
  ⟨(some 0), .assign (.const (.slice none 0 0)), none, 0⟩]
def L31r1 : List AOp := [
  ⟨(some 1), .buildSlice 38 13 #[(0, .const (.int .u64 0)), (1, .const (.int .u64 0)), (2, .const (.int .u64 0)), (3, .const (.int .u64 0)), (4, .const (.int .u64 0)), (5, .const (.int .u64 0)), (6, .const (.int .u64 0)), (7, .const (.int .u64 0)), (8, .const (.int .u64 0)), (9, .const (.int .u64 0)), (10, .const (.int .u64 0)), (11, .const (.int .u64 0)), (12, .const (.int .u64 1))], none, 0⟩,
  ⟨(some 0), .assign (.tmp 1), none, 0⟩]
def L31 : LC := (.seq (.region L31r0) (.seq (.region L31r1) .ret))
theorem nt31 : Try.f31.ntmps = 2 := by kernel_rfl
theorem rs31 : Try.f31.results.toList = [.tmp 0] := by kernel_rfl
theorem lite31 : Try.f31.body.map (lite okDraw) = some L31 := by kernel_rfl
def L32r0 : List AOp := [
  ⟨(some 4), .assign (.const (.slice none 0 0)), none, 0⟩]
def L32r1 : List AOp := [
  ⟨(some 5), .assign (.const (.slice none 0 0)), none, 0⟩]
def L32r2 : List AOp := [
  ⟨(some 6), .assign (.const (.int .u64 0)), none, 0⟩]
def L32r3 : List AOp := [
  ⟨(some 7), .assign (.const (.int .i64 0)), none, 0⟩]
def L32r4 : List AOp := [
  ⟨(some 9), .move (.tmp 7), none, 0⟩,
  ⟨(some 10), .move (.tmp 0), none, 0⟩,
  ⟨(some 11), .call { callee := .builtin .len, args := #[.tmp 10], argTypes := #[38] }, none, 0⟩,
  ⟨(some 12), .binOp .lss 3 (.tmp 9) (.tmp 11) 3, none, 0⟩]
def L32r6 : List AOp := [
  ⟨(some 15), .move (.tmp 0), none, 0⟩,
  ⟨(some 16), .move (.tmp 7), none, 0⟩,
  ⟨(some 17), .call { callee := .value (.func 57), args := #[.tmp 15, .tmp 16], argTypes := #[38, 3] }, none, 0⟩,
  ⟨(some 18), .binOp .add 22 (.tmp 17) (.const (.int .u64 4294967296)) 22, none, 0⟩,
  ⟨(some 19), .move (.tmp 1), none, 0⟩,
  ⟨(some 20), .move (.tmp 7), none, 0⟩,
  ⟨(some 21), .call { callee := .value (.func 57), args := #[.tmp 19, .tmp 20], argTypes := #[38, 3] }, none, 0⟩,
  ⟨(some 22), .binOp .sub 22 (.tmp 18) (.tmp 21) 22, none, 0⟩,
  ⟨(some 23), .move (.tmp 6), none, 0⟩,
  ⟨(some 24), .binOp .sub 22 (.tmp 22) (.tmp 23) 22, none, 0⟩,
  ⟨(some 8), .assign (.tmp 24), none, 0⟩]
def L32r7 : List AOp := [
  ⟨(some 25), .move (.tmp 5), none, 0⟩,
  ⟨(some 26), .move (.tmp 8), none, 0⟩,
  ⟨(some 27), .binOp .rem 22 (.tmp 26) (.const (.int .u64 4294967296)) 22, none, 0⟩,
  ⟨(some 28), .buildSlice 38 1 #[(0, .tmp 27)], none, 0⟩,
  ⟨(some 29), .call { callee := .builtin .append, args := #[.tmp 25, .tmp 28], argTypes := #[38, 38] }, none, 0⟩,
  ⟨(some 5), .assign (.tmp 29), none, 0⟩]
def L32r8 : List AOp := [
  ⟨(some 30), .move (.tmp 8), none, 0⟩,
  ⟨(some 31), .binOp .quo 22 (.tmp 30) (.const (.int .u64 4294967296)) 22, none, 0⟩,
  ⟨(some 32), .binOp .sub 22 (.const (.int .u64 1)) (.tmp 31) 22, none, 0⟩,
  ⟨(some 6), .assign (.tmp 32), none, 0⟩]
def L32r5 : List AOp := [
  ⟨(some 13), .move (.tmp 7), none, 0⟩,
  ⟨(some 14), .binOp .add 3 (.tmp 13) (.const (.int .i64 1)) 3, none, 0⟩,
  ⟨(some 7), .assign (.tmp 14), none, 0⟩]
def L32r9 : List AOp := [
  ⟨(some 33), .move (.tmp 5), none, 0⟩,
  ⟨(some 34), .call { callee := .value (.func 54), args := #[.tmp 33], argTypes := #[38] }, none, 0⟩,
  ⟨(some 4), .assign (.tmp 34), none, 0⟩]
def L32 : LC := (.seq (.region L32r0) (.seq (.region L32r1) (.seq (.region L32r2) (.seq (.seq (.region L32r3) (.block 0 (.loop (.seq (.seq (.region L32r4) (.cond (.tmp 12) .skip (.exit 0))) (.seq (.block 1 (.seq (.region L32r6) (.seq (.region L32r7) (.region L32r8)))) (.region L32r5)))))) (.seq (.region L32r9) .ret)))))
theorem nt32 : Try.f32.ntmps = 35 := by kernel_rfl
theorem rs32 : Try.f32.results.toList = [.tmp 4] := by kernel_rfl
theorem lite32 : Try.f32.body.map (lite okDraw) = some L32 := by kernel_rfl
def L36r0 : List AOp := [
  ⟨(some 2), .assign (.const (.int .i64 0)), none, 0⟩]
def L36r1 : List AOp := [
  ⟨(some 5), .move (.tmp 0), none, 0⟩,
  ⟨(some 6), .call { callee := .builtin .len, args := #[.tmp 5], argTypes := #[38] }, none, 0⟩,
  ⟨(some 7), .binOp .eql 3 (.tmp 6) (.const (.int .i64 0)) 3, none, 0⟩]
def L36r2 : List AOp := [
  ⟨(some 2), .assign (.const (.int .i64 0)), none, 0⟩]
def L36r3 : List AOp := [
  ⟨(some 8), .move (.tmp 0), none, 0⟩,
  ⟨(some 9), .call { callee := .builtin .len, args := #[.tmp 8], argTypes := #[38] }, none, 0⟩,
  ⟨(some 10), .binOp .sub 3 (.tmp 9) (.const (.int .i64 1)) 3, none, 0⟩,
  ⟨(some 11), .binOp .mul 3 (.const (.int .i64 32)) (.tmp 10) 3, none, 0⟩,
  ⟨(some 3), .assign (.tmp 11), none, 0⟩]
def L36r4 : List AOp := [
  ⟨(some 12), .move (.tmp 0), none, 0⟩,
  ⟨(some 13), .move (.tmp 0), none, 0⟩,
  ⟨(some 14), .call { callee := .builtin .len, args := #[.tmp 13], argTypes := #[38] }, none, 0⟩,
  ⟨(some 15), .binOp .sub 3 (.tmp 14) (.const (.int .i64 1)) 3, none, 0⟩,
  ⟨(some 16), .indexAddr 38 (.tmp 12) (.tmp 15), none, 0⟩,
  ⟨(some 17), .load 22 (.tmp 16), none, 0⟩,
  ⟨(some 4), .assign (.tmp 17), none, 0⟩]
def L36r5 : List AOp := [
  ⟨(some 18), .move (.tmp 4), none, 0⟩,
  ⟨(some 19), .binOp .gtr 22 (.tmp 18) (.const (.int .u64 0)) 22, none, 0⟩]
def L36r6 : List AOp := [
  ⟨(some 20), .move (.tmp 4), none, 0⟩,
  ⟨(some 21), .binOp .quo 22 (.tmp 20) (.const (.int .u64 2)) 22, none, 0⟩,
  ⟨(some 4), .assign (.tmp 21), none, 0⟩]
def L36r7 : List AOp := [
  ⟨(some 22), .move (.tmp 3), none, 0⟩,
  ⟨(some 23), .binOp .add 3 (.tmp 22) (.const (.int .i64 1)) 3, none, 0⟩,
  ⟨(some 3), .assign (.tmp 23), none, 0⟩]
def L36r8 : List AOp := [
  ⟨(some 24), .move (.tmp 3), none, 0⟩,
  ⟨(some 2), .assign (.tmp 24), none, 0⟩]
def L36 : LC := (.seq (.region L36r0) (.seq (.seq (.region L36r1) (.cond (.tmp 7) (.seq (.region L36r2) .ret) .skip)) (.seq (.region L36r3) (.seq (.region L36r4) (.seq (.block 0 (.loop (.seq (.seq (.region L36r5) (.cond (.tmp 19) .skip (.exit 0))) (.block 1 (.seq (.region L36r6) (.region L36r7)))))) (.seq (.region L36r8) .ret))))))
theorem nt36 : Try.f36.ntmps = 25 := by kernel_rfl
theorem rs36 : Try.f36.results.toList = [.tmp 2] := by kernel_rfl
theorem lite36 : Try.f36.body.map (lite okDraw) = some L36 := by kernel_rfl
end Eng
