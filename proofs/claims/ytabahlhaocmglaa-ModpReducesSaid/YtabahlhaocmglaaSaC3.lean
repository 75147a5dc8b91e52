/- Contracts of the program's functions, and laws over them. There is no further condition. -/
import Derived.Test.YtabahlhaocmglaaSaC2
set_option linter.unusedVariables false
set_option linter.unusedSimpArgs false
set_option exponentiation.threshold 2000
namespace Eng
open Go Go.Proofs
theorem eq60 : eqArr Try.prog 60 = true := by kernel_rfl
def L43r0 : List AOp := [
  ⟨(some 0), .assign (.const (.bool false)), none, 0⟩]
def L43r1 : List AOp := [
  ⟨(some 4), .build 24 #[(0, .const (.int .u64 18446744073709551615)), (1, .const (.int .u64 18446744073709551615)), (2, .const (.int .u64 18446744073709551615)), (3, .const (.int .u64 18446744073709551615)), (4, .const (.int .u64 18446744073709551615)), (5, .const (.int .u64 18446744073709551615))], none, 0⟩,
  ⟨(some 5), .call { callee := .value (.func 44), args := #[.tmp 4], argTypes := #[24] }, none, 0⟩,
  ⟨(some 3), .move (.tmp 5), none, 0⟩,
  ⟨(some 6), .extract (.tmp 3) 0, none, 0⟩,
  ⟨(some 7), .extract (.tmp 3) 1, none, 0⟩,
  ⟨(some 1), .alloc 60, none, 0⟩,
  ⟨none, .store 60 (.tmp 1) (.tmp 6), none, 0⟩,
  ⟨(some 2), .assign (.tmp 7), none, 0⟩]
def L43r2 : List AOp := [
  ⟨(some 8), .move (.tmp 2), none, 0⟩,
  ⟨(some 9), .binOp .eql 32 (.tmp 8) (.const .nilIface) 32, none, 0⟩,
  ⟨(some 10), .move (.tmp 9), none, 0⟩,
  ⟨(some 11), .build 24 #[(0, .const (.int .u64 0)), (1, .const (.int .u64 0)), (2, .const (.int .u64 0)), (3, .const (.int .u64 0)), (4, .const (.int .u64 0)), (5, .const (.int .u64 9223372036854775808))], (some (10, true)), 0⟩,
  ⟨(some 12), .build 24 #[(0, .const (.int .u64 2))], (some (10, true)), 0⟩,
  ⟨(some 13), .load 60 (.tmp 1), (some (10, true)), 0⟩,
  ⟨(some 14), .call { callee := .value (.func 49), args := #[.tmp 11, .tmp 12, .tmp 13], argTypes := #[24, 24, 60] }, (some (10, true)), 0⟩,
  ⟨(some 15), .build 24 #[(0, .const (.int .u64 1))], (some (10, true)), 0⟩,
  ⟨(some 16), .binOp .eql 24 (.tmp 14) (.tmp 15) 24, (some (10, true)), 0⟩,
  ⟨(some 17), .pick (.tmp 10) (.tmp 16) (.const (.bool false)), none, 0⟩,
  ⟨(some 0), .assign (.tmp 17), none, 0⟩]
def L43 : LC := (.seq (.region L43r0) (.seq (.region L43r1) (.seq (.region L43r2) .ret)))
theorem nt43 : Try.f43.ntmps = 18 := by kernel_rfl
theorem rs43 : Try.f43.results.toList = [.tmp 0] := by kernel_rfl
theorem lite43 : Try.f43.body.map (lite okDraw) = some L43 := by kernel_rfl
def L44r0 : List AOp := [
  ⟨(some 1), .box 24 (.tmp 0), none, 0⟩,
  ⟨(some 2), .alloc 60, none, 0⟩,
  ⟨(some 3), .assign (.const .nilIface), none, 0⟩]
def L44r1 : List AOp := [
  ⟨(some 7), .indexAddr 24 (.tmp 1) (.const (.int .i64 0)), none, 0⟩,
  ⟨(some 8), .load 22 (.tmp 7), none, 0⟩,
  ⟨(some 9), .binOp .rem 22 (.tmp 8) (.const (.int .u64 2)) 22, none, 0⟩,
  ⟨(some 10), .binOp .eql 22 (.tmp 9) (.const (.int .u64 0)) 22, none, 0⟩,
  ⟨(some 11), .move (.tmp 10), none, 0⟩,
  ⟨(some 12), .indexAddr 24 (.tmp 1) (.const (.int .i64 5)), (some (11, false)), 0⟩,
  ⟨(some 13), .load 22 (.tmp 12), (some (11, false)), 0⟩,
  ⟨(some 14), .binOp .lss 22 (.tmp 13) (.const (.int .u64 9223372036854775808)) 22, (some (11, false)), 0⟩,
  ⟨(some 15), .pick (.tmp 11) (.const (.bool true)) (.tmp 14), none, 0⟩]
def L44r2 : List AOp := [
  ⟨(some 16), .build 60 #[], none, 0⟩,
  ⟨(some 17), .makeInterface 35 (.const (.int .i64 1)), none, 0⟩,
  ⟨none, .store 60 (.tmp 2) (.tmp 16), none, 0⟩,
  ⟨(some 3), .assign (.tmp 17), none, 0⟩]
def L44r3 : List AOp := [
  ⟨(some 4), .assign (.const (.int .u64 1)), none, 0⟩]
def L44r4 : List AOp := [
  ⟨(some 18), .move (.const (.int .i64 0)), none, 0⟩]
def L44r5 : List AOp := [
  ⟨(some 19), .binOp .lss 3 (.tmp 18) (.const (.int .i64 6)) 3, none, 0⟩]
def L44r6 : List AOp := [
  ⟨(some 20), .move (.tmp 4), none, 0⟩,
  ⟨(some 21), .indexAddr 24 (.tmp 1) (.const (.int .i64 0)), none, 0⟩,
  ⟨(some 22), .load 22 (.tmp 21), none, 0⟩,
  ⟨(some 23), .move (.tmp 4), none, 0⟩,
  ⟨(some 24), .binOp .mul 22 (.tmp 22) (.tmp 23) 22, none, 0⟩,
  ⟨(some 25), .binOp .sub 22 (.const (.int .u64 2)) (.tmp 24) 22, none, 0⟩,
  ⟨(some 26), .binOp .mul 22 (.tmp 20) (.tmp 25) 22, none, 0⟩,
  ⟨(some 4), .assign (.tmp 26), none, 0⟩]
def L44r7 : List AOp := [
  ⟨(some 27), .binOp .add 3 (.tmp 18) (.const (.int .i64 1)) 3, none, 0⟩,
  ⟨(some 18), .move (.tmp 27), none, 0⟩]
def L44r8 : List AOp := [
  ⟨(some 29), .build 24 #[], none, 0⟩,
  ⟨(some 30), .load 24 (.tmp 1), none, 0⟩,
  ⟨(some 31), .call { callee := .value (.func 27), args := #[.tmp 29, .tmp 30], argTypes := #[24, 24] }, none, 0⟩,
  ⟨(some 28), .move (.tmp 31), none, 0⟩,
  ⟨(some 32), .extract (.tmp 28) 0, none, 0⟩,
  ⟨(some 33), .extract (.tmp 28) 1, none, 0⟩,
  ⟨(some 5), .alloc 24, none, 0⟩,
  ⟨none, .store 24 (.tmp 5) (.tmp 32), none, 0⟩,
  ⟨(some 6), .assign (.tmp 33), none, 0⟩]
def L44r9 : List AOp := [
  ⟨(some 34), .move (.const (.int .i64 0)), none, 0⟩]
def L44r10 : List AOp := [
  ⟨(some 35), .binOp .lss 3 (.tmp 34) (.const (.int .i64 384)) 3, none, 0⟩]
def L44r11 : List AOp := [
  ⟨(some 36), .load 24 (.tmp 5), none, 0⟩,
  ⟨(some 37), .load 24 (.tmp 1), none, 0⟩,
  ⟨(some 38), .call { callee := .value (.func 60), args := #[.tmp 36, .tmp 37], argTypes := #[24, 24] }, none, 0⟩,
  ⟨none, .store 24 (.tmp 5) (.tmp 38), none, 0⟩]
def L44r12 : List AOp := [
  ⟨(some 39), .binOp .add 3 (.tmp 34) (.const (.int .i64 1)) 3, none, 0⟩,
  ⟨(some 34), .move (.tmp 39), none, 0⟩]
def L44r13 : List AOp := [
  ⟨(some 40), .load 24 (.tmp 1), none, 0⟩,
  ⟨(some 41), .move (.tmp 4), none, 0⟩,
  ⟨(some 42), .unOp .neg 22 (.tmp 41), none, 0⟩,
  ⟨(some 43), .load 24 (.tmp 5), none, 0⟩,
  ⟨(some 44), .build 60 #[(0, .tmp 40), (1, .tmp 42), (2, .tmp 43)], none, 0⟩,
  ⟨none, .store 60 (.tmp 2) (.tmp 44), none, 0⟩,
  ⟨(some 3), .assign (.const .nilIface), none, 0⟩]
def L44 : LC := (.seq (.region L44r0) (.seq (.seq (.region L44r1) (.cond (.tmp 15) (.seq (.region L44r2) .ret) .skip)) (.seq (.region L44r3) (.seq (.seq (.region L44r4) (.block 0 (.loop (.seq (.region L44r5) (.seq (.cond (.tmp 19) .skip (.exit 0)) (.seq (.block 1 (.region L44r6)) (.region L44r7))))))) (.seq (.region L44r8) (.seq (.seq (.region L44r9) (.block 2 (.loop (.seq (.region L44r10) (.seq (.cond (.tmp 35) .skip (.exit 2)) (.seq (.block 3 (.region L44r11)) (.region L44r12))))))) (.seq (.region L44r13) .ret)))))))
theorem nt44 : Try.f44.ntmps = 45 := by kernel_rfl
theorem rs44 : Try.f44.results.toList = [.cell 2 60, .tmp 3] := by kernel_rfl
theorem lite44 : Try.f44.body.map (lite okDraw) = some L44 := by kernel_rfl
def L45r0 : List AOp := [
  ⟨(some 4), .assign (.const (.slice none 0 0)), none, 0⟩]
def L45r1 : List AOp := [
  ⟨(some 8), .call { callee := .value (.func 31), args := #[], argTypes := #[] }, none, 0⟩,
  ⟨(some 9), .move (.tmp 1), none, 0⟩,
  ⟨(some 10), .call { callee := .value (.func 32), args := #[.tmp 8, .tmp 9], argTypes := #[38, 38] }, none, 0⟩,
  ⟨(some 5), .assign (.tmp 10), none, 0⟩]
def L45r2 : List AOp := [
  ⟨(some 12), .move (.tmp 0), none, 0⟩,
  ⟨(some 13), .call { callee := .value (.func 61), args := #[.tmp 12], argTypes := #[38] }, none, 0⟩,
  ⟨(some 11), .move (.tmp 13), none, 0⟩,
  ⟨(some 14), .extract (.tmp 11) 0, none, 0⟩,
  ⟨(some 15), .extract (.tmp 11) 1, none, 0⟩,
  ⟨(some 6), .assign (.tmp 14), none, 0⟩,
  ⟨(some 7), .assign (.tmp 15), none, 0⟩]
def L45r3 : List AOp := [
  ⟨(some 16), .move (.tmp 7), none, 0⟩,
  ⟨(some 17), .call { callee := .builtin .len, args := #[.tmp 16], argTypes := #[38] }, none, 0⟩,
  ⟨(some 18), .binOp .gtr 3 (.tmp 17) (.const (.int .i64 0)) 3, none, 0⟩]
def L45r4 : List AOp := [
  ⟨(some 20), .move (.tmp 6), none, 0⟩,
  ⟨(some 21), .move (.tmp 7), none, 0⟩,
  ⟨(some 22), .move (.tmp 5), none, 0⟩,
  ⟨(some 23), .call { callee := .value (.func 41), args := #[.tmp 21, .tmp 22], argTypes := #[38, 38] }, none, 0⟩,
  ⟨(some 24), .call { callee := .value (.func 30), args := #[.tmp 20, .tmp 23], argTypes := #[38, 38] }, none, 0⟩,
  ⟨(some 25), .call { callee := .value (.func 61), args := #[.tmp 24], argTypes := #[38] }, none, 0⟩,
  ⟨(some 19), .move (.tmp 25), none, 0⟩,
  ⟨(some 26), .extract (.tmp 19) 0, none, 0⟩,
  ⟨(some 27), .extract (.tmp 19) 1, none, 0⟩,
  ⟨(some 6), .assign (.tmp 26), none, 0⟩,
  ⟨(some 7), .assign (.tmp 27), none, 0⟩]
def L45r5 : List AOp := [
  ⟨(some 28), .move (.tmp 6), none, 0⟩,
  ⟨(some 29), .move (.tmp 1), none, 0⟩,
  ⟨(some 30), .call { callee := .value (.func 29), args := #[.tmp 28, .tmp 29], argTypes := #[38, 38] }, none, 0⟩,
  ⟨(some 31), .binOp .geq 3 (.tmp 30) (.const (.int .i64 0)) 3, none, 0⟩]
def L45r6 : List AOp := [
  ⟨(some 32), .move (.tmp 6), none, 0⟩,
  ⟨(some 33), .move (.tmp 1), none, 0⟩,
  ⟨(some 34), .call { callee := .value (.func 32), args := #[.tmp 32, .tmp 33], argTypes := #[38, 38] }, none, 0⟩,
  ⟨(some 6), .assign (.tmp 34), none, 0⟩]
def L45r7 : List AOp := [
  ⟨(some 35), .move (.tmp 6), none, 0⟩,
  ⟨(some 4), .assign (.tmp 35), none, 0⟩]
def L45 : LC := (.seq (.region L45r0) (.seq (.region L45r1) (.seq (.region L45r2) (.seq (.block 0 (.loop (.seq (.seq (.region L45r3) (.cond (.tmp 18) .skip (.exit 0))) (.block 1 (.region L45r4))))) (.seq (.block 2 (.loop (.seq (.seq (.region L45r5) (.cond (.tmp 31) .skip (.exit 2))) (.block 3 (.region L45r6))))) (.seq (.region L45r7) .ret))))))
theorem nt45 : Try.f45.ntmps = 36 := by kernel_rfl
theorem rs45 : Try.f45.results.toList = [.tmp 4] := by kernel_rfl
theorem lite45 : Try.f45.body.map (lite okDraw) = some L45 := by kernel_rfl
def L46r0 : List AOp := [
  ⟨(some 1), .box 24 (.tmp 0), none, 0⟩,
  ⟨(some 2), .assign (.const (.slice none 0 0)), none, 0⟩]
def L46r1 : List AOp := [
  ⟨(some 3), .load 24 (.tmp 1), none, 0⟩,
  ⟨(some 4), .call { callee := .value (.func 28), args := #[.tmp 3], argTypes := #[23] }, none, 0⟩,
  ⟨(some 2), .assign (.tmp 4), none, 0⟩]
def L46 : LC := (.seq (.region L46r0) (.seq (.region L46r1) .ret))
theorem nt46 : Try.f46.ntmps = 5 := by kernel_rfl
theorem rs46 : Try.f46.results.toList = [.tmp 2] := by kernel_rfl
theorem lite46 : Try.f46.body.map (lite okDraw) = some L46 := by kernel_rfl
def L47r0 : List AOp := [
  ⟨(some 1), .box 24 (.tmp 0), none, 0⟩,
  ⟨(some 2), .alloc 24, none, 0⟩]
def L47r1 : List AOp := [
  ⟨(some 3), .indexAddr 24 (.tmp 1) (.const (.int .i64 0)), none, 0⟩,
  ⟨(some 4), .load 22 (.tmp 3), none, 0⟩,
  ⟨(some 5), .binOp .or 22 (.tmp 4) (.const (.int .u64 1)) 22, none, 0⟩,
  ⟨(some 6), .indexAddr 24 (.tmp 1) (.const (.int .i64 0)), none, 0⟩,
  ⟨none, .store 22 (.tmp 6) (.tmp 5), none, 0⟩]
def L47r2 : List AOp := [
  ⟨(some 7), .indexAddr 24 (.tmp 1) (.const (.int .i64 5)), none, 0⟩,
  ⟨(some 8), .load 22 (.tmp 7), none, 0⟩,
  ⟨(some 9), .binOp .or 22 (.tmp 8) (.const (.int .u64 9223372036854775808)) 22, none, 0⟩,
  ⟨(some 10), .indexAddr 24 (.tmp 1) (.const (.int .i64 5)), none, 0⟩,
  ⟨none, .store 22 (.tmp 10) (.tmp 9), none, 0⟩]
def L47r3 : List AOp := [
  ⟨(some 11), .load 24 (.tmp 1), none, 0⟩,
  ⟨none, .store 24 (.tmp 2) (.tmp 11), none, 0⟩]
def L47 : LC := (.seq (.region L47r0) (.seq (.region L47r1) (.seq (.region L47r2) (.seq (.region L47r3) .ret))))
theorem nt47 : Try.f47.ntmps = 12 := by kernel_rfl
theorem rs47 : Try.f47.results.toList = [.cell 2 24] := by kernel_rfl
theorem lite47 : Try.f47.body.map (lite okDraw) = some L47 := by kernel_rfl
def L48r0 : List AOp := [
  ⟨(some 2), .box 55 (.tmp 0), none, 0⟩,
  ⟨(some 3), .box 60 (.tmp 1), none, 0⟩,
  ⟨(some 4), .alloc 24, none, 0⟩]
def L48r1 : List AOp := [
  ⟨(some 5), .assign (.const (.int .u64 0)), none, 0⟩]
def L48r2 : List AOp := [
  ⟨(some 16), .move (.const (.int .i64 0)), none, 0⟩]
def L48r3 : List AOp := [
  ⟨(some 17), .binOp .lss 3 (.tmp 16) (.const (.int .i64 6)) 3, none, 0⟩]
def L48r4 : List AOp := [
  ⟨(some 18), .move (.tmp 16), none, 0⟩,
  ⟨(some 6), .assign (.tmp 18), none, 0⟩]
def L48r5 : List AOp := [
  ⟨(some 19), .move (.tmp 6), none, 0⟩,
  ⟨(some 20), .indexAddr 55 (.tmp 2) (.tmp 19), none, 1⟩,
  ⟨(some 21), .load 22 (.tmp 20), none, 3⟩,
  ⟨(some 22), .fieldAddr 60 (.tmp 3) 1, none, 0⟩,
  ⟨(some 23), .load 22 (.tmp 22), none, 8⟩,
  ⟨(some 24), .binOp .mul 22 (.tmp 21) (.tmp 23) 22, none, 1267650600228229401496703205407⟩,
  ⟨(some 7), .assign (.tmp 24), none, 1267650600228229401496703205439⟩]
def L48r6 : List AOp := [
  ⟨(some 8), .assign (.const (.int .u64 0)), none, 0⟩]
def L48r7 : List AOp := [
  ⟨(some 25), .move (.const (.int .i64 0)), none, 0⟩]
def L48r8 : List AOp := [
  ⟨(some 26), .binOp .lss 3 (.tmp 25) (.const (.int .i64 6)) 3, none, 0⟩]
def L48r9 : List AOp := [
  ⟨(some 27), .move (.tmp 25), none, 0⟩,
  ⟨(some 9), .assign (.tmp 27), none, 0⟩]
def L48r10 : List AOp := [
  ⟨(some 29), .move (.tmp 7), none, 0⟩,
  ⟨(some 30), .move (.tmp 9), none, 0⟩,
  ⟨(some 31), .fieldAddr 60 (.tmp 3) 0, none, 0⟩,
  ⟨(some 32), .indexAddr 24 (.tmp 31) (.tmp 30), none, 0⟩,
  ⟨(some 33), .load 22 (.tmp 32), none, 0⟩,
  ⟨(some 34), .call { callee := .value (.func 59), args := #[.tmp 29, .tmp 33], argTypes := #[22, 22] }, none, 0⟩,
  ⟨(some 28), .move (.tmp 34), none, 0⟩,
  ⟨(some 35), .extract (.tmp 28) 0, none, 0⟩,
  ⟨(some 36), .extract (.tmp 28) 1, none, 0⟩,
  ⟨(some 10), .assign (.tmp 35), none, 0⟩,
  ⟨(some 11), .assign (.tmp 36), none, 0⟩]
def L48r11 : List AOp := [
  ⟨(some 12), .assign (.const (.int .u64 0)), none, 0⟩]
def L48r12 : List AOp := [
  ⟨(some 38), .move (.tmp 11), none, 0⟩,
  ⟨(some 39), .move (.tmp 6), none, 0⟩,
  ⟨(some 40), .move (.tmp 9), none, 0⟩,
  ⟨(some 41), .binOp .add 3 (.tmp 39) (.tmp 40) 3, none, 0⟩,
  ⟨(some 42), .indexAddr 55 (.tmp 2) (.tmp 41), none, 0⟩,
  ⟨(some 43), .load 22 (.tmp 42), none, 0⟩,
  ⟨(some 44), .call { callee := .value (.func 58), args := #[.tmp 38, .tmp 43, .const (.int .u64 0)], argTypes := #[22, 22, 22] }, none, 0⟩,
  ⟨(some 37), .move (.tmp 44), none, 0⟩,
  ⟨(some 45), .extract (.tmp 37) 0, none, 0⟩,
  ⟨(some 46), .extract (.tmp 37) 1, none, 0⟩,
  ⟨(some 11), .assign (.tmp 45), none, 0⟩,
  ⟨(some 12), .assign (.tmp 46), none, 0⟩]
def L48r13 : List AOp := [
  ⟨(some 47), .move (.tmp 10), none, 0⟩,
  ⟨(some 48), .move (.tmp 12), none, 0⟩,
  ⟨(some 49), .binOp .add 22 (.tmp 47) (.tmp 48) 22, none, 0⟩,
  ⟨(some 10), .assign (.tmp 49), none, 0⟩]
def L48r14 : List AOp := [
  ⟨(some 51), .move (.tmp 11), none, 0⟩,
  ⟨(some 52), .move (.tmp 8), none, 0⟩,
  ⟨(some 53), .call { callee := .value (.func 58), args := #[.tmp 51, .tmp 52, .const (.int .u64 0)], argTypes := #[22, 22, 22] }, none, 0⟩,
  ⟨(some 50), .move (.tmp 53), none, 0⟩,
  ⟨(some 54), .extract (.tmp 50) 0, none, 0⟩,
  ⟨(some 55), .extract (.tmp 50) 1, none, 0⟩,
  ⟨(some 11), .assign (.tmp 54), none, 0⟩,
  ⟨(some 12), .assign (.tmp 55), none, 0⟩]
def L48r15 : List AOp := [
  ⟨(some 56), .move (.tmp 6), none, 0⟩,
  ⟨(some 57), .move (.tmp 9), none, 0⟩,
  ⟨(some 58), .binOp .add 3 (.tmp 56) (.tmp 57) 3, none, 0⟩,
  ⟨(some 59), .move (.tmp 11), none, 0⟩,
  ⟨(some 60), .move (.tmp 10), none, 0⟩,
  ⟨(some 61), .move (.tmp 12), none, 0⟩,
  ⟨(some 62), .binOp .add 22 (.tmp 60) (.tmp 61) 22, none, 0⟩,
  ⟨(some 63), .indexAddr 55 (.tmp 2) (.tmp 58), none, 0⟩,
  ⟨none, .store 22 (.tmp 63) (.tmp 59), none, 0⟩,
  ⟨(some 8), .assign (.tmp 62), none, 0⟩]
def L48r16 : List AOp := [
  ⟨(some 64), .binOp .add 3 (.tmp 25) (.const (.int .i64 1)) 3, none, 0⟩,
  ⟨(some 25), .move (.tmp 64), none, 0⟩]
def L48r17 : List AOp := [
  ⟨(some 13), .assign (.const (.int .u64 0)), none, 0⟩]
def L48r18 : List AOp := [
  ⟨(some 65), .move (.tmp 6), none, 0⟩,
  ⟨(some 66), .binOp .add 3 (.tmp 65) (.const (.int .i64 6)) 3, none, 0⟩,
  ⟨(some 14), .assign (.tmp 66), none, 0⟩]
def L48r19 : List AOp := [
  ⟨(some 67), .move (.tmp 14), none, 0⟩,
  ⟨(some 68), .binOp .lss 3 (.tmp 67) (.const (.int .i64 12)) 3, none, 0⟩]
def L48r21 : List AOp := [
  ⟨(some 72), .move (.tmp 14), none, 0⟩,
  ⟨(some 73), .move (.tmp 14), none, 0⟩,
  ⟨(some 74), .indexAddr 55 (.tmp 2) (.tmp 73), none, 0⟩,
  ⟨(some 75), .load 22 (.tmp 74), none, 0⟩,
  ⟨(some 76), .move (.tmp 8), none, 0⟩,
  ⟨(some 77), .call { callee := .value (.func 58), args := #[.tmp 75, .tmp 76, .const (.int .u64 0)], argTypes := #[22, 22, 22] }, none, 0⟩,
  ⟨(some 71), .move (.tmp 77), none, 0⟩,
  ⟨(some 78), .extract (.tmp 71) 0, none, 0⟩,
  ⟨(some 79), .extract (.tmp 71) 1, none, 0⟩,
  ⟨(some 80), .indexAddr 55 (.tmp 2) (.tmp 72), none, 0⟩,
  ⟨none, .store 22 (.tmp 80) (.tmp 78), none, 0⟩,
  ⟨(some 13), .assign (.tmp 79), none, 0⟩]
def L48r22 : List AOp := [
  ⟨(some 81), .move (.tmp 13), none, 0⟩,
  ⟨(some 8), .assign (.tmp 81), none, 0⟩]
def L48r20 : List AOp := [
  ⟨(some 69), .move (.tmp 14), none, 0⟩,
  ⟨(some 70), .binOp .add 3 (.tmp 69) (.const (.int .i64 1)) 3, none, 0⟩,
  ⟨(some 14), .assign (.tmp 70), none, 0⟩]
def L48r23 : List AOp := [
  ⟨(some 82), .move (.tmp 5), none, 0⟩,
  ⟨(some 83), .move (.tmp 8), none, 0⟩,
  ⟨(some 84), .binOp .add 22 (.tmp 82) (.tmp 83) 22, none, 0⟩,
  ⟨(some 5), .assign (.tmp 84), none, 0⟩]
def L48r24 : List AOp := [
  ⟨(some 85), .binOp .add 3 (.tmp 16) (.const (.int .i64 1)) 3, none, 0⟩,
  ⟨(some 16), .move (.tmp 85), none, 0⟩]
def L48r25 : List AOp := [
  ⟨(some 86), .slice 55 (.tmp 2) (some (.const (.int .i64 6))) none none, none, 0⟩,
  ⟨(some 87), .sliceToArrayPointer 24 (.tmp 86), none, 0⟩,
  ⟨(some 88), .load 24 (.tmp 87), none, 0⟩,
  ⟨(some 15), .alloc 24, none, 0⟩,
  ⟨none, .store 24 (.tmp 15) (.tmp 88), none, 0⟩]
def L48r26 : List AOp := [
  ⟨(some 89), .load 24 (.tmp 15), none, 0⟩,
  ⟨(some 90), .move (.tmp 5), none, 0⟩,
  ⟨(some 91), .fieldAddr 60 (.tmp 3) 0, none, 0⟩,
  ⟨(some 92), .load 24 (.tmp 91), none, 0⟩,
  ⟨(some 93), .call { callee := .value (.func 62), args := #[.tmp 89, .tmp 90, .tmp 92], argTypes := #[24, 22, 24] }, none, 0⟩,
  ⟨none, .store 24 (.tmp 15) (.tmp 93), none, 0⟩]
def L48r27 : List AOp := [
  ⟨(some 94), .load 24 (.tmp 15), none, 0⟩,
  ⟨(some 95), .fieldAddr 60 (.tmp 3) 0, none, 0⟩,
  ⟨(some 96), .load 24 (.tmp 95), none, 0⟩,
  ⟨(some 97), .call { callee := .value (.func 62), args := #[.tmp 94, .const (.int .u64 0), .tmp 96], argTypes := #[24, 22, 24] }, none, 0⟩,
  ⟨none, .store 24 (.tmp 4) (.tmp 97), none, 0⟩]
def L48 : LC := (.seq (.region L48r0) (.seq (.region L48r1) (.seq (.seq (.region L48r2) (.block 0 (.loop (.seq (.region L48r3) (.seq (.cond (.tmp 17) .skip (.exit 0)) (.seq (.block 1 (.seq (.region L48r4) (.seq (.regionD L48r5) (.seq (.region L48r6) (.seq (.seq (.region L48r7) (.block 2 (.loop (.seq (.region L48r8) (.seq (.cond (.tmp 26) .skip (.exit 2)) (.seq (.block 3 (.seq (.region L48r9) (.seq (.region L48r10) (.seq (.region L48r11) (.seq (.region L48r12) (.seq (.region L48r13) (.seq (.region L48r14) (.region L48r15)))))))) (.region L48r16))))))) (.seq (.region L48r17) (.seq (.seq (.region L48r18) (.block 4 (.loop (.seq (.seq (.region L48r19) (.cond (.tmp 68) .skip (.exit 4))) (.seq (.block 5 (.seq (.region L48r21) (.region L48r22))) (.region L48r20)))))) (.region L48r23)))))))) (.region L48r24))))))) (.seq (.region L48r25) (.seq (.region L48r26) (.seq (.region L48r27) .ret))))))
theorem nt48 : Try.f48.ntmps = 98 := by kernel_rfl
theorem rs48 : Try.f48.results.toList = [.cell 4 24] := by kernel_rfl
theorem lite48 : Try.f48.body.map (lite okDraw) = some L48 := by kernel_rfl
def L49r0 : List AOp := [
  ⟨(some 3), .box 24 (.tmp 0), none, 0⟩,
  ⟨(some 4), .box 24 (.tmp 1), none, 0⟩,
  ⟨(some 5), .box 60 (.tmp 2), none, 0⟩,
  ⟨(some 6), .alloc 24, none, 0⟩]
def L49r1 : List AOp := [
  ⟨(some 7), .load 24 (.tmp 3), none, 0⟩,
  ⟨(some 8), .fieldAddr 60 (.tmp 5) 2, none, 0⟩,
  ⟨(some 9), .load 24 (.tmp 8), none, 2⟩,
  ⟨(some 10), .load 60 (.tmp 5), none, 0⟩,
  ⟨(some 11), .call { callee := .value (.func 63), args := #[.tmp 7, .tmp 9, .tmp 10], argTypes := #[24, 24, 60] }, none, 15⟩,
  ⟨(some 12), .load 24 (.tmp 4), none, 0⟩,
  ⟨(some 13), .load 60 (.tmp 5), none, 0⟩,
  ⟨(some 14), .call { callee := .value (.func 63), args := #[.tmp 11, .tmp 12, .tmp 13], argTypes := #[24, 24, 60] }, none, 1267650600228229401496703205503⟩,
  ⟨none, .store 24 (.tmp 6) (.tmp 14), none, 1267650600228229401496703205631⟩]
def L49 : LC := (.seq (.region L49r0) (.seq (.regionD L49r1) .ret))
theorem nt49 : Try.f49.ntmps = 15 := by kernel_rfl
theorem rs49 : Try.f49.results.toList = [.cell 6 24] := by kernel_rfl
theorem lite49 : Try.f49.body.map (lite okDraw) = some L49 := by kernel_rfl
def L50r0 : List AOp := [
  ⟨(some 3), .box 24 (.tmp 0), none, 0⟩,
  ⟨(some 4), .box 24 (.tmp 1), none, 0⟩,
  ⟨(some 5), .box 60 (.tmp 2), none, 0⟩,
  ⟨(some 6), .alloc 24, none, 0⟩]
def L50r1 : List AOp := [
  ⟨(some 10), .load 24 (.tmp 3), none, 0⟩,
  ⟨(some 11), .load 60 (.tmp 5), none, 0⟩,
  ⟨(some 12), .call { callee := .value (.func 64), args := #[.tmp 10, .tmp 11], argTypes := #[24, 60] }, none, 3⟩,
  ⟨(some 13), .load 24 (.tmp 4), none, 0⟩,
  ⟨(some 14), .load 60 (.tmp 5), none, 0⟩,
  ⟨(some 15), .call { callee := .value (.func 64), args := #[.tmp 13, .tmp 14], argTypes := #[24, 60] }, none, 31⟩,
  ⟨(some 16), .call { callee := .value (.func 35), args := #[.tmp 12, .tmp 15], argTypes := #[24, 24] }, none, 63⟩,
  ⟨(some 9), .move (.tmp 16), none, 127⟩,
  ⟨(some 17), .extract (.tmp 9) 0, none, 255⟩,
  ⟨(some 18), .extract (.tmp 9) 1, none, 255⟩,
  ⟨(some 7), .alloc 24, none, 0⟩,
  ⟨none, .store 24 (.tmp 7) (.tmp 17), none, 1535⟩,
  ⟨(some 8), .assign (.tmp 18), none, 1267650600228229401496703209471⟩]
def L50r2 : List AOp := [
  ⟨(some 19), .load 24 (.tmp 7), none, 0⟩,
  ⟨(some 20), .move (.tmp 8), none, 0⟩,
  ⟨(some 21), .fieldAddr 60 (.tmp 5) 0, none, 0⟩,
  ⟨(some 22), .load 24 (.tmp 21), none, 0⟩,
  ⟨(some 23), .call { callee := .value (.func 62), args := #[.tmp 19, .tmp 20, .tmp 22], argTypes := #[24, 22, 24] }, none, 0⟩,
  ⟨none, .store 24 (.tmp 6) (.tmp 23), none, 0⟩]
def L50 : LC := (.seq (.region L50r0) (.seq (.regionD L50r1) (.seq (.region L50r2) .ret)))
theorem nt50 : Try.f50.ntmps = 24 := by kernel_rfl
theorem rs50 : Try.f50.results.toList = [.cell 6 24] := by kernel_rfl
theorem lite50 : Try.f50.body.map (lite okDraw) = some L50 := by kernel_rfl
def L51r0 : List AOp := [
  ⟨(some 3), .box 24 (.tmp 0), none, 0⟩,
  ⟨(some 4), .box 24 (.tmp 1), none, 0⟩,
  ⟨(some 5), .box 60 (.tmp 2), none, 0⟩,
  ⟨(some 6), .alloc 24, none, 0⟩]
def L51r1 : List AOp := [
  ⟨(some 12), .load 24 (.tmp 3), none, 0⟩,
  ⟨(some 13), .load 60 (.tmp 5), none, 0⟩,
  ⟨(some 14), .call { callee := .value (.func 64), args := #[.tmp 12, .tmp 13], argTypes := #[24, 60] }, none, 3⟩,
  ⟨(some 15), .load 24 (.tmp 4), none, 0⟩,
  ⟨(some 16), .load 60 (.tmp 5), none, 0⟩,
  ⟨(some 17), .call { callee := .value (.func 64), args := #[.tmp 15, .tmp 16], argTypes := #[24, 60] }, none, 31⟩,
  ⟨(some 18), .call { callee := .value (.func 27), args := #[.tmp 14, .tmp 17], argTypes := #[24, 24] }, none, 63⟩,
  ⟨(some 11), .move (.tmp 18), none, 127⟩,
  ⟨(some 19), .extract (.tmp 11) 0, none, 255⟩,
  ⟨(some 20), .extract (.tmp 11) 1, none, 255⟩,
  ⟨(some 7), .alloc 24, none, 0⟩,
  ⟨none, .store 24 (.tmp 7) (.tmp 19), none, 1535⟩,
  ⟨(some 8), .assign (.tmp 20), none, 1267650600228229401496703209471⟩]
def L51r2 : List AOp := [
  ⟨(some 22), .load 24 (.tmp 7), none, 0⟩,
  ⟨(some 23), .fieldAddr 60 (.tmp 5) 0, none, 0⟩,
  ⟨(some 24), .load 24 (.tmp 23), none, 0⟩,
  ⟨(some 25), .call { callee := .value (.func 35), args := #[.tmp 22, .tmp 24], argTypes := #[24, 24] }, none, 0⟩,
  ⟨(some 21), .move (.tmp 25), none, 0⟩,
  ⟨(some 26), .extract (.tmp 21) 0, none, 0⟩,
  ⟨(some 27), .extract (.tmp 21) 1, none, 0⟩,
  ⟨(some 9), .alloc 24, none, 0⟩,
  ⟨none, .store 24 (.tmp 9) (.tmp 26), none, 0⟩,
  ⟨(some 10), .assign (.tmp 27), none, 0⟩]
def L51r3 : List AOp := [
  ⟨(some 28), .move (.tmp 8), none, 0⟩,
  ⟨(some 29), .load 24 (.tmp 7), none, 0⟩,
  ⟨(some 30), .load 24 (.tmp 9), none, 0⟩,
  ⟨(some 31), .call { callee := .value (.func 23), args := #[.tmp 28, .tmp 29, .tmp 30], argTypes := #[22, 24, 24] }, none, 0⟩,
  ⟨none, .store 24 (.tmp 6) (.tmp 31), none, 0⟩]
def L51 : LC := (.seq (.region L51r0) (.seq (.regionD L51r1) (.seq (.region L51r2) (.seq (.region L51r3) .ret))))
theorem nt51 : Try.f51.ntmps = 32 := by kernel_rfl
theorem rs51 : Try.f51.results.toList = [.cell 6 24] := by kernel_rfl
theorem lite51 : Try.f51.body.map (lite okDraw) = some L51 := by kernel_rfl
def L52r0 : List AOp := [
  ⟨(some 6), .assign (.const (.slice none 0 0)), none, 0⟩]
def L52r1 : List AOp := [
  ⟨(some 11), .buildSlice 38 1 #[(0, .const (.int .u64 1))], none, 0⟩,
  ⟨(some 12), .move (.tmp 2), none, 0⟩,
  ⟨(some 13), .call { callee := .value (.func 45), args := #[.tmp 11, .tmp 12], argTypes := #[38, 38] }, none, 0⟩,
  ⟨(some 7), .assign (.tmp 13), none, 0⟩]
def L52r2 : List AOp := [
  ⟨(some 14), .move (.tmp 0), none, 0⟩,
  ⟨(some 15), .move (.tmp 2), none, 0⟩,
  ⟨(some 16), .call { callee := .value (.func 45), args := #[.tmp 14, .tmp 15], argTypes := #[38, 38] }, none, 0⟩,
  ⟨(some 8), .assign (.tmp 16), none, 0⟩]
def L52r3 : List AOp := [
  ⟨(some 17), .move (.tmp 1), none, 0⟩,
  ⟨(some 18), .call { callee := .value (.func 36), args := #[.tmp 17], argTypes := #[38] }, none, 0⟩,
  ⟨(some 19), .binOp .sub 3 (.tmp 18) (.const (.int .i64 1)) 3, none, 0⟩,
  ⟨(some 9), .assign (.tmp 19), none, 0⟩]
def L52r4 : List AOp := [
  ⟨(some 20), .move (.tmp 9), none, 0⟩,
  ⟨(some 21), .binOp .geq 3 (.tmp 20) (.const (.int .i64 0)) 3, none, 0⟩]
def L52r6 : List AOp := [
  ⟨(some 24), .move (.tmp 7), none, 0⟩,
  ⟨(some 25), .move (.tmp 7), none, 0⟩,
  ⟨(some 26), .call { callee := .value (.func 41), args := #[.tmp 24, .tmp 25], argTypes := #[38, 38] }, none, 0⟩,
  ⟨(some 27), .move (.tmp 2), none, 0⟩,
  ⟨(some 28), .call { callee := .value (.func 45), args := #[.tmp 26, .tmp 27], argTypes := #[38, 38] }, none, 0⟩,
  ⟨(some 7), .assign (.tmp 28), none, 0⟩]
def L52r7 : List AOp := [
  ⟨(some 29), .move (.tmp 1), none, 0⟩,
  ⟨(some 30), .move (.tmp 9), none, 0⟩,
  ⟨(some 31), .call { callee := .value (.func 65), args := #[.tmp 29, .tmp 30], argTypes := #[38, 3] }, none, 0⟩,
  ⟨(some 10), .assign (.tmp 31), none, 0⟩]
def L52r8 : List AOp := [
  ⟨(some 32), .move (.tmp 10), none, 0⟩]
def L52r9 : List AOp := [
  ⟨(some 33), .move (.tmp 7), none, 0⟩,
  ⟨(some 34), .move (.tmp 8), none, 0⟩,
  ⟨(some 35), .call { callee := .value (.func 41), args := #[.tmp 33, .tmp 34], argTypes := #[38, 38] }, none, 0⟩,
  ⟨(some 36), .move (.tmp 2), none, 0⟩,
  ⟨(some 37), .call { callee := .value (.func 45), args := #[.tmp 35, .tmp 36], argTypes := #[38, 38] }, none, 0⟩,
  ⟨(some 7), .assign (.tmp 37), none, 0⟩]
def L52r5 : List AOp := [
  ⟨(some 22), .move (.tmp 9), none, 0⟩,
  ⟨(some 23), .binOp .sub 3 (.tmp 22) (.const (.int .i64 1)) 3, none, 0⟩,
  ⟨(some 9), .assign (.tmp 23), none, 0⟩]
def L52r10 : List AOp := [
  ⟨(some 38), .move (.tmp 7), none, 0⟩,
  ⟨(some 6), .assign (.tmp 38), none, 0⟩]
def L52 : LC := (.seq (.region L52r0) (.seq (.region L52r1) (.seq (.region L52r2) (.seq (.seq (.region L52r3) (.block 0 (.loop (.seq (.seq (.region L52r4) (.cond (.tmp 21) .skip (.exit 0))) (.seq (.block 1 (.seq (.region L52r6) (.seq (.region L52r7) (.seq (.region L52r8) (.cond (.tmp 32) (.region L52r9) .skip))))) (.region L52r5)))))) (.seq (.region L52r10) .ret)))))
theorem nt52 : Try.f52.ntmps = 39 := by kernel_rfl
theorem rs52 : Try.f52.results.toList = [.tmp 6] := by kernel_rfl
theorem lite52 : Try.f52.body.map (lite okDraw) = some L52 := by kernel_rfl
def L53r0 : List AOp := [
  ⟨(some 3), .box 24 (.tmp 0), none, 0⟩,
  ⟨(some 4), .box 24 (.tmp 1), none, 0⟩,
  ⟨(some 5), .box 60 (.tmp 2), none, 0⟩,
  ⟨(some 6), .alloc 24, none, 0⟩]
def L53r1 : List AOp := [
  ⟨(some 10), .load 24 (.tmp 3), none, 0⟩,
  ⟨(some 11), .fieldAddr 60 (.tmp 5) 2, none, 0⟩,
  ⟨(some 12), .load 24 (.tmp 11), none, 0⟩,
  ⟨(some 13), .load 60 (.tmp 5), none, 0⟩,
  ⟨(some 14), .call { callee := .value (.func 63), args := #[.tmp 10, .tmp 12, .tmp 13], argTypes := #[24, 24, 60] }, none, 0⟩,
  ⟨(some 7), .alloc 24, none, 0⟩,
  ⟨none, .store 24 (.tmp 7) (.tmp 14), none, 0⟩]
def L53r2 : List AOp := [
  ⟨(some 15), .build 24 #[(0, .const (.int .u64 1))], none, 0⟩,
  ⟨(some 16), .fieldAddr 60 (.tmp 5) 2, none, 0⟩,
  ⟨(some 17), .load 24 (.tmp 16), none, 0⟩,
  ⟨(some 18), .load 60 (.tmp 5), none, 0⟩,
  ⟨(some 19), .call { callee := .value (.func 63), args := #[.tmp 15, .tmp 17, .tmp 18], argTypes := #[24, 24, 60] }, none, 0⟩,
  ⟨(some 8), .alloc 24, none, 0⟩,
  ⟨none, .store 24 (.tmp 8) (.tmp 19), none, 0⟩]
def L53r3 : List AOp := [
  ⟨(some 9), .assign (.const (.int .i64 383)), none, 0⟩]
def L53r4 : List AOp := [
  ⟨(some 20), .move (.tmp 9), none, 0⟩,
  ⟨(some 21), .binOp .geq 3 (.tmp 20) (.const (.int .i64 0)) 3, none, 0⟩]
def L53r6 : List AOp := [
  ⟨(some 24), .load 24 (.tmp 8), none, 0⟩,
  ⟨(some 25), .load 24 (.tmp 8), none, 0⟩,
  ⟨(some 26), .load 60 (.tmp 5), none, 0⟩,
  ⟨(some 27), .call { callee := .value (.func 63), args := #[.tmp 24, .tmp 25, .tmp 26], argTypes := #[24, 24, 60] }, none, 0⟩,
  ⟨none, .store 24 (.tmp 8) (.tmp 27), none, 0⟩]
def L53r7 : List AOp := [
  ⟨(some 28), .load 24 (.tmp 4), none, 0⟩,
  ⟨(some 29), .move (.tmp 9), none, 0⟩,
  ⟨(some 30), .call { callee := .value (.func 21), args := #[.tmp 28, .tmp 29], argTypes := #[24, 3] }, none, 3⟩,
  ⟨(some 31), .load 24 (.tmp 8), none, 0⟩,
  ⟨(some 32), .load 24 (.tmp 8), none, 0⟩,
  ⟨(some 33), .load 24 (.tmp 7), none, 0⟩,
  ⟨(some 34), .load 60 (.tmp 5), none, 0⟩,
  ⟨(some 35), .call { callee := .value (.func 63), args := #[.tmp 32, .tmp 33, .tmp 34], argTypes := #[24, 24, 60] }, none, 119⟩,
  ⟨(some 36), .call { callee := .value (.func 23), args := #[.tmp 30, .tmp 31, .tmp 35], argTypes := #[22, 24, 24] }, none, 1267650600228229401496703205631⟩,
  ⟨none, .store 24 (.tmp 8) (.tmp 36), none, 1267650600228229401496703205887⟩]
def L53r5 : List AOp := [
  ⟨(some 22), .move (.tmp 9), none, 0⟩,
  ⟨(some 23), .binOp .sub 3 (.tmp 22) (.const (.int .i64 1)) 3, none, 0⟩,
  ⟨(some 9), .assign (.tmp 23), none, 0⟩]
def L53r8 : List AOp := [
  ⟨(some 37), .load 24 (.tmp 8), none, 0⟩,
  ⟨(some 38), .build 24 #[(0, .const (.int .u64 1))], none, 0⟩,
  ⟨(some 39), .load 60 (.tmp 5), none, 0⟩,
  ⟨(some 40), .call { callee := .value (.func 63), args := #[.tmp 37, .tmp 38, .tmp 39], argTypes := #[24, 24, 60] }, none, 0⟩,
  ⟨none, .store 24 (.tmp 6) (.tmp 40), none, 0⟩]
def L53 : LC := (.seq (.region L53r0) (.seq (.region L53r1) (.seq (.region L53r2) (.seq (.seq (.region L53r3) (.block 0 (.loop (.seq (.seq (.region L53r4) (.cond (.tmp 21) .skip (.exit 0))) (.seq (.block 1 (.seq (.region L53r6) (.regionD L53r7))) (.region L53r5)))))) (.seq (.region L53r8) .ret)))))
theorem nt53 : Try.f53.ntmps = 41 := by kernel_rfl
theorem rs53 : Try.f53.results.toList = [.cell 6 24] := by kernel_rfl
theorem lite53 : Try.f53.body.map (lite okDraw) = some L53 := by kernel_rfl
def L60r0 : List AOp := [
  ⟨(some 2), .box 24 (.tmp 0), none, 0⟩,
  ⟨(some 3), .box 24 (.tmp 1), none, 0⟩,
  ⟨(some 4), .alloc 24, none, 0⟩]
def L60r1 : List AOp := [
  ⟨(some 8), .load 24 (.tmp 2), none, 0⟩,
  ⟨(some 9), .load 24 (.tmp 2), none, 0⟩,
  ⟨(some 10), .call { callee := .value (.func 35), args := #[.tmp 8, .tmp 9], argTypes := #[24, 24] }, none, 0⟩,
  ⟨(some 7), .move (.tmp 10), none, 0⟩,
  ⟨(some 11), .extract (.tmp 7) 0, none, 0⟩,
  ⟨(some 12), .extract (.tmp 7) 1, none, 0⟩,
  ⟨(some 5), .alloc 24, none, 0⟩,
  ⟨none, .store 24 (.tmp 5) (.tmp 11), none, 0⟩,
  ⟨(some 6), .assign (.tmp 12), none, 0⟩]
def L60r2 : List AOp := [
  ⟨(some 13), .load 24 (.tmp 5), none, 0⟩,
  ⟨(some 14), .move (.tmp 6), none, 0⟩,
  ⟨(some 15), .load 24 (.tmp 3), none, 0⟩,
  ⟨(some 16), .call { callee := .value (.func 62), args := #[.tmp 13, .tmp 14, .tmp 15], argTypes := #[24, 22, 24] }, none, 0⟩,
  ⟨none, .store 24 (.tmp 4) (.tmp 16), none, 0⟩]
def L60 : LC := (.seq (.region L60r0) (.seq (.region L60r1) (.seq (.region L60r2) .ret)))
theorem nt60 : Try.f60.ntmps = 17 := by kernel_rfl
theorem rs60 : Try.f60.results.toList = [.cell 4 24] := by kernel_rfl
theorem lite60 : Try.f60.body.map (lite okDraw) = some L60 := by kernel_rfl
def L61r0 : List AOp := [
  ⟨(some 2), .assign (.const (.slice none 0 0)), none, 0⟩,
  ⟨(some 3), .assign (.const (.slice none 0 0)), none, 0⟩]
def L61r1 : List AOp := [
  ⟨(some 4), .move (.tmp 0), none, 0⟩,
  ⟨(some 5), .call { callee := .builtin .len, args := #[.tmp 4], argTypes := #[38] }, none, 0⟩,
  ⟨(some 6), .binOp .leq 3 (.tmp 5) (.const (.int .i64 12)) 3, none, 0⟩]
def L61r2 : List AOp := [
  ⟨(some 7), .move (.tmp 0), none, 0⟩,
  ⟨(some 2), .assign (.tmp 7), none, 0⟩,
  ⟨(some 3), .assign (.const (.slice none 0 0)), none, 0⟩]
def L61r3 : List AOp := [
  ⟨(some 8), .buildSlice 38 0 #[], none, 0⟩,
  ⟨(some 9), .move (.tmp 0), none, 0⟩,
  ⟨(some 10), .slice 38 (.tmp 9) none (some (.const (.int .i64 12))) none, none, 2⟩,
  ⟨(some 11), .call { callee := .builtin .append, args := #[.tmp 8, .tmp 10], argTypes := #[38, 38] }, none, 7⟩,
  ⟨(some 12), .call { callee := .value (.func 54), args := #[.tmp 11], argTypes := #[38] }, none, 15⟩,
  ⟨(some 13), .buildSlice 38 0 #[], none, 0⟩,
  ⟨(some 14), .move (.tmp 0), none, 0⟩,
  ⟨(some 15), .slice 38 (.tmp 14) (some (.const (.int .i64 12))) none none, none, 64⟩,
  ⟨(some 16), .call { callee := .builtin .append, args := #[.tmp 13, .tmp 15], argTypes := #[38, 38] }, none, 1267650600228229401496703205631⟩,
  ⟨(some 2), .assign (.tmp 12), none, 1267650600228229401496703205887⟩,
  ⟨(some 3), .assign (.tmp 16), none, 1267650600228229401496703206399⟩]
def L61 : LC := (.seq (.region L61r0) (.seq (.seq (.region L61r1) (.cond (.tmp 6) (.seq (.region L61r2) .ret) .skip)) (.seq (.regionD L61r3) .ret)))
theorem nt61 : Try.f61.ntmps = 17 := by kernel_rfl
theorem rs61 : Try.f61.results.toList = [.tmp 2, .tmp 3] := by kernel_rfl
theorem lite61 : Try.f61.body.map (lite okDraw) = some L61 := by kernel_rfl
def L62r0 : List AOp := [
  ⟨(some 3), .box 24 (.tmp 0), none, 0⟩,
  ⟨(some 5), .box 24 (.tmp 2), none, 0⟩,
  ⟨(some 6), .alloc 24, none, 0⟩]
def L62r1 : List AOp := [
  ⟨(some 10), .load 24 (.tmp 3), none, 0⟩,
  ⟨(some 11), .load 24 (.tmp 5), none, 0⟩,
  ⟨(some 12), .call { callee := .value (.func 27), args := #[.tmp 10, .tmp 11], argTypes := #[24, 24] }, none, 0⟩,
  ⟨(some 9), .move (.tmp 12), none, 0⟩,
  ⟨(some 13), .extract (.tmp 9) 0, none, 0⟩,
  ⟨(some 14), .extract (.tmp 9) 1, none, 0⟩,
  ⟨(some 7), .alloc 24, none, 0⟩,
  ⟨none, .store 24 (.tmp 7) (.tmp 13), none, 0⟩,
  ⟨(some 8), .assign (.tmp 14), none, 0⟩]
def L62r2 : List AOp := [
  ⟨(some 15), .move (.tmp 1), none, 0⟩,
  ⟨(some 16), .move (.tmp 8), none, 0⟩,
  ⟨(some 17), .binOp .xor 22 (.const (.int .u64 1)) (.tmp 16) 22, none, 0⟩,
  ⟨(some 18), .binOp .or 22 (.tmp 15) (.tmp 17) 22, none, 0⟩,
  ⟨(some 19), .load 24 (.tmp 3), none, 0⟩,
  ⟨(some 20), .load 24 (.tmp 7), none, 0⟩,
  ⟨(some 21), .call { callee := .value (.func 23), args := #[.tmp 18, .tmp 19, .tmp 20], argTypes := #[22, 24, 24] }, none, 0⟩,
  ⟨none, .store 24 (.tmp 6) (.tmp 21), none, 0⟩]
def L62 : LC := (.seq (.region L62r0) (.seq (.region L62r1) (.seq (.region L62r2) .ret)))
theorem nt62 : Try.f62.ntmps = 22 := by kernel_rfl
theorem rs62 : Try.f62.results.toList = [.cell 6 24] := by kernel_rfl
theorem lite62 : Try.f62.body.map (lite okDraw) = some L62 := by kernel_rfl
def L63r0 : List AOp := [
  ⟨(some 3), .box 24 (.tmp 0), none, 0⟩,
  ⟨(some 4), .box 24 (.tmp 1), none, 0⟩,
  ⟨(some 5), .box 60 (.tmp 2), none, 0⟩,
  ⟨(some 6), .alloc 24, none, 0⟩]
def L63r1 : List AOp := [
  ⟨(some 7), .load 24 (.tmp 3), none, 0⟩,
  ⟨(some 8), .load 24 (.tmp 4), none, 0⟩,
  ⟨(some 9), .call { callee := .value (.func 40), args := #[.tmp 7, .tmp 8], argTypes := #[24, 24] }, none, 3⟩,
  ⟨(some 10), .load 60 (.tmp 5), none, 0⟩,
  ⟨(some 11), .call { callee := .value (.func 48), args := #[.tmp 9, .tmp 10], argTypes := #[55, 60] }, none, 1267650600228229401496703205391⟩,
  ⟨none, .store 24 (.tmp 6) (.tmp 11), none, 1267650600228229401496703205407⟩]
def L63 : LC := (.seq (.region L63r0) (.seq (.regionD L63r1) .ret))
theorem nt63 : Try.f63.ntmps = 12 := by kernel_rfl
theorem rs63 : Try.f63.results.toList = [.cell 6 24] := by kernel_rfl
theorem lite63 : Try.f63.body.map (lite okDraw) = some L63 := by kernel_rfl
def L64r0 : List AOp := [
  ⟨(some 2), .box 24 (.tmp 0), none, 0⟩,
  ⟨(some 3), .box 60 (.tmp 1), none, 0⟩,
  ⟨(some 4), .alloc 24, none, 0⟩]
def L64r1 : List AOp := [
  ⟨(some 5), .load 24 (.tmp 2), none, 0⟩,
  ⟨(some 6), .fieldAddr 60 (.tmp 3) 0, none, 0⟩,
  ⟨(some 7), .load 24 (.tmp 6), none, 0⟩,
  ⟨(some 8), .call { callee := .value (.func 62), args := #[.tmp 5, .const (.int .u64 0), .tmp 7], argTypes := #[24, 22, 24] }, none, 0⟩,
  ⟨none, .store 24 (.tmp 4) (.tmp 8), none, 0⟩]
def L64 : LC := (.seq (.region L64r0) (.seq (.region L64r1) .ret))
theorem nt64 : Try.f64.ntmps = 9 := by kernel_rfl
theorem rs64 : Try.f64.results.toList = [.cell 4 24] := by kernel_rfl
theorem lite64 : Try.f64.body.map (lite okDraw) = some L64 := by kernel_rfl
def L65r0 : List AOp := [
  ⟨(some 4), .assign (.const (.bool false)), none, 0⟩]
def L65r1 : List AOp := [
  ⟨(some 7), .move (.tmp 1), none, 0⟩,
  ⟨(some 8), .binOp .lss 3 (.tmp 7) (.const (.int .i64 0)) 3, none, 0⟩,
  ⟨(some 9), .move (.tmp 8), none, 0⟩,
  ⟨(some 10), .move (.tmp 1), (some (9, false)), 0⟩,
  ⟨(some 11), .binOp .quo 3 (.tmp 10) (.const (.int .i64 32)) 3, (some (9, false)), 0⟩,
  ⟨(some 12), .move (.tmp 0), (some (9, false)), 0⟩,
  ⟨(some 13), .call { callee := .builtin .len, args := #[.tmp 12], argTypes := #[38] }, (some (9, false)), 0⟩,
  ⟨(some 14), .binOp .geq 3 (.tmp 11) (.tmp 13) 3, (some (9, false)), 0⟩,
  ⟨(some 15), .pick (.tmp 9) (.const (.bool true)) (.tmp 14), none, 0⟩]
def L65r2 : List AOp := [
  ⟨(some 4), .assign (.const (.bool false)), none, 0⟩]
def L65r3 : List AOp := [
  ⟨(some 16), .move (.tmp 0), none, 0⟩,
  ⟨(some 17), .move (.tmp 1), none, 0⟩,
  ⟨(some 18), .binOp .quo 3 (.tmp 17) (.const (.int .i64 32)) 3, none, 0⟩,
  ⟨(some 19), .indexAddr 38 (.tmp 16) (.tmp 18), none, 0⟩,
  ⟨(some 20), .load 22 (.tmp 19), none, 0⟩,
  ⟨(some 5), .assign (.tmp 20), none, 0⟩]
def L65r4 : List AOp := [
  ⟨(some 6), .assign (.const (.int .i64 0)), none, 0⟩]
def L65r5 : List AOp := [
  ⟨(some 21), .move (.tmp 6), none, 0⟩,
  ⟨(some 22), .move (.tmp 1), none, 0⟩,
  ⟨(some 23), .binOp .rem 3 (.tmp 22) (.const (.int .i64 32)) 3, none, 0⟩,
  ⟨(some 24), .binOp .lss 3 (.tmp 21) (.tmp 23) 3, none, 0⟩]
def L65r7 : List AOp := [
  ⟨(some 27), .move (.tmp 5), none, 0⟩,
  ⟨(some 28), .binOp .quo 22 (.tmp 27) (.const (.int .u64 2)) 22, none, 0⟩,
  ⟨(some 5), .assign (.tmp 28), none, 0⟩]
def L65r6 : List AOp := [
  ⟨(some 25), .move (.tmp 6), none, 0⟩,
  ⟨(some 26), .binOp .add 3 (.tmp 25) (.const (.int .i64 1)) 3, none, 0⟩,
  ⟨(some 6), .assign (.tmp 26), none, 0⟩]
def L65r8 : List AOp := [
  ⟨(some 29), .move (.tmp 5), none, 0⟩,
  ⟨(some 30), .binOp .rem 22 (.tmp 29) (.const (.int .u64 2)) 22, none, 0⟩,
  ⟨(some 31), .binOp .eql 22 (.tmp 30) (.const (.int .u64 1)) 22, none, 0⟩,
  ⟨(some 4), .assign (.tmp 31), none, 0⟩]
def L65 : LC := (.seq (.region L65r0) (.seq (.seq (.region L65r1) (.cond (.tmp 15) (.seq (.region L65r2) .ret) .skip)) (.seq (.region L65r3) (.seq (.seq (.region L65r4) (.block 0 (.loop (.seq (.seq (.region L65r5) (.cond (.tmp 24) .skip (.exit 0))) (.seq (.block 1 (.region L65r7)) (.region L65r6)))))) (.seq (.region L65r8) .ret)))))
theorem nt65 : Try.f65.ntmps = 32 := by kernel_rfl
theorem rs65 : Try.f65.results.toList = [.tmp 4] := by kernel_rfl
theorem lite65 : Try.f65.body.map (lite okDraw) = some L65 := by kernel_rfl
def L13r0 : List AOp := [
  ⟨(some 1), .box 24 (.tmp 0), none, 0⟩,
  ⟨(some 2), .assign (.const (.bool false)), none, 0⟩]
def L13r1 : List AOp := [
  ⟨(some 7), .call { callee := .value (.func 43), args := #[], argTypes := #[] }, none, 0⟩,
  ⟨(some 3), .assign (.tmp 7), none, 0⟩]
def L13r2 : List AOp := [
  ⟨(some 9), .load 24 (.tmp 1), none, 0⟩,
  ⟨(some 10), .call { callee := .value (.func 44), args := #[.tmp 9], argTypes := #[24] }, none, 0⟩,
  ⟨(some 8), .move (.tmp 10), none, 0⟩,
  ⟨(some 11), .extract (.tmp 8) 0, none, 0⟩,
  ⟨(some 12), .extract (.tmp 8) 1, none, 0⟩,
  ⟨(some 4), .alloc 60, none, 0⟩,
  ⟨none, .store 60 (.tmp 4) (.tmp 11), none, 0⟩,
  ⟨(some 5), .assign (.tmp 12), none, 0⟩]
def L13r3 : List AOp := [
  ⟨(some 13), .indexAddr 24 (.tmp 1) (.const (.int .i64 0)), none, 0⟩,
  ⟨(some 14), .load 22 (.tmp 13), none, 0⟩,
  ⟨(some 15), .binOp .rem 22 (.tmp 14) (.const (.int .u64 2)) 22, none, 0⟩,
  ⟨(some 16), .binOp .eql 22 (.tmp 15) (.const (.int .u64 0)) 22, none, 0⟩,
  ⟨(some 17), .move (.tmp 16), none, 0⟩,
  ⟨(some 18), .indexAddr 24 (.tmp 1) (.const (.int .i64 5)), (some (17, false)), 0⟩,
  ⟨(some 19), .load 22 (.tmp 18), (some (17, false)), 0⟩,
  ⟨(some 20), .binOp .lss 22 (.tmp 19) (.const (.int .u64 9223372036854775808)) 22, (some (17, false)), 0⟩,
  ⟨(some 21), .pick (.tmp 17) (.const (.bool true)) (.tmp 20), none, 0⟩]
def L13r4 : List AOp := [
  ⟨(some 22), .move (.tmp 3), none, 0⟩,
  ⟨(some 23), .move (.tmp 22), none, 0⟩,
  ⟨(some 24), .move (.tmp 5), (some (23, true)), 0⟩,
  ⟨(some 25), .makeInterface 35 (.const (.int .i64 1)), (some (23, true)), 0⟩,
  ⟨(some 26), .binOp .eql 32 (.tmp 24) (.tmp 25) 32, (some (23, true)), 0⟩,
  ⟨(some 27), .pick (.tmp 23) (.tmp 26) (.const (.bool false)), none, 0⟩,
  ⟨(some 28), .move (.tmp 27), none, 0⟩,
  ⟨(some 29), .load 60 (.tmp 4), (some (28, true)), 0⟩,
  ⟨(some 30), .build 60 #[], (some (28, true)), 0⟩,
  ⟨(some 31), .binOp .eql 60 (.tmp 29) (.tmp 30) 60, (some (28, true)), 0⟩,
  ⟨(some 32), .pick (.tmp 28) (.tmp 31) (.const (.bool false)), none, 0⟩,
  ⟨(some 2), .assign (.tmp 32), none, 0⟩]
def L13r5 : List AOp := [
  ⟨(some 33), .call { callee := .value (.func 31), args := #[], argTypes := #[] }, none, 0⟩,
  ⟨(some 34), .call { callee := .value (.func 31), args := #[], argTypes := #[] }, none, 0⟩,
  ⟨(some 35), .call { callee := .value (.func 41), args := #[.tmp 33, .tmp 34], argTypes := #[38, 38] }, none, 0⟩,
  ⟨(some 6), .assign (.tmp 35), none, 0⟩]
def L13r6 : List AOp := [
  ⟨(some 36), .move (.tmp 3), none, 1267650600228229401496703205376⟩,
  ⟨(some 37), .move (.tmp 36), none, 1267650600228229401496703205377⟩,
  ⟨(some 38), .move (.tmp 5), (some (37, true)), 1267650600228229401496703205379⟩,
  ⟨(some 39), .binOp .eql 32 (.tmp 38) (.const .nilIface) 32, (some (37, true)), 1267650600228229401496703205383⟩,
  ⟨(some 40), .pick (.tmp 37) (.tmp 39) (.const (.bool false)), none, 1267650600228229401496703205391⟩,
  ⟨(some 41), .move (.tmp 40), none, 1267650600228229401496703205407⟩,
  ⟨(some 42), .fieldAddr 60 (.tmp 4) 0, (some (41, true)), 63⟩,
  ⟨(some 43), .load 24 (.tmp 42), (some (41, true)), 127⟩,
  ⟨(some 44), .load 24 (.tmp 1), (some (41, true)), 63⟩,
  ⟨(some 45), .binOp .eql 24 (.tmp 43) (.tmp 44) 24, (some (41, true)), 1267650600228229401496703205887⟩,
  ⟨(some 46), .pick (.tmp 41) (.tmp 45) (.const (.bool false)), none, 1267650600228229401496703206399⟩,
  ⟨(some 47), .move (.tmp 46), none, 1267650600228229401496703207423⟩,
  ⟨(some 48), .fieldAddr 60 (.tmp 4) 1, (some (47, true)), 4095⟩,
  ⟨(some 49), .load 22 (.tmp 48), (some (47, true)), 8191⟩,
  ⟨(some 50), .indexAddr 24 (.tmp 1) (.const (.int .i64 0)), (some (47, true)), 4095⟩,
  ⟨(some 51), .load 22 (.tmp 50), (some (47, true)), 20479⟩,
  ⟨(some 52), .binOp .mul 22 (.tmp 49) (.tmp 51) 22, (some (47, true)), 1267650600228229401496703270911⟩,
  ⟨(some 53), .binOp .eql 22 (.tmp 52) (.const (.int .u64 18446744073709551615)) 22, (some (47, true)), 1267650600228229401496703336447⟩,
  ⟨(some 54), .pick (.tmp 47) (.tmp 53) (.const (.bool false)), none, 1267650600228229401496703467519⟩,
  ⟨(some 55), .move (.tmp 54), none, 1267650600228229401496703729663⟩,
  ⟨(some 56), .fieldAddr 60 (.tmp 4) 2, (some (55, true)), 1048575⟩,
  ⟨(some 57), .load 24 (.tmp 56), (some (55, true)), 2097151⟩,
  ⟨(some 58), .move (.tmp 6), (some (55, true)), 1048575⟩,
  ⟨(some 59), .load 24 (.tmp 1), (some (55, true)), 1048575⟩,
  ⟨(some 60), .call { callee := .value (.func 46), args := #[.tmp 59], argTypes := #[24] }, (some (55, true)), 9437183⟩,
  ⟨(some 61), .call { callee := .value (.func 45), args := #[.tmp 58, .tmp 60], argTypes := #[38, 38] }, (some (55, true)), 30408703⟩,
  ⟨(some 62), .call { callee := .value (.func 25), args := #[.tmp 61], argTypes := #[38] }, (some (55, true)), 63963135⟩,
  ⟨(some 63), .binOp .eql 24 (.tmp 57) (.tmp 62) 24, (some (55, true)), 1267650600228229401496837423103⟩,
  ⟨(some 64), .pick (.tmp 55) (.tmp 63) (.const (.bool false)), none, 1267650600228229401496971640831⟩,
  ⟨(some 2), .assign (.tmp 64), none, 1267650600228229401497240076287⟩]
def L13 : LC := (.seq (.region L13r0) (.seq (.region L13r1) (.seq (.region L13r2) (.seq (.seq (.region L13r3) (.cond (.tmp 21) (.seq (.region L13r4) .ret) .skip)) (.seq (.region L13r5) (.seq (.regionD L13r6) .ret))))))
theorem nt13 : Try.f13.ntmps = 65 := by kernel_rfl
theorem rs13 : Try.f13.results.toList = [.tmp 2] := by kernel_rfl
theorem lite13 : Try.f13.body.map (lite okDraw) = some L13 := by kernel_rfl
def L14r0 : List AOp := [
  ⟨(some 2), .box 55 (.tmp 0), none, 0⟩,
  ⟨(some 3), .box 24 (.tmp 1), none, 0⟩,
  ⟨(some 4), .assign (.const (.bool false)), none, 0⟩]
def L14r1 : List AOp := [
  ⟨(some 11), .call { callee := .value (.func 43), args := #[], argTypes := #[] }, none, 0⟩,
  ⟨(some 5), .assign (.tmp 11), none, 0⟩]
def L14r2 : List AOp := [
  ⟨(some 12), .load 24 (.tmp 3), none, 0⟩,
  ⟨(some 13), .call { callee := .value (.func 47), args := #[.tmp 12], argTypes := #[24] }, none, 0⟩,
  ⟨none, .store 24 (.tmp 3) (.tmp 13), none, 0⟩]
def L14r3 : List AOp := [
  ⟨(some 15), .load 24 (.tmp 3), none, 0⟩,
  ⟨(some 16), .call { callee := .value (.func 44), args := #[.tmp 15], argTypes := #[24] }, none, 0⟩,
  ⟨(some 14), .move (.tmp 16), none, 0⟩,
  ⟨(some 17), .extract (.tmp 14) 0, none, 0⟩,
  ⟨(some 18), .extract (.tmp 14) 1, none, 0⟩,
  ⟨(some 6), .alloc 60, none, 0⟩,
  ⟨none, .store 60 (.tmp 6) (.tmp 17), none, 0⟩,
  ⟨(some 7), .assign (.tmp 18), none, 0⟩]
def L14r4 : List AOp := [
  ⟨(some 19), .load 55 (.tmp 2), none, 0⟩,
  ⟨(some 20), .load 60 (.tmp 6), none, 0⟩,
  ⟨(some 21), .call { callee := .value (.func 48), args := #[.tmp 19, .tmp 20], argTypes := #[55, 60] }, none, 0⟩,
  ⟨(some 22), .call { callee := .value (.func 46), args := #[.tmp 21], argTypes := #[24] }, none, 0⟩,
  ⟨(some 8), .assign (.tmp 22), none, 0⟩]
def L14r5 : List AOp := [
  ⟨(some 23), .move (.tmp 8), none, 0⟩,
  ⟨(some 24), .call { callee := .value (.func 31), args := #[], argTypes := #[] }, none, 0⟩,
  ⟨(some 25), .call { callee := .value (.func 41), args := #[.tmp 23, .tmp 24], argTypes := #[38, 38] }, none, 3⟩,
  ⟨(some 26), .load 24 (.tmp 3), none, 0⟩,
  ⟨(some 27), .call { callee := .value (.func 46), args := #[.tmp 26], argTypes := #[24] }, none, 1267650600228229401496703205391⟩,
  ⟨(some 28), .call { callee := .value (.func 45), args := #[.tmp 25, .tmp 27], argTypes := #[38, 38] }, none, 1267650600228229401496703205407⟩,
  ⟨(some 9), .assign (.tmp 28), none, 1267650600228229401496703205439⟩]
def L14r6 : List AOp := [
  ⟨(some 29), .load 55 (.tmp 2), none, 0⟩,
  ⟨(some 30), .call { callee := .value (.func 42), args := #[.tmp 29], argTypes := #[54] }, none, 1⟩,
  ⟨(some 31), .load 24 (.tmp 3), none, 0⟩,
  ⟨(some 32), .call { callee := .value (.func 46), args := #[.tmp 31], argTypes := #[24] }, none, 1267650600228229401496703205383⟩,
  ⟨(some 33), .call { callee := .value (.func 45), args := #[.tmp 30, .tmp 32], argTypes := #[38, 38] }, none, 1267650600228229401496703205391⟩,
  ⟨(some 10), .assign (.tmp 33), none, 1267650600228229401496703205407⟩]
def L14r7 : List AOp := [
  ⟨(some 34), .move (.tmp 5), none, 0⟩,
  ⟨(some 35), .move (.tmp 34), none, 0⟩,
  ⟨(some 36), .move (.tmp 7), (some (35, true)), 0⟩,
  ⟨(some 37), .binOp .eql 32 (.tmp 36) (.const .nilIface) 32, (some (35, true)), 0⟩,
  ⟨(some 38), .pick (.tmp 35) (.tmp 37) (.const (.bool false)), none, 0⟩,
  ⟨(some 39), .move (.tmp 38), none, 0⟩,
  ⟨(some 40), .move (.tmp 8), (some (39, true)), 0⟩,
  ⟨(some 41), .load 24 (.tmp 3), (some (39, true)), 0⟩,
  ⟨(some 42), .call { callee := .value (.func 46), args := #[.tmp 41], argTypes := #[24] }, (some (39, true)), 0⟩,
  ⟨(some 43), .call { callee := .value (.func 29), args := #[.tmp 40, .tmp 42], argTypes := #[38, 38] }, (some (39, true)), 0⟩,
  ⟨(some 44), .binOp .lss 3 (.tmp 43) (.const (.int .i64 0)) 3, (some (39, true)), 0⟩,
  ⟨(some 45), .pick (.tmp 39) (.tmp 44) (.const (.bool false)), none, 0⟩,
  ⟨(some 46), .move (.tmp 45), none, 0⟩,
  ⟨(some 47), .move (.tmp 9), (some (46, true)), 0⟩,
  ⟨(some 48), .move (.tmp 10), (some (46, true)), 0⟩,
  ⟨(some 49), .call { callee := .value (.func 29), args := #[.tmp 47, .tmp 48], argTypes := #[38, 38] }, (some (46, true)), 0⟩,
  ⟨(some 50), .binOp .eql 3 (.tmp 49) (.const (.int .i64 0)) 3, (some (46, true)), 0⟩,
  ⟨(some 51), .pick (.tmp 46) (.tmp 50) (.const (.bool false)), none, 0⟩,
  ⟨(some 4), .assign (.tmp 51), none, 0⟩]
def L14 : LC := (.seq (.region L14r0) (.seq (.region L14r1) (.seq (.region L14r2) (.seq (.region L14r3) (.seq (.region L14r4) (.seq (.regionD L14r5) (.seq (.regionD L14r6) (.seq (.region L14r7) .ret))))))))
theorem nt14 : Try.f14.ntmps = 52 := by kernel_rfl
theorem rs14 : Try.f14.results.toList = [.tmp 4] := by kernel_rfl
theorem lite14 : Try.f14.body.map (lite okDraw) = some L14 := by kernel_rfl
def L15r0 : List AOp := [
  ⟨(some 3), .box 24 (.tmp 0), none, 0⟩,
  ⟨(some 4), .box 24 (.tmp 1), none, 0⟩,
  ⟨(some 5), .box 24 (.tmp 2), none, 0⟩,
  ⟨(some 6), .assign (.const (.bool false)), none, 0⟩]
def L15r1 : List AOp := [
  ⟨(some 11), .call { callee := .value (.func 43), args := #[], argTypes := #[] }, none, 0⟩,
  ⟨(some 7), .assign (.tmp 11), none, 0⟩]
def L15r2 : List AOp := [
  ⟨(some 12), .load 24 (.tmp 5), none, 0⟩,
  ⟨(some 13), .call { callee := .value (.func 47), args := #[.tmp 12], argTypes := #[24] }, none, 0⟩,
  ⟨none, .store 24 (.tmp 5) (.tmp 13), none, 0⟩]
def L15r3 : List AOp := [
  ⟨(some 15), .load 24 (.tmp 5), none, 0⟩,
  ⟨(some 16), .call { callee := .value (.func 44), args := #[.tmp 15], argTypes := #[24] }, none, 0⟩,
  ⟨(some 14), .move (.tmp 16), none, 0⟩,
  ⟨(some 17), .extract (.tmp 14) 0, none, 0⟩,
  ⟨(some 18), .extract (.tmp 14) 1, none, 0⟩,
  ⟨(some 8), .alloc 60, none, 0⟩,
  ⟨none, .store 60 (.tmp 8) (.tmp 17), none, 0⟩,
  ⟨(some 9), .assign (.tmp 18), none, 0⟩]
def L15r4 : List AOp := [
  ⟨(some 19), .load 24 (.tmp 3), none, 0⟩,
  ⟨(some 20), .call { callee := .value (.func 46), args := #[.tmp 19], argTypes := #[24] }, none, 1⟩,
  ⟨(some 21), .load 24 (.tmp 4), none, 0⟩,
  ⟨(some 22), .call { callee := .value (.func 46), args := #[.tmp 21], argTypes := #[24] }, none, 7⟩,
  ⟨(some 23), .call { callee := .value (.func 41), args := #[.tmp 20, .tmp 22], argTypes := #[38, 38] }, none, 15⟩,
  ⟨(some 24), .load 24 (.tmp 5), none, 0⟩,
  ⟨(some 25), .call { callee := .value (.func 46), args := #[.tmp 24], argTypes := #[24] }, none, 1267650600228229401496703205439⟩,
  ⟨(some 26), .call { callee := .value (.func 45), args := #[.tmp 23, .tmp 25], argTypes := #[38, 38] }, none, 1267650600228229401496703205503⟩,
  ⟨(some 10), .assign (.tmp 26), none, 1267650600228229401496703205631⟩]
def L15r5 : List AOp := [
  ⟨(some 27), .move (.tmp 7), none, 0⟩,
  ⟨(some 28), .move (.tmp 27), none, 0⟩,
  ⟨(some 29), .move (.tmp 9), (some (28, true)), 0⟩,
  ⟨(some 30), .binOp .eql 32 (.tmp 29) (.const .nilIface) 32, (some (28, true)), 0⟩,
  ⟨(some 31), .pick (.tmp 28) (.tmp 30) (.const (.bool false)), none, 0⟩,
  ⟨(some 32), .move (.tmp 31), none, 0⟩,
  ⟨(some 33), .load 24 (.tmp 3), (some (32, true)), 0⟩,
  ⟨(some 34), .load 24 (.tmp 4), (some (32, true)), 0⟩,
  ⟨(some 35), .load 60 (.tmp 8), (some (32, true)), 0⟩,
  ⟨(some 36), .call { callee := .value (.func 49), args := #[.tmp 33, .tmp 34, .tmp 35], argTypes := #[24, 24, 60] }, (some (32, true)), 0⟩,
  ⟨(some 37), .move (.tmp 10), (some (32, true)), 0⟩,
  ⟨(some 38), .call { callee := .value (.func 25), args := #[.tmp 37], argTypes := #[38] }, (some (32, true)), 0⟩,
  ⟨(some 39), .binOp .eql 24 (.tmp 36) (.tmp 38) 24, (some (32, true)), 0⟩,
  ⟨(some 40), .pick (.tmp 32) (.tmp 39) (.const (.bool false)), none, 0⟩,
  ⟨(some 6), .assign (.tmp 40), none, 0⟩]
def L15 : LC := (.seq (.region L15r0) (.seq (.region L15r1) (.seq (.region L15r2) (.seq (.region L15r3) (.seq (.regionD L15r4) (.seq (.region L15r5) .ret))))))
theorem nt15 : Try.f15.ntmps = 41 := by kernel_rfl
theorem rs15 : Try.f15.results.toList = [.tmp 6] := by kernel_rfl
theorem lite15 : Try.f15.body.map (lite okDraw) = some L15 := by kernel_rfl
def L16r0 : List AOp := [
  ⟨(some 3), .box 24 (.tmp 0), none, 0⟩,
  ⟨(some 4), .box 24 (.tmp 1), none, 0⟩,
  ⟨(some 5), .box 24 (.tmp 2), none, 0⟩,
  ⟨(some 6), .assign (.const (.bool false)), none, 0⟩]
def L16r1 : List AOp := [
  ⟨(some 11), .call { callee := .value (.func 43), args := #[], argTypes := #[] }, none, 0⟩,
  ⟨(some 7), .assign (.tmp 11), none, 0⟩]
def L16r2 : List AOp := [
  ⟨(some 12), .load 24 (.tmp 5), none, 0⟩,
  ⟨(some 13), .call { callee := .value (.func 47), args := #[.tmp 12], argTypes := #[24] }, none, 0⟩,
  ⟨none, .store 24 (.tmp 5) (.tmp 13), none, 0⟩]
def L16r3 : List AOp := [
  ⟨(some 15), .load 24 (.tmp 5), none, 0⟩,
  ⟨(some 16), .call { callee := .value (.func 44), args := #[.tmp 15], argTypes := #[24] }, none, 0⟩,
  ⟨(some 14), .move (.tmp 16), none, 0⟩,
  ⟨(some 17), .extract (.tmp 14) 0, none, 0⟩,
  ⟨(some 18), .extract (.tmp 14) 1, none, 0⟩,
  ⟨(some 8), .alloc 60, none, 0⟩,
  ⟨none, .store 60 (.tmp 8) (.tmp 17), none, 0⟩,
  ⟨(some 9), .assign (.tmp 18), none, 0⟩]
def L16r4 : List AOp := [
  ⟨(some 19), .load 24 (.tmp 3), none, 0⟩,
  ⟨(some 20), .call { callee := .value (.func 46), args := #[.tmp 19], argTypes := #[24] }, none, 1⟩,
  ⟨(some 21), .load 24 (.tmp 4), none, 0⟩,
  ⟨(some 22), .call { callee := .value (.func 46), args := #[.tmp 21], argTypes := #[24] }, none, 7⟩,
  ⟨(some 23), .call { callee := .value (.func 30), args := #[.tmp 20, .tmp 22], argTypes := #[38, 38] }, none, 15⟩,
  ⟨(some 24), .load 24 (.tmp 5), none, 0⟩,
  ⟨(some 25), .call { callee := .value (.func 46), args := #[.tmp 24], argTypes := #[24] }, none, 1267650600228229401496703205439⟩,
  ⟨(some 26), .call { callee := .value (.func 45), args := #[.tmp 23, .tmp 25], argTypes := #[38, 38] }, none, 1267650600228229401496703205503⟩,
  ⟨(some 10), .assign (.tmp 26), none, 1267650600228229401496703205631⟩]
def L16r5 : List AOp := [
  ⟨(some 27), .move (.tmp 7), none, 0⟩,
  ⟨(some 28), .move (.tmp 27), none, 0⟩,
  ⟨(some 29), .move (.tmp 9), (some (28, true)), 0⟩,
  ⟨(some 30), .binOp .eql 32 (.tmp 29) (.const .nilIface) 32, (some (28, true)), 0⟩,
  ⟨(some 31), .pick (.tmp 28) (.tmp 30) (.const (.bool false)), none, 0⟩,
  ⟨(some 32), .move (.tmp 31), none, 0⟩,
  ⟨(some 33), .load 24 (.tmp 3), (some (32, true)), 0⟩,
  ⟨(some 34), .load 24 (.tmp 4), (some (32, true)), 0⟩,
  ⟨(some 35), .load 60 (.tmp 8), (some (32, true)), 0⟩,
  ⟨(some 36), .call { callee := .value (.func 50), args := #[.tmp 33, .tmp 34, .tmp 35], argTypes := #[24, 24, 60] }, (some (32, true)), 0⟩,
  ⟨(some 37), .move (.tmp 10), (some (32, true)), 0⟩,
  ⟨(some 38), .call { callee := .value (.func 25), args := #[.tmp 37], argTypes := #[38] }, (some (32, true)), 0⟩,
  ⟨(some 39), .binOp .eql 24 (.tmp 36) (.tmp 38) 24, (some (32, true)), 0⟩,
  ⟨(some 40), .pick (.tmp 32) (.tmp 39) (.const (.bool false)), none, 0⟩,
  ⟨(some 6), .assign (.tmp 40), none, 0⟩]
def L16 : LC := (.seq (.region L16r0) (.seq (.region L16r1) (.seq (.region L16r2) (.seq (.region L16r3) (.seq (.regionD L16r4) (.seq (.region L16r5) .ret))))))
theorem nt16 : Try.f16.ntmps = 41 := by kernel_rfl
theorem rs16 : Try.f16.results.toList = [.tmp 6] := by kernel_rfl
theorem lite16 : Try.f16.body.map (lite okDraw) = some L16 := by kernel_rfl
def L17r0 : List AOp := [
  ⟨(some 3), .box 24 (.tmp 0), none, 0⟩,
  ⟨(some 4), .box 24 (.tmp 1), none, 0⟩,
  ⟨(some 5), .box 24 (.tmp 2), none, 0⟩,
  ⟨(some 6), .assign (.const (.bool false)), none, 0⟩]
def L17r1 : List AOp := [
  ⟨(some 13), .call { callee := .value (.func 43), args := #[], argTypes := #[] }, none, 0⟩,
  ⟨(some 7), .assign (.tmp 13), none, 0⟩]
def L17r2 : List AOp := [
  ⟨(some 14), .load 24 (.tmp 5), none, 0⟩,
  ⟨(some 15), .call { callee := .value (.func 47), args := #[.tmp 14], argTypes := #[24] }, none, 0⟩,
  ⟨none, .store 24 (.tmp 5) (.tmp 15), none, 0⟩]
def L17r3 : List AOp := [
  ⟨(some 17), .load 24 (.tmp 5), none, 0⟩,
  ⟨(some 18), .call { callee := .value (.func 44), args := #[.tmp 17], argTypes := #[24] }, none, 0⟩,
  ⟨(some 16), .move (.tmp 18), none, 0⟩,
  ⟨(some 19), .extract (.tmp 16) 0, none, 0⟩,
  ⟨(some 20), .extract (.tmp 16) 1, none, 0⟩,
  ⟨(some 8), .alloc 60, none, 0⟩,
  ⟨none, .store 60 (.tmp 8) (.tmp 19), none, 0⟩,
  ⟨(some 9), .assign (.tmp 20), none, 0⟩]
def L17r4 : List AOp := [
  ⟨(some 21), .load 24 (.tmp 3), none, 0⟩,
  ⟨(some 22), .call { callee := .value (.func 46), args := #[.tmp 21], argTypes := #[24] }, none, 1⟩,
  ⟨(some 23), .load 24 (.tmp 5), none, 0⟩,
  ⟨(some 24), .call { callee := .value (.func 46), args := #[.tmp 23], argTypes := #[24] }, none, 1267650600228229401496703205383⟩,
  ⟨(some 25), .call { callee := .value (.func 45), args := #[.tmp 22, .tmp 24], argTypes := #[38, 38] }, none, 1267650600228229401496703205391⟩,
  ⟨(some 10), .assign (.tmp 25), none, 1267650600228229401496703205407⟩]
def L17r5 : List AOp := [
  ⟨(some 26), .load 24 (.tmp 4), none, 0⟩,
  ⟨(some 27), .call { callee := .value (.func 46), args := #[.tmp 26], argTypes := #[24] }, none, 1⟩,
  ⟨(some 28), .load 24 (.tmp 5), none, 0⟩,
  ⟨(some 29), .call { callee := .value (.func 46), args := #[.tmp 28], argTypes := #[24] }, none, 1267650600228229401496703205383⟩,
  ⟨(some 30), .call { callee := .value (.func 45), args := #[.tmp 27, .tmp 29], argTypes := #[38, 38] }, none, 1267650600228229401496703205391⟩,
  ⟨(some 11), .assign (.tmp 30), none, 1267650600228229401496703205407⟩]
def L17r6 : List AOp := [
  ⟨(some 31), .move (.tmp 10), none, 0⟩,
  ⟨(some 32), .load 24 (.tmp 5), none, 0⟩,
  ⟨(some 33), .call { callee := .value (.func 46), args := #[.tmp 32], argTypes := #[24] }, none, 2⟩,
  ⟨(some 34), .call { callee := .value (.func 30), args := #[.tmp 31, .tmp 33], argTypes := #[38, 38] }, none, 7⟩,
  ⟨(some 35), .move (.tmp 11), none, 0⟩,
  ⟨(some 36), .call { callee := .value (.func 32), args := #[.tmp 34, .tmp 35], argTypes := #[38, 38] }, none, 31⟩,
  ⟨(some 37), .load 24 (.tmp 5), none, 0⟩,
  ⟨(some 38), .call { callee := .value (.func 46), args := #[.tmp 37], argTypes := #[24] }, none, 1267650600228229401496703205503⟩,
  ⟨(some 39), .call { callee := .value (.func 45), args := #[.tmp 36, .tmp 38], argTypes := #[38, 38] }, none, 1267650600228229401496703205631⟩,
  ⟨(some 12), .assign (.tmp 39), none, 1267650600228229401496703205887⟩]
def L17r7 : List AOp := [
  ⟨(some 40), .move (.tmp 7), none, 0⟩,
  ⟨(some 41), .move (.tmp 40), none, 0⟩,
  ⟨(some 42), .move (.tmp 9), (some (41, true)), 0⟩,
  ⟨(some 43), .binOp .eql 32 (.tmp 42) (.const .nilIface) 32, (some (41, true)), 0⟩,
  ⟨(some 44), .pick (.tmp 41) (.tmp 43) (.const (.bool false)), none, 0⟩,
  ⟨(some 45), .move (.tmp 44), none, 0⟩,
  ⟨(some 46), .load 24 (.tmp 3), (some (45, true)), 0⟩,
  ⟨(some 47), .load 24 (.tmp 4), (some (45, true)), 0⟩,
  ⟨(some 48), .load 60 (.tmp 8), (some (45, true)), 0⟩,
  ⟨(some 49), .call { callee := .value (.func 51), args := #[.tmp 46, .tmp 47, .tmp 48], argTypes := #[24, 24, 60] }, (some (45, true)), 0⟩,
  ⟨(some 50), .move (.tmp 12), (some (45, true)), 0⟩,
  ⟨(some 51), .call { callee := .value (.func 25), args := #[.tmp 50], argTypes := #[38] }, (some (45, true)), 0⟩,
  ⟨(some 52), .binOp .eql 24 (.tmp 49) (.tmp 51) 24, (some (45, true)), 0⟩,
  ⟨(some 53), .pick (.tmp 45) (.tmp 52) (.const (.bool false)), none, 0⟩,
  ⟨(some 6), .assign (.tmp 53), none, 0⟩]
def L17 : LC := (.seq (.region L17r0) (.seq (.region L17r1) (.seq (.region L17r2) (.seq (.region L17r3) (.seq (.regionD L17r4) (.seq (.regionD L17r5) (.seq (.regionD L17r6) (.seq (.region L17r7) .ret))))))))
theorem nt17 : Try.f17.ntmps = 54 := by kernel_rfl
theorem rs17 : Try.f17.results.toList = [.tmp 6] := by kernel_rfl
theorem lite17 : Try.f17.body.map (lite okDraw) = some L17 := by kernel_rfl
def L18r0 : List AOp := [
  ⟨(some 4), .box 24 (.tmp 0), none, 0⟩,
  ⟨(some 5), .box 24 (.tmp 1), none, 0⟩,
  ⟨(some 6), .box 24 (.tmp 2), none, 0⟩,
  ⟨(some 7), .box 24 (.tmp 3), none, 0⟩,
  ⟨(some 8), .assign (.const (.bool false)), none, 0⟩]
def L18r1 : List AOp := [
  ⟨(some 15), .call { callee := .value (.func 43), args := #[], argTypes := #[] }, none, 0⟩,
  ⟨(some 9), .assign (.tmp 15), none, 0⟩]
def L18r2 : List AOp := [
  ⟨(some 17), .load 24 (.tmp 7), none, 0⟩,
  ⟨(some 18), .call { callee := .value (.func 47), args := #[.tmp 17], argTypes := #[24] }, none, 0⟩,
  ⟨(some 19), .call { callee := .value (.func 44), args := #[.tmp 18], argTypes := #[24] }, none, 0⟩,
  ⟨(some 16), .move (.tmp 19), none, 0⟩,
  ⟨(some 20), .extract (.tmp 16) 0, none, 0⟩,
  ⟨(some 21), .extract (.tmp 16) 1, none, 0⟩,
  ⟨(some 10), .alloc 60, none, 0⟩,
  ⟨none, .store 60 (.tmp 10) (.tmp 20), none, 0⟩,
  ⟨(some 11), .assign (.tmp 21), none, 0⟩]
def L18r3 : List AOp := [
  ⟨(some 22), .load 24 (.tmp 4), none, 0⟩,
  ⟨(some 23), .load 24 (.tmp 5), none, 0⟩,
  ⟨(some 24), .load 24 (.tmp 6), none, 0⟩,
  ⟨(some 25), .load 60 (.tmp 10), none, 0⟩,
  ⟨(some 26), .call { callee := .value (.func 50), args := #[.tmp 23, .tmp 24, .tmp 25], argTypes := #[24, 24, 60] }, none, 14⟩,
  ⟨(some 27), .load 60 (.tmp 10), none, 0⟩,
  ⟨(some 28), .call { callee := .value (.func 49), args := #[.tmp 22, .tmp 26, .tmp 27], argTypes := #[24, 24, 60] }, none, 63⟩,
  ⟨(some 12), .alloc 24, none, 0⟩,
  ⟨none, .store 24 (.tmp 12) (.tmp 28), none, 1267650600228229401496703205631⟩]
def L18r4 : List AOp := [
  ⟨(some 29), .load 24 (.tmp 4), none, 0⟩,
  ⟨(some 30), .load 24 (.tmp 5), none, 0⟩,
  ⟨(some 31), .load 60 (.tmp 10), none, 0⟩,
  ⟨(some 32), .call { callee := .value (.func 49), args := #[.tmp 29, .tmp 30, .tmp 31], argTypes := #[24, 24, 60] }, none, 7⟩,
  ⟨(some 33), .load 24 (.tmp 4), none, 0⟩,
  ⟨(some 34), .load 24 (.tmp 6), none, 0⟩,
  ⟨(some 35), .load 60 (.tmp 10), none, 0⟩,
  ⟨(some 36), .call { callee := .value (.func 49), args := #[.tmp 33, .tmp 34, .tmp 35], argTypes := #[24, 24, 60] }, none, 127⟩,
  ⟨(some 37), .load 60 (.tmp 10), none, 0⟩,
  ⟨(some 38), .call { callee := .value (.func 50), args := #[.tmp 32, .tmp 36, .tmp 37], argTypes := #[24, 24, 60] }, none, 511⟩,
  ⟨(some 13), .alloc 24, none, 0⟩,
  ⟨none, .store 24 (.tmp 13) (.tmp 38), none, 1267650600228229401496703207423⟩]
def L18r5 : List AOp := [
  ⟨(some 39), .load 24 (.tmp 4), none, 0⟩,
  ⟨(some 40), .load 24 (.tmp 5), none, 0⟩,
  ⟨(some 41), .load 60 (.tmp 10), none, 0⟩,
  ⟨(some 42), .call { callee := .value (.func 51), args := #[.tmp 39, .tmp 40, .tmp 41], argTypes := #[24, 24, 60] }, none, 7⟩,
  ⟨(some 43), .load 24 (.tmp 5), none, 0⟩,
  ⟨(some 44), .load 60 (.tmp 10), none, 0⟩,
  ⟨(some 45), .call { callee := .value (.func 50), args := #[.tmp 42, .tmp 43, .tmp 44], argTypes := #[24, 24, 60] }, none, 63⟩,
  ⟨(some 14), .alloc 24, none, 0⟩,
  ⟨none, .store 24 (.tmp 14) (.tmp 45), none, 1267650600228229401496703205631⟩]
def L18r6 : List AOp := [
  ⟨(some 46), .move (.tmp 9), none, 1267650600228229401496703205376⟩,
  ⟨(some 47), .move (.tmp 46), none, 1267650600228229401496703205377⟩,
  ⟨(some 48), .move (.tmp 11), (some (47, true)), 1267650600228229401496703205379⟩,
  ⟨(some 49), .binOp .eql 32 (.tmp 48) (.const .nilIface) 32, (some (47, true)), 1267650600228229401496703205383⟩,
  ⟨(some 50), .pick (.tmp 47) (.tmp 49) (.const (.bool false)), none, 1267650600228229401496703205391⟩,
  ⟨(some 51), .move (.tmp 50), none, 1267650600228229401496703205407⟩,
  ⟨(some 52), .load 24 (.tmp 12), (some (51, true)), 63⟩,
  ⟨(some 53), .load 24 (.tmp 13), (some (51, true)), 63⟩,
  ⟨(some 54), .binOp .eql 24 (.tmp 52) (.tmp 53) 24, (some (51, true)), 1267650600228229401496703205631⟩,
  ⟨(some 55), .pick (.tmp 51) (.tmp 54) (.const (.bool false)), none, 1267650600228229401496703205887⟩,
  ⟨(some 56), .move (.tmp 55), none, 1267650600228229401496703206399⟩,
  ⟨(some 57), .load 24 (.tmp 14), (some (56, true)), 2047⟩,
  ⟨(some 58), .load 24 (.tmp 4), (some (56, true)), 2047⟩,
  ⟨(some 59), .build 24 #[], (some (56, true)), 2047⟩,
  ⟨(some 60), .load 60 (.tmp 10), (some (56, true)), 2047⟩,
  ⟨(some 61), .call { callee := .value (.func 50), args := #[.tmp 58, .tmp 59, .tmp 60], argTypes := #[24, 24, 60] }, (some (56, true)), 30719⟩,
  ⟨(some 62), .binOp .eql 24 (.tmp 57) (.tmp 61) 24, (some (56, true)), 1267650600228229401496703270911⟩,
  ⟨(some 63), .pick (.tmp 56) (.tmp 62) (.const (.bool false)), none, 1267650600228229401496703336447⟩,
  ⟨(some 8), .assign (.tmp 63), none, 1267650600228229401496703467519⟩]
def L18 : LC := (.seq (.region L18r0) (.seq (.region L18r1) (.seq (.region L18r2) (.seq (.regionD L18r3) (.seq (.regionD L18r4) (.seq (.regionD L18r5) (.seq (.regionD L18r6) .ret)))))))
theorem nt18 : Try.f18.ntmps = 64 := by kernel_rfl
theorem rs18 : Try.f18.results.toList = [.tmp 8] := by kernel_rfl
theorem lite18 : Try.f18.body.map (lite okDraw) = some L18 := by kernel_rfl
def L19r0 : List AOp := [
  ⟨(some 3), .box 24 (.tmp 0), none, 0⟩,
  ⟨(some 4), .box 24 (.tmp 1), none, 0⟩,
  ⟨(some 5), .box 24 (.tmp 2), none, 0⟩,
  ⟨(some 6), .assign (.const (.bool false)), none, 0⟩]
def L19r1 : List AOp := [
  ⟨(some 11), .call { callee := .value (.func 43), args := #[], argTypes := #[] }, none, 0⟩,
  ⟨(some 7), .assign (.tmp 11), none, 0⟩]
def L19r2 : List AOp := [
  ⟨(some 12), .load 24 (.tmp 5), none, 0⟩,
  ⟨(some 13), .call { callee := .value (.func 47), args := #[.tmp 12], argTypes := #[24] }, none, 0⟩,
  ⟨none, .store 24 (.tmp 5) (.tmp 13), none, 0⟩]
def L19r3 : List AOp := [
  ⟨(some 15), .load 24 (.tmp 5), none, 0⟩,
  ⟨(some 16), .call { callee := .value (.func 44), args := #[.tmp 15], argTypes := #[24] }, none, 0⟩,
  ⟨(some 14), .move (.tmp 16), none, 0⟩,
  ⟨(some 17), .extract (.tmp 14) 0, none, 0⟩,
  ⟨(some 18), .extract (.tmp 14) 1, none, 0⟩,
  ⟨(some 8), .alloc 60, none, 0⟩,
  ⟨none, .store 60 (.tmp 8) (.tmp 17), none, 0⟩,
  ⟨(some 9), .assign (.tmp 18), none, 0⟩]
def L19r4 : List AOp := [
  ⟨(some 19), .load 24 (.tmp 3), none, 0⟩,
  ⟨(some 20), .call { callee := .value (.func 46), args := #[.tmp 19], argTypes := #[24] }, none, 1⟩,
  ⟨(some 21), .load 24 (.tmp 4), none, 0⟩,
  ⟨(some 22), .call { callee := .value (.func 46), args := #[.tmp 21], argTypes := #[24] }, none, 7⟩,
  ⟨(some 23), .load 24 (.tmp 5), none, 0⟩,
  ⟨(some 24), .call { callee := .value (.func 46), args := #[.tmp 23], argTypes := #[24] }, none, 1267650600228229401496703205407⟩,
  ⟨(some 25), .call { callee := .value (.func 52), args := #[.tmp 20, .tmp 22, .tmp 24], argTypes := #[38, 38, 38] }, none, 1267650600228229401496703205439⟩,
  ⟨(some 10), .assign (.tmp 25), none, 1267650600228229401496703205503⟩]
def L19r5 : List AOp := [
  ⟨(some 26), .move (.tmp 7), none, 0⟩,
  ⟨(some 27), .move (.tmp 26), none, 0⟩,
  ⟨(some 28), .move (.tmp 9), (some (27, true)), 0⟩,
  ⟨(some 29), .binOp .eql 32 (.tmp 28) (.const .nilIface) 32, (some (27, true)), 0⟩,
  ⟨(some 30), .pick (.tmp 27) (.tmp 29) (.const (.bool false)), none, 0⟩,
  ⟨(some 31), .move (.tmp 30), none, 0⟩,
  ⟨(some 32), .load 24 (.tmp 3), (some (31, true)), 0⟩,
  ⟨(some 33), .load 24 (.tmp 4), (some (31, true)), 0⟩,
  ⟨(some 34), .load 60 (.tmp 8), (some (31, true)), 0⟩,
  ⟨(some 35), .call { callee := .value (.func 53), args := #[.tmp 32, .tmp 33, .tmp 34], argTypes := #[24, 24, 60] }, (some (31, true)), 0⟩,
  ⟨(some 36), .move (.tmp 10), (some (31, true)), 0⟩,
  ⟨(some 37), .call { callee := .value (.func 25), args := #[.tmp 36], argTypes := #[38] }, (some (31, true)), 0⟩,
  ⟨(some 38), .binOp .eql 24 (.tmp 35) (.tmp 37) 24, (some (31, true)), 0⟩,
  ⟨(some 39), .pick (.tmp 31) (.tmp 38) (.const (.bool false)), none, 0⟩,
  ⟨(some 6), .assign (.tmp 39), none, 0⟩]
def L19 : LC := (.seq (.region L19r0) (.seq (.region L19r1) (.seq (.region L19r2) (.seq (.region L19r3) (.seq (.regionD L19r4) (.seq (.region L19r5) .ret))))))
theorem nt19 : Try.f19.ntmps = 40 := by kernel_rfl
theorem rs19 : Try.f19.results.toList = [.tmp 6] := by kernel_rfl
theorem lite19 : Try.f19.body.map (lite okDraw) = some L19 := by kernel_rfl
def L20r0 : List AOp := [
  ⟨(some 5), .box 24 (.tmp 0), none, 0⟩,
  ⟨(some 6), .box 24 (.tmp 1), none, 0⟩,
  ⟨(some 7), .box 24 (.tmp 2), none, 0⟩,
  ⟨(some 8), .box 24 (.tmp 3), none, 0⟩,
  ⟨(some 9), .box 24 (.tmp 4), none, 0⟩,
  ⟨(some 10), .assign (.const (.bool false)), none, 0⟩]
def L20r1 : List AOp := [
  ⟨(some 17), .call { callee := .value (.func 43), args := #[], argTypes := #[] }, none, 0⟩,
  ⟨(some 11), .assign (.tmp 17), none, 0⟩]
def L20r2 : List AOp := [
  ⟨(some 19), .load 24 (.tmp 9), none, 0⟩,
  ⟨(some 20), .call { callee := .value (.func 47), args := #[.tmp 19], argTypes := #[24] }, none, 0⟩,
  ⟨(some 21), .call { callee := .value (.func 44), args := #[.tmp 20], argTypes := #[24] }, none, 0⟩,
  ⟨(some 18), .move (.tmp 21), none, 0⟩,
  ⟨(some 22), .extract (.tmp 18) 0, none, 0⟩,
  ⟨(some 23), .extract (.tmp 18) 1, none, 0⟩,
  ⟨(some 12), .alloc 60, none, 0⟩,
  ⟨none, .store 60 (.tmp 12) (.tmp 22), none, 0⟩,
  ⟨(some 13), .assign (.tmp 23), none, 0⟩]
def L20r3 : List AOp := [
  ⟨(some 24), .indexAddr 24 (.tmp 7) (.const (.int .i64 5)), none, 0⟩,
  ⟨(some 25), .load 22 (.tmp 24), none, 0⟩,
  ⟨(some 26), .binOp .quo 22 (.tmp 25) (.const (.int .u64 2)) 22, none, 0⟩,
  ⟨(some 27), .indexAddr 24 (.tmp 7) (.const (.int .i64 5)), none, 0⟩,
  ⟨none, .store 22 (.tmp 27) (.tmp 26), none, 0⟩]
def L20r4 : List AOp := [
  ⟨(some 28), .indexAddr 24 (.tmp 8) (.const (.int .i64 5)), none, 0⟩,
  ⟨(some 29), .load 22 (.tmp 28), none, 0⟩,
  ⟨(some 30), .binOp .quo 22 (.tmp 29) (.const (.int .u64 2)) 22, none, 0⟩,
  ⟨(some 31), .indexAddr 24 (.tmp 8) (.const (.int .i64 5)), none, 0⟩,
  ⟨none, .store 22 (.tmp 31) (.tmp 30), none, 0⟩]
def L20r5 : List AOp := [
  ⟨(some 32), .load 24 (.tmp 7), none, 0⟩,
  ⟨(some 33), .call { callee := .value (.func 46), args := #[.tmp 32], argTypes := #[24] }, none, 1⟩,
  ⟨(some 34), .load 24 (.tmp 8), none, 0⟩,
  ⟨(some 35), .call { callee := .value (.func 46), args := #[.tmp 34], argTypes := #[24] }, none, 7⟩,
  ⟨(some 36), .call { callee := .value (.func 30), args := #[.tmp 33, .tmp 35], argTypes := #[38, 38] }, none, 15⟩,
  ⟨(some 37), .call { callee := .value (.func 25), args := #[.tmp 36], argTypes := #[38] }, none, 31⟩,
  ⟨(some 14), .alloc 23, none, 0⟩,
  ⟨none, .store 23 (.tmp 14) (.tmp 37), none, 1267650600228229401496703205503⟩]
def L20r6 : List AOp := [
  ⟨(some 38), .load 24 (.tmp 5), none, 0⟩,
  ⟨(some 39), .load 24 (.tmp 7), none, 0⟩,
  ⟨(some 40), .load 60 (.tmp 12), none, 0⟩,
  ⟨(some 41), .call { callee := .value (.func 53), args := #[.tmp 38, .tmp 39, .tmp 40], argTypes := #[24, 24, 60] }, none, 7⟩,
  ⟨(some 42), .load 24 (.tmp 5), none, 0⟩,
  ⟨(some 43), .load 24 (.tmp 8), none, 0⟩,
  ⟨(some 44), .load 60 (.tmp 12), none, 0⟩,
  ⟨(some 45), .call { callee := .value (.func 53), args := #[.tmp 42, .tmp 43, .tmp 44], argTypes := #[24, 24, 60] }, none, 127⟩,
  ⟨(some 46), .load 60 (.tmp 12), none, 0⟩,
  ⟨(some 47), .call { callee := .value (.func 49), args := #[.tmp 41, .tmp 45, .tmp 46], argTypes := #[24, 24, 60] }, none, 511⟩,
  ⟨(some 48), .load 24 (.tmp 5), none, 0⟩,
  ⟨(some 49), .load 23 (.tmp 14), none, 0⟩,
  ⟨(some 50), .load 60 (.tmp 12), none, 0⟩,
  ⟨(some 51), .call { callee := .value (.func 53), args := #[.tmp 48, .tmp 49, .tmp 50], argTypes := #[24, 24, 60] }, none, 1267650600228229401496703213567⟩,
  ⟨(some 52), .binOp .eql 24 (.tmp 47) (.tmp 51) 24, none, 1267650600228229401496703221759⟩,
  ⟨(some 15), .assign (.tmp 52), none, 1267650600228229401496703238143⟩]
def L20r7 : List AOp := [
  ⟨(some 53), .load 24 (.tmp 5), none, 0⟩,
  ⟨(some 54), .load 24 (.tmp 7), none, 0⟩,
  ⟨(some 55), .load 60 (.tmp 12), none, 0⟩,
  ⟨(some 56), .call { callee := .value (.func 53), args := #[.tmp 53, .tmp 54, .tmp 55], argTypes := #[24, 24, 60] }, none, 7⟩,
  ⟨(some 57), .load 24 (.tmp 6), none, 0⟩,
  ⟨(some 58), .load 24 (.tmp 7), none, 0⟩,
  ⟨(some 59), .load 60 (.tmp 12), none, 0⟩,
  ⟨(some 60), .call { callee := .value (.func 53), args := #[.tmp 57, .tmp 58, .tmp 59], argTypes := #[24, 24, 60] }, none, 127⟩,
  ⟨(some 61), .load 60 (.tmp 12), none, 0⟩,
  ⟨(some 62), .call { callee := .value (.func 49), args := #[.tmp 56, .tmp 60, .tmp 61], argTypes := #[24, 24, 60] }, none, 511⟩,
  ⟨(some 63), .load 24 (.tmp 5), none, 0⟩,
  ⟨(some 64), .load 24 (.tmp 6), none, 0⟩,
  ⟨(some 65), .load 60 (.tmp 12), none, 0⟩,
  ⟨(some 66), .call { callee := .value (.func 49), args := #[.tmp 63, .tmp 64, .tmp 65], argTypes := #[24, 24, 60] }, none, 8191⟩,
  ⟨(some 67), .load 24 (.tmp 7), none, 0⟩,
  ⟨(some 68), .load 60 (.tmp 12), none, 0⟩,
  ⟨(some 69), .call { callee := .value (.func 53), args := #[.tmp 66, .tmp 67, .tmp 68], argTypes := #[24, 24, 60] }, none, 1267650600228229401496703270911⟩,
  ⟨(some 70), .binOp .eql 24 (.tmp 62) (.tmp 69) 24, none, 1267650600228229401496703336447⟩,
  ⟨(some 16), .assign (.tmp 70), none, 1267650600228229401496703467519⟩]
def L20r8 : List AOp := [
  ⟨(some 71), .move (.tmp 11), none, 0⟩,
  ⟨(some 72), .move (.tmp 71), none, 0⟩,
  ⟨(some 73), .move (.tmp 13), (some (72, true)), 0⟩,
  ⟨(some 74), .binOp .eql 32 (.tmp 73) (.const .nilIface) 32, (some (72, true)), 0⟩,
  ⟨(some 75), .pick (.tmp 72) (.tmp 74) (.const (.bool false)), none, 0⟩,
  ⟨(some 76), .move (.tmp 75), none, 0⟩,
  ⟨(some 77), .move (.tmp 15), (some (76, true)), 0⟩,
  ⟨(some 78), .pick (.tmp 76) (.tmp 77) (.const (.bool false)), none, 0⟩,
  ⟨(some 79), .move (.tmp 78), none, 0⟩,
  ⟨(some 80), .move (.tmp 16), (some (79, true)), 0⟩,
  ⟨(some 81), .pick (.tmp 79) (.tmp 80) (.const (.bool false)), none, 0⟩,
  ⟨(some 10), .assign (.tmp 81), none, 0⟩]
def L20 : LC := (.seq (.region L20r0) (.seq (.region L20r1) (.seq (.region L20r2) (.seq (.region L20r3) (.seq (.region L20r4) (.seq (.regionD L20r5) (.seq (.regionD L20r6) (.seq (.regionD L20r7) (.seq (.region L20r8) .ret)))))))))
theorem nt20 : Try.f20.ntmps = 82 := by kernel_rfl
theorem rs20 : Try.f20.results.toList = [.tmp 10] := by kernel_rfl
theorem lite20 : Try.f20.body.map (lite okDraw) = some L20 := by kernel_rfl
end Eng
