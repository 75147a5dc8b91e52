/- Contracts of the program's functions, and laws over them. There is no further condition. -/
import Derived.Test.YtdpbddomncjkjaaEC
import Derived.Test.YtdpbddomncjkjaaChecked
import Derived.KernelRfl
import Derived.Test.YtdpbddomncjkjaaED
import Derived.Test.YtdpbddomncjkjaaRows
set_option linter.unusedVariables false
set_option linter.unusedSimpArgs false
set_option linter.unusedSectionVars false
set_option exponentiation.threshold 2000
namespace Eng
open Go Go.Proofs
theorem ty3 : tyOf Try.prog 3 = some ⟨.int .i64, 1, 8, [.int .i64 0], false, true, true⟩ := by kernel_rfl
theorem ty5 : tyOf Try.prog 5 = some ⟨.int .u8, 1, 1, [.int .u8 0], false, true, true⟩ := by kernel_rfl
theorem ty22 : tyOf Try.prog 22 = some ⟨.array 16 5, 16, 16, ints .u8 (List.replicate 16 0), true, true, true⟩ := by kernel_rfl
theorem ty27 : tyOf Try.prog 27 = some ⟨.slice 5, 1, 24, [.nils], false, true, false⟩ := by kernel_rfl
theorem ty38 : tyOf Try.prog 38 = some ⟨.interface #[("Error", 100)], 1, 16, [.nili], false, true, true⟩ := by kernel_rfl
theorem ty41 : tyOf Try.prog 41 = some ⟨.int .i64, 1, 8, [.int .i64 0], false, true, true⟩ := by kernel_rfl
theorem ty56 : tyOf Try.prog 56 = some ⟨.slice 22, 1, 24, [.nils], false, true, false⟩ := by kernel_rfl
theorem ty76 : tyOf Try.prog 76 = some ⟨.int .u64, 1, 8, [.int .u64 0], false, true, true⟩ := by kernel_rfl
theorem ty85 : tyOf Try.prog 85 = some ⟨.slice 27, 1, 24, [.nils], false, true, false⟩ := by kernel_rfl
theorem ty88 : tyOf Try.prog 88 = some ⟨.array 4 5, 4, 4, ints .u8 (List.replicate 4 0), true, true, true⟩ := by kernel_rfl
theorem ty89 : tyOf Try.prog 89 = some ⟨.array 60 88, 240, 240, ints .u8 (List.replicate 240 0), true, true, true⟩ := by kernel_rfl
end Eng


namespace Eng
open Go Go.Proofs
theorem hM0 : Try.prog.follows .mixedOrders = true := by kernel_rfl
theorem eq22 : eqArr Try.prog 22 = true := by kernel_rfl
def L17r0 : List AOp := [
  ⟨(some 3), .box 22 (.tmp 1), none, 0⟩,
  ⟨(some 4), .assign (.const (.bool false)), none, 0⟩]
def L17r1 : List AOp := [
  ⟨(some 10), .move (.tmp 0), none, 0⟩,
  ⟨(some 11), .load 22 (.tmp 3), none, 0⟩,
  ⟨(some 12), .call { callee := .value (.func 50), args := #[.tmp 10, .tmp 11], argTypes := #[27, 22] }, none, 0⟩,
  ⟨(some 9), .move (.tmp 12), none, 0⟩,
  ⟨(some 13), .extract (.tmp 9) 0, none, 0⟩,
  ⟨(some 14), .extract (.tmp 9) 1, none, 0⟩,
  ⟨(some 5), .alloc 22, none, 0⟩,
  ⟨none, .store 22 (.tmp 5) (.tmp 13), none, 0⟩,
  ⟨(some 6), .assign (.tmp 14), none, 0⟩]
def L17r2 : List AOp := [
  ⟨(some 16), .makeSlice 27 (.const (.int .i64 32)) (.const (.int .i64 32)), none, 0⟩,
  ⟨(some 17), .build 22 #[], none, 0⟩,
  ⟨(some 18), .call { callee := .value (.func 50), args := #[.tmp 16, .tmp 17], argTypes := #[27, 22] }, none, 0⟩,
  ⟨(some 15), .move (.tmp 18), none, 0⟩,
  ⟨(some 19), .extract (.tmp 15) 0, none, 0⟩,
  ⟨(some 20), .extract (.tmp 15) 1, none, 0⟩,
  ⟨(some 7), .alloc 22, none, 0⟩,
  ⟨none, .store 22 (.tmp 7) (.tmp 19), none, 0⟩,
  ⟨(some 8), .assign (.tmp 20), none, 0⟩]
def L17r3 : List AOp := [
  ⟨(some 21), .move (.tmp 8), none, 0⟩,
  ⟨(some 22), .binOp .neq 38 (.tmp 21) (.const .nilIface) 38, none, 0⟩,
  ⟨(some 23), .move (.tmp 22), none, 0⟩,
  ⟨(some 24), .indexAddr 22 (.tmp 7) (.const (.int .i64 0)), (some (23, false)), 0⟩,
  ⟨(some 25), .load 5 (.tmp 24), (some (23, false)), 0⟩,
  ⟨(some 26), .binOp .neq 5 (.tmp 25) (.const (.int .u8 220)) 5, (some (23, false)), 0⟩,
  ⟨(some 27), .pick (.tmp 23) (.const (.bool true)) (.tmp 26), none, 0⟩]
def L17r4 : List AOp := [
  ⟨(some 4), .assign (.const (.bool false)), none, 0⟩]
def L17r5 : List AOp := [
  ⟨(some 28), .move (.tmp 0), none, 0⟩,
  ⟨(some 29), .call { callee := .builtin .len, args := #[.tmp 28], argTypes := #[27] }, none, 0⟩,
  ⟨(some 30), .binOp .neq 3 (.tmp 29) (.const (.int .i64 32)) 3, none, 0⟩]
def L17r6 : List AOp := [
  ⟨(some 31), .move (.tmp 6), none, 0⟩,
  ⟨(some 32), .makeInterface 41 (.const (.int .i64 1)), none, 0⟩,
  ⟨(some 33), .binOp .eql 38 (.tmp 31) (.tmp 32) 38, none, 0⟩,
  ⟨(some 34), .move (.tmp 33), none, 0⟩,
  ⟨(some 35), .load 22 (.tmp 5), (some (34, true)), 0⟩,
  ⟨(some 36), .build 22 #[], (some (34, true)), 0⟩,
  ⟨(some 37), .binOp .eql 22 (.tmp 35) (.tmp 36) 22, (some (34, true)), 0⟩,
  ⟨(some 38), .pick (.tmp 34) (.tmp 37) (.const (.bool false)), none, 0⟩,
  ⟨(some 4), .assign (.tmp 38), none, 0⟩]
def L17r7 : List AOp := [
  ⟨(some 39), .move (.tmp 6), none, 1267650600228229401496703205376⟩,
  ⟨(some 40), .binOp .eql 38 (.tmp 39) (.const .nilIface) 38, none, 1267650600228229401496703205377⟩,
  ⟨(some 41), .move (.tmp 40), none, 1267650600228229401496703205379⟩,
  ⟨(some 42), .load 22 (.tmp 5), (some (41, true)), 7⟩,
  ⟨(some 43), .call { callee := .value (.func 49), args := #[], argTypes := #[] }, (some (41, true)), 7⟩,
  ⟨(some 44), .move (.tmp 0), (some (41, true)), 7⟩,
  ⟨(some 45), .load 22 (.tmp 3), (some (41, true)), 7⟩,
  ⟨(some 46), .call { callee := .value (.func 51), args := #[.tmp 43, .tmp 44, .tmp 45], argTypes := #[27, 27, 22] }, (some (41, true)), 119⟩,
  ⟨(some 47), .binOp .eql 22 (.tmp 42) (.tmp 46) 22, (some (41, true)), 1267650600228229401496703205631⟩,
  ⟨(some 48), .pick (.tmp 41) (.tmp 47) (.const (.bool false)), none, 1267650600228229401496703205887⟩,
  ⟨(some 4), .assign (.tmp 48), none, 1267650600228229401496703206399⟩]
def L17 : LC := (.seq (.region L17r0) (.seq (.region L17r1) (.seq (.region L17r2) (.seq (.seq (.region L17r3) (.cond (.tmp 27) (.seq (.region L17r4) .ret) .skip)) (.seq (.seq (.region L17r5) (.cond (.tmp 30) (.seq (.region L17r6) .ret) .skip)) (.seq (.regionD L17r7) .ret))))))
theorem nt17 : Try.f17.ntmps = 49 := by kernel_rfl
theorem rs17 : Try.f17.results.toList = [.tmp 4] := by kernel_rfl
theorem lite17 : Try.f17.body.map (lite okDraw) = some L17 := by kernel_rfl
def L23r0 : List AOp := [
  ⟨(some 1), .box 22 (.tmp 0), none, 0⟩,
  ⟨(some 2), .alloc 22, none, 0⟩]
def L23r1 : List AOp := [
  ⟨(some 3), .alloc 22, none, 0⟩]
def L23r2 : List AOp := [
  ⟨(some 5), .move (.const (.int .i64 0)), none, 0⟩]
def L23r3 : List AOp := [
  ⟨(some 6), .binOp .lss 3 (.tmp 5) (.const (.int .i64 16)) 3, none, 0⟩]
def L23r4 : List AOp := [
  ⟨(some 7), .move (.tmp 5), none, 0⟩,
  ⟨(some 4), .assign (.tmp 7), none, 0⟩]
def L23r5 : List AOp := [
  ⟨(some 8), .move (.tmp 4), none, 0⟩,
  ⟨(some 9), .move (.tmp 4), none, 0⟩,
  ⟨(some 10), .move (.tmp 4), none, 0⟩,
  ⟨(some 11), .binOp .rem 3 (.tmp 10) (.const (.int .i64 4)) 3, none, 0⟩,
  ⟨(some 12), .binOp .mul 3 (.const (.int .i64 4)) (.tmp 11) 3, none, 0⟩,
  ⟨(some 13), .binOp .add 3 (.tmp 9) (.tmp 12) 3, none, 0⟩,
  ⟨(some 14), .binOp .rem 3 (.tmp 13) (.const (.int .i64 16)) 3, none, 0⟩,
  ⟨(some 15), .indexAddr 22 (.tmp 1) (.tmp 14), none, 0⟩,
  ⟨(some 16), .load 5 (.tmp 15), none, 0⟩,
  ⟨(some 17), .indexAddr 22 (.tmp 3) (.tmp 8), none, 0⟩,
  ⟨none, .store 5 (.tmp 17) (.tmp 16), none, 0⟩]
def L23r6 : List AOp := [
  ⟨(some 18), .binOp .add 3 (.tmp 5) (.const (.int .i64 1)) 3, none, 0⟩,
  ⟨(some 5), .move (.tmp 18), none, 0⟩]
def L23r7 : List AOp := [
  ⟨(some 19), .load 22 (.tmp 3), none, 0⟩,
  ⟨none, .store 22 (.tmp 2) (.tmp 19), none, 0⟩]
def L23 : LC := (.seq (.region L23r0) (.seq (.region L23r1) (.seq (.seq (.region L23r2) (.block 0 (.loop (.seq (.region L23r3) (.seq (.cond (.tmp 6) .skip (.exit 0)) (.seq (.block 1 (.seq (.region L23r4) (.region L23r5))) (.region L23r6))))))) (.seq (.region L23r7) .ret))))
theorem nt23 : Try.f23.ntmps = 20 := by kernel_rfl
theorem rs23 : Try.f23.results.toList = [.cell 2 22] := by kernel_rfl
theorem lite23 : Try.f23.body.map (lite okDraw) = some L23 := by kernel_rfl
def L24r0 : List AOp := [
  ⟨(some 1), .box 22 (.tmp 0), none, 0⟩,
  ⟨(some 2), .alloc 22, none, 0⟩]
def L24r1 : List AOp := [
  ⟨(some 3), .alloc 22, none, 0⟩]
def L24r2 : List AOp := [
  ⟨(some 4), .assign (.const (.int .i64 0)), none, 0⟩]
def L24r3 : List AOp := [
  ⟨(some 6), .move (.tmp 4), none, 0⟩,
  ⟨(some 7), .binOp .lss 3 (.tmp 6) (.const (.int .i64 4)) 3, none, 0⟩]
def L24r5 : List AOp := [
  ⟨(some 5), .assign (.const (.int .i64 0)), none, 0⟩]
def L24r6 : List AOp := [
  ⟨(some 10), .move (.tmp 5), none, 0⟩,
  ⟨(some 11), .binOp .lss 3 (.tmp 10) (.const (.int .i64 4)) 3, none, 0⟩]
def L24r8 : List AOp := [
  ⟨(some 14), .move (.tmp 5), none, 0⟩,
  ⟨(some 15), .binOp .mul 3 (.const (.int .i64 4)) (.tmp 14) 3, none, 0⟩,
  ⟨(some 16), .move (.tmp 4), none, 0⟩,
  ⟨(some 17), .binOp .add 3 (.tmp 15) (.tmp 16) 3, none, 0⟩,
  ⟨(some 18), .move (.tmp 5), none, 0⟩,
  ⟨(some 19), .move (.tmp 4), none, 0⟩,
  ⟨(some 20), .binOp .add 3 (.tmp 18) (.tmp 19) 3, none, 0⟩,
  ⟨(some 21), .binOp .rem 3 (.tmp 20) (.const (.int .i64 4)) 3, none, 0⟩,
  ⟨(some 22), .binOp .mul 3 (.const (.int .i64 4)) (.tmp 21) 3, none, 0⟩,
  ⟨(some 23), .move (.tmp 4), none, 0⟩,
  ⟨(some 24), .binOp .add 3 (.tmp 22) (.tmp 23) 3, none, 0⟩,
  ⟨(some 25), .indexAddr 22 (.tmp 1) (.tmp 24), none, 0⟩,
  ⟨(some 26), .load 5 (.tmp 25), none, 0⟩,
  ⟨(some 27), .indexAddr 22 (.tmp 3) (.tmp 17), none, 0⟩,
  ⟨none, .store 5 (.tmp 27) (.tmp 26), none, 0⟩]
def L24r7 : List AOp := [
  ⟨(some 12), .move (.tmp 5), none, 0⟩,
  ⟨(some 13), .binOp .add 3 (.tmp 12) (.const (.int .i64 1)) 3, none, 0⟩,
  ⟨(some 5), .assign (.tmp 13), none, 0⟩]
def L24r4 : List AOp := [
  ⟨(some 8), .move (.tmp 4), none, 0⟩,
  ⟨(some 9), .binOp .add 3 (.tmp 8) (.const (.int .i64 1)) 3, none, 0⟩,
  ⟨(some 4), .assign (.tmp 9), none, 0⟩]
def L24r9 : List AOp := [
  ⟨(some 28), .load 22 (.tmp 3), none, 0⟩,
  ⟨none, .store 22 (.tmp 2) (.tmp 28), none, 0⟩]
def L24 : LC := (.seq (.region L24r0) (.seq (.region L24r1) (.seq (.seq (.region L24r2) (.block 0 (.loop (.seq (.seq (.region L24r3) (.cond (.tmp 7) .skip (.exit 0))) (.seq (.block 1 (.seq (.region L24r5) (.block 2 (.loop (.seq (.seq (.region L24r6) (.cond (.tmp 11) .skip (.exit 2))) (.seq (.block 3 (.region L24r8)) (.region L24r7))))))) (.region L24r4)))))) (.seq (.region L24r9) .ret))))
theorem nt24 : Try.f24.ntmps = 29 := by kernel_rfl
theorem rs24 : Try.f24.results.toList = [.cell 2 22] := by kernel_rfl
theorem lite24 : Try.f24.body.map (lite okDraw) = some L24 := by kernel_rfl
def L25r0 : List AOp := [
  ⟨(some 4), .assign (.const (.int .u8 0)), none, 0⟩]
def L25r1 : List AOp := [
  ⟨(some 5), .assign (.const (.int .u8 0)), none, 0⟩]
def L25r2 : List AOp := [
  ⟨(some 7), .move (.const (.int .i64 0)), none, 0⟩]
def L25r3 : List AOp := [
  ⟨(some 8), .binOp .lss 3 (.tmp 7) (.const (.int .i64 8)) 3, none, 0⟩]
def L25r4 : List AOp := [
  ⟨(some 9), .move (.tmp 7), none, 0⟩,
  ⟨(some 6), .assign (.tmp 9), none, 0⟩]
def L25r5 : List AOp := [
  ⟨(some 10), .move (.tmp 5), none, 0⟩,
  ⟨(some 11), .move (.tmp 0), none, 0⟩,
  ⟨(some 12), .move (.tmp 1), none, 0⟩,
  ⟨(some 13), .move (.tmp 6), none, 0⟩,
  ⟨(some 14), .binOp .shr 5 (.tmp 12) (.tmp 13) 3, none, 0⟩,
  ⟨(some 15), .binOp .and 5 (.tmp 14) (.const (.int .u8 1)) 5, none, 0⟩,
  ⟨(some 16), .unOp .neg 5 (.tmp 15), none, 0⟩,
  ⟨(some 17), .binOp .and 5 (.tmp 11) (.tmp 16) 5, none, 0⟩,
  ⟨(some 18), .binOp .xor 5 (.tmp 10) (.tmp 17) 5, none, 0⟩,
  ⟨(some 5), .assign (.tmp 18), none, 0⟩]
def L25r6 : List AOp := [
  ⟨(some 19), .move (.tmp 0), none, 0⟩,
  ⟨(some 20), .binOp .shl 5 (.tmp 19) (.const (.int .u64 1)) 76, none, 0⟩,
  ⟨(some 21), .move (.tmp 0), none, 0⟩,
  ⟨(some 22), .binOp .shr 5 (.tmp 21) (.const (.int .u64 7)) 76, none, 0⟩,
  ⟨(some 23), .unOp .neg 5 (.tmp 22), none, 0⟩,
  ⟨(some 24), .binOp .and 5 (.const (.int .u8 27)) (.tmp 23) 5, none, 0⟩,
  ⟨(some 25), .binOp .xor 5 (.tmp 20) (.tmp 24) 5, none, 0⟩,
  ⟨(some 0), .assign (.tmp 25), none, 0⟩]
def L25r7 : List AOp := [
  ⟨(some 26), .binOp .add 3 (.tmp 7) (.const (.int .i64 1)) 3, none, 0⟩,
  ⟨(some 7), .move (.tmp 26), none, 0⟩]
def L25r8 : List AOp := [
  ⟨(some 27), .move (.tmp 5), none, 0⟩,
  ⟨(some 4), .assign (.tmp 27), none, 0⟩]
def L25 : LC := (.seq (.region L25r0) (.seq (.region L25r1) (.seq (.seq (.region L25r2) (.block 0 (.loop (.seq (.region L25r3) (.seq (.cond (.tmp 8) .skip (.exit 0)) (.seq (.block 1 (.seq (.region L25r4) (.seq (.region L25r5) (.region L25r6)))) (.region L25r7))))))) (.seq (.region L25r8) .ret))))
theorem nt25 : Try.f25.ntmps = 28 := by kernel_rfl
theorem rs25 : Try.f25.results.toList = [.tmp 4] := by kernel_rfl
theorem lite25 : Try.f25.body.map (lite okDraw) = some L25 := by kernel_rfl
def L26r0 : List AOp := [
  ⟨(some 4), .assign (.const (.int .u8 0)), none, 0⟩]
def L26r1 : List AOp := [
  ⟨(some 5), .assign (.const (.int .i64 0)), none, 0⟩]
def L26r2 : List AOp := [
  ⟨(some 6), .assign (.const (.int .i64 0)), none, 0⟩]
def L26r3 : List AOp := [
  ⟨(some 8), .move (.tmp 6), none, 0⟩,
  ⟨(some 9), .binOp .lss 3 (.tmp 8) (.const (.int .i64 8)) 3, none, 0⟩]
def L26r5 : List AOp := [
  ⟨(some 12), .move (.tmp 1), none, 0⟩,
  ⟨(some 13), .convert 5 3 (.tmp 12), none, 0⟩,
  ⟨(some 14), .move (.tmp 6), none, 0⟩,
  ⟨(some 15), .binOp .shr 3 (.tmp 13) (.tmp 14) 3, none, 0⟩,
  ⟨(some 16), .binOp .rem 3 (.tmp 15) (.const (.int .i64 2)) 3, none, 0⟩,
  ⟨(some 17), .binOp .eql 3 (.tmp 16) (.const (.int .i64 1)) 3, none, 0⟩]
def L26r6 : List AOp := [
  ⟨(some 18), .move (.tmp 5), none, 0⟩,
  ⟨(some 19), .move (.tmp 0), none, 0⟩,
  ⟨(some 20), .convert 5 3 (.tmp 19), none, 0⟩,
  ⟨(some 21), .move (.tmp 6), none, 0⟩,
  ⟨(some 22), .binOp .shl 3 (.tmp 20) (.tmp 21) 3, none, 0⟩,
  ⟨(some 23), .binOp .xor 3 (.tmp 18) (.tmp 22) 3, none, 0⟩,
  ⟨(some 5), .assign (.tmp 23), none, 0⟩]
def L26r4 : List AOp := [
  ⟨(some 10), .move (.tmp 6), none, 0⟩,
  ⟨(some 11), .binOp .add 3 (.tmp 10) (.const (.int .i64 1)) 3, none, 0⟩,
  ⟨(some 6), .assign (.tmp 11), none, 0⟩]
def L26r7 : List AOp := [
  ⟨(some 7), .assign (.const (.int .i64 14)), none, 0⟩]
def L26r8 : List AOp := [
  ⟨(some 24), .move (.tmp 7), none, 0⟩,
  ⟨(some 25), .binOp .geq 3 (.tmp 24) (.const (.int .i64 8)) 3, none, 0⟩]
def L26r10 : List AOp := [
  ⟨(some 28), .move (.tmp 5), none, 0⟩,
  ⟨(some 29), .move (.tmp 7), none, 0⟩,
  ⟨(some 30), .binOp .shr 3 (.tmp 28) (.tmp 29) 3, none, 0⟩,
  ⟨(some 31), .binOp .rem 3 (.tmp 30) (.const (.int .i64 2)) 3, none, 0⟩,
  ⟨(some 32), .binOp .eql 3 (.tmp 31) (.const (.int .i64 1)) 3, none, 0⟩]
def L26r11 : List AOp := [
  ⟨(some 33), .move (.tmp 5), none, 0⟩,
  ⟨(some 34), .move (.tmp 7), none, 0⟩,
  ⟨(some 35), .binOp .sub 3 (.tmp 34) (.const (.int .i64 8)) 3, none, 0⟩,
  ⟨(some 36), .binOp .shl 3 (.const (.int .i64 283)) (.tmp 35) 3, none, 0⟩,
  ⟨(some 37), .binOp .xor 3 (.tmp 33) (.tmp 36) 3, none, 0⟩,
  ⟨(some 5), .assign (.tmp 37), none, 0⟩]
def L26r9 : List AOp := [
  ⟨(some 26), .move (.tmp 7), none, 0⟩,
  ⟨(some 27), .binOp .sub 3 (.tmp 26) (.const (.int .i64 1)) 3, none, 0⟩,
  ⟨(some 7), .assign (.tmp 27), none, 0⟩]
def L26r12 : List AOp := [
  ⟨(some 38), .move (.tmp 5), none, 0⟩,
  ⟨(some 39), .convert 3 5 (.tmp 38), none, 0⟩,
  ⟨(some 4), .assign (.tmp 39), none, 0⟩]
def L26 : LC := (.seq (.region L26r0) (.seq (.region L26r1) (.seq (.seq (.region L26r2) (.block 0 (.loop (.seq (.seq (.region L26r3) (.cond (.tmp 9) .skip (.exit 0))) (.seq (.block 1 (.seq (.region L26r5) (.cond (.tmp 17) (.region L26r6) .skip))) (.region L26r4)))))) (.seq (.seq (.region L26r7) (.block 2 (.loop (.seq (.seq (.region L26r8) (.cond (.tmp 25) .skip (.exit 2))) (.seq (.block 3 (.seq (.region L26r10) (.cond (.tmp 32) (.region L26r11) .skip))) (.region L26r9)))))) (.seq (.region L26r12) .ret)))))
theorem nt26 : Try.f26.ntmps = 40 := by kernel_rfl
theorem rs26 : Try.f26.results.toList = [.tmp 4] := by kernel_rfl
theorem lite26 : Try.f26.body.map (lite okDraw) = some L26 := by kernel_rfl
def L36r0 : List AOp := [
  ⟨(some 1), .box 22 (.tmp 0), none, 0⟩,
  ⟨(some 2), .alloc 22, none, 0⟩]
def L36r1 : List AOp := [
  ⟨(some 3), .alloc 22, none, 0⟩]
def L36r2 : List AOp := [
  ⟨(some 7), .move (.const (.int .i64 0)), none, 0⟩]
def L36r3 : List AOp := [
  ⟨(some 8), .binOp .lss 3 (.tmp 7) (.const (.int .i64 4)) 3, none, 0⟩]
def L36r4 : List AOp := [
  ⟨(some 9), .move (.tmp 7), none, 0⟩,
  ⟨(some 4), .alloc 3, none, 0⟩,
  ⟨none, .store 3 (.tmp 4) (.tmp 9), none, 0⟩]
def L36r5 : List AOp := [
  ⟨(some 10), .move (.const (.int .i64 0)), none, 0⟩]
def L36r6 : List AOp := [
  ⟨(some 11), .binOp .lss 3 (.tmp 10) (.const (.int .i64 4)) 3, none, 0⟩]
def L36r7 : List AOp := [
  ⟨(some 12), .move (.tmp 10), none, 0⟩,
  ⟨(some 5), .alloc 3, none, 0⟩,
  ⟨none, .store 3 (.tmp 5) (.tmp 12), none, 0⟩]
def L36r8 : List AOp := [
  ⟨(some 13), .makeFunc (.func 64) #[] #[.tmp 1, .tmp 4, .tmp 5], none, 0⟩,
  ⟨(some 6), .assign (.tmp 13), none, 0⟩]
def L36r9 : List AOp := [
  ⟨(some 14), .load 3 (.tmp 4), none, 0⟩,
  ⟨(some 15), .binOp .mul 3 (.const (.int .i64 4)) (.tmp 14) 3, none, 1⟩,
  ⟨(some 16), .load 3 (.tmp 5), none, 0⟩,
  ⟨(some 17), .binOp .add 3 (.tmp 15) (.tmp 16) 3, none, 7⟩,
  ⟨(some 18), .move (.tmp 6), none, 0⟩,
  ⟨(some 19), .call { callee := .value (.tmp 18), args := #[.const (.int .i64 0)], argTypes := #[3] }, none, 16⟩,
  ⟨(some 20), .call { callee := .value (.func 25), args := #[.const (.int .u8 2), .tmp 19], argTypes := #[5, 5] }, none, 48⟩,
  ⟨(some 21), .move (.tmp 6), none, 0⟩,
  ⟨(some 22), .call { callee := .value (.tmp 21), args := #[.const (.int .i64 1)], argTypes := #[3] }, none, 240⟩,
  ⟨(some 23), .call { callee := .value (.func 25), args := #[.const (.int .u8 3), .tmp 22], argTypes := #[5, 5] }, none, 496⟩,
  ⟨(some 24), .binOp .xor 5 (.tmp 20) (.tmp 23) 5, none, 1008⟩,
  ⟨(some 25), .move (.tmp 6), none, 0⟩,
  ⟨(some 26), .call { callee := .value (.tmp 25), args := #[.const (.int .i64 2)], argTypes := #[3] }, none, 3056⟩,
  ⟨(some 27), .binOp .xor 5 (.tmp 24) (.tmp 26) 5, none, 8176⟩,
  ⟨(some 28), .move (.tmp 6), none, 0⟩,
  ⟨(some 29), .call { callee := .value (.tmp 28), args := #[.const (.int .i64 3)], argTypes := #[3] }, none, 23536⟩,
  ⟨(some 30), .binOp .xor 5 (.tmp 27) (.tmp 29) 5, none, 65520⟩,
  ⟨(some 31), .indexAddr 22 (.tmp 3) (.tmp 17), none, 1267650600228229401496703336447⟩,
  ⟨none, .store 5 (.tmp 31) (.tmp 30), none, 1267650600228229401496703467519⟩]
def L36r10 : List AOp := [
  ⟨(some 32), .binOp .add 3 (.tmp 10) (.const (.int .i64 1)) 3, none, 0⟩,
  ⟨(some 10), .move (.tmp 32), none, 0⟩]
def L36r11 : List AOp := [
  ⟨(some 33), .binOp .add 3 (.tmp 7) (.const (.int .i64 1)) 3, none, 0⟩,
  ⟨(some 7), .move (.tmp 33), none, 0⟩]
def L36r12 : List AOp := [
  ⟨(some 34), .load 22 (.tmp 3), none, 0⟩,
  ⟨none, .store 22 (.tmp 2) (.tmp 34), none, 0⟩]
def L36 : LC := (.seq (.region L36r0) (.seq (.region L36r1) (.seq (.seq (.region L36r2) (.block 0 (.loop (.seq (.region L36r3) (.seq (.cond (.tmp 8) .skip (.exit 0)) (.seq (.block 1 (.seq (.region L36r4) (.seq (.region L36r5) (.block 2 (.loop (.seq (.region L36r6) (.seq (.cond (.tmp 11) .skip (.exit 2)) (.seq (.block 3 (.seq (.region L36r7) (.seq (.region L36r8) (.regionD L36r9)))) (.region L36r10))))))))) (.region L36r11))))))) (.seq (.region L36r12) .ret))))
theorem nt36 : Try.f36.ntmps = 35 := by kernel_rfl
theorem rs36 : Try.f36.results.toList = [.cell 2 22] := by kernel_rfl
theorem lite36 : Try.f36.body.map (lite okDraw) = some L36 := by kernel_rfl
def L37r0 : List AOp := [
  ⟨(some 1), .box 22 (.tmp 0), none, 0⟩,
  ⟨(some 2), .alloc 22, none, 0⟩]
def L37r1 : List AOp := [
  ⟨(some 8), .buildSlice 27 4 #[(0, .const (.int .u8 2)), (1, .const (.int .u8 3)), (2, .const (.int .u8 1)), (3, .const (.int .u8 1))], none, 0⟩,
  ⟨(some 9), .buildSlice 27 4 #[(0, .const (.int .u8 1)), (1, .const (.int .u8 2)), (2, .const (.int .u8 3)), (3, .const (.int .u8 1))], none, 0⟩,
  ⟨(some 10), .buildSlice 27 4 #[(0, .const (.int .u8 1)), (1, .const (.int .u8 1)), (2, .const (.int .u8 2)), (3, .const (.int .u8 3))], none, 0⟩,
  ⟨(some 11), .buildSlice 27 4 #[(0, .const (.int .u8 3)), (1, .const (.int .u8 1)), (2, .const (.int .u8 1)), (3, .const (.int .u8 2))], none, 0⟩,
  ⟨(some 12), .buildSlice 85 4 #[(0, .tmp 8), (1, .tmp 9), (2, .tmp 10), (3, .tmp 11)], none, 0⟩,
  ⟨(some 3), .assign (.tmp 12), none, 0⟩]
def L37r2 : List AOp := [
  ⟨(some 4), .alloc 22, none, 0⟩]
def L37r3 : List AOp := [
  ⟨(some 5), .assign (.const (.int .i64 0)), none, 0⟩]
def L37r4 : List AOp := [
  ⟨(some 13), .move (.tmp 5), none, 0⟩,
  ⟨(some 14), .binOp .lss 3 (.tmp 13) (.const (.int .i64 4)) 3, none, 0⟩]
def L37r6 : List AOp := [
  ⟨(some 6), .assign (.const (.int .i64 0)), none, 0⟩]
def L37r7 : List AOp := [
  ⟨(some 17), .move (.tmp 6), none, 0⟩,
  ⟨(some 18), .binOp .lss 3 (.tmp 17) (.const (.int .i64 4)) 3, none, 0⟩]
def L37r9 : List AOp := [
  ⟨(some 7), .assign (.const (.int .i64 0)), none, 0⟩]
def L37r10 : List AOp := [
  ⟨(some 21), .move (.tmp 7), none, 0⟩,
  ⟨(some 22), .binOp .lss 3 (.tmp 21) (.const (.int .i64 4)) 3, none, 0⟩]
def L37r12 : List AOp := [
  ⟨(some 25), .move (.tmp 5), none, 0⟩,
  ⟨(some 26), .binOp .mul 3 (.const (.int .i64 4)) (.tmp 25) 3, none, 1⟩,
  ⟨(some 27), .move (.tmp 6), none, 0⟩,
  ⟨(some 28), .binOp .add 3 (.tmp 26) (.tmp 27) 3, none, 7⟩,
  ⟨(some 29), .move (.tmp 5), none, 0⟩,
  ⟨(some 30), .binOp .mul 3 (.const (.int .i64 4)) (.tmp 29) 3, none, 16⟩,
  ⟨(some 31), .move (.tmp 6), none, 0⟩,
  ⟨(some 32), .binOp .add 3 (.tmp 30) (.tmp 31) 3, none, 112⟩,
  ⟨(some 33), .indexAddr 22 (.tmp 4) (.tmp 32), none, 240⟩,
  ⟨(some 34), .load 5 (.tmp 33), none, 496⟩,
  ⟨(some 35), .move (.tmp 3), none, 0⟩,
  ⟨(some 36), .move (.tmp 6), none, 0⟩,
  ⟨(some 37), .indexAddr 85 (.tmp 35) (.tmp 36), none, 3072⟩,
  ⟨(some 38), .load 27 (.tmp 37), none, 7168⟩,
  ⟨(some 39), .move (.tmp 7), none, 0⟩,
  ⟨(some 40), .indexAddr 27 (.tmp 38) (.tmp 39), none, 31744⟩,
  ⟨(some 41), .load 5 (.tmp 40), none, 64512⟩,
  ⟨(some 42), .move (.tmp 5), none, 0⟩,
  ⟨(some 43), .binOp .mul 3 (.const (.int .i64 4)) (.tmp 42) 3, none, 131072⟩,
  ⟨(some 44), .move (.tmp 7), none, 0⟩,
  ⟨(some 45), .binOp .add 3 (.tmp 43) (.tmp 44) 3, none, 917504⟩,
  ⟨(some 46), .indexAddr 22 (.tmp 1) (.tmp 45), none, 1966080⟩,
  ⟨(some 47), .load 5 (.tmp 46), none, 4063232⟩,
  ⟨(some 48), .call { callee := .value (.func 26), args := #[.tmp 41, .tmp 47], argTypes := #[5, 5] }, none, 8387584⟩,
  ⟨(some 49), .binOp .xor 5 (.tmp 34) (.tmp 48) 5, none, 16777200⟩,
  ⟨(some 50), .indexAddr 22 (.tmp 4) (.tmp 28), none, 1267650600228229401496736759807⟩,
  ⟨none, .store 5 (.tmp 50) (.tmp 49), none, 1267650600228229401496770314239⟩]
def L37r11 : List AOp := [
  ⟨(some 23), .move (.tmp 7), none, 0⟩,
  ⟨(some 24), .binOp .add 3 (.tmp 23) (.const (.int .i64 1)) 3, none, 0⟩,
  ⟨(some 7), .assign (.tmp 24), none, 0⟩]
def L37r8 : List AOp := [
  ⟨(some 19), .move (.tmp 6), none, 0⟩,
  ⟨(some 20), .binOp .add 3 (.tmp 19) (.const (.int .i64 1)) 3, none, 0⟩,
  ⟨(some 6), .assign (.tmp 20), none, 0⟩]
def L37r5 : List AOp := [
  ⟨(some 15), .move (.tmp 5), none, 0⟩,
  ⟨(some 16), .binOp .add 3 (.tmp 15) (.const (.int .i64 1)) 3, none, 0⟩,
  ⟨(some 5), .assign (.tmp 16), none, 0⟩]
def L37r13 : List AOp := [
  ⟨(some 51), .load 22 (.tmp 4), none, 0⟩,
  ⟨none, .store 22 (.tmp 2) (.tmp 51), none, 0⟩]
def L37 : LC := (.seq (.region L37r0) (.seq (.region L37r1) (.seq (.region L37r2) (.seq (.seq (.region L37r3) (.block 0 (.loop (.seq (.seq (.region L37r4) (.cond (.tmp 14) .skip (.exit 0))) (.seq (.block 1 (.seq (.region L37r6) (.block 2 (.loop (.seq (.seq (.region L37r7) (.cond (.tmp 18) .skip (.exit 2))) (.seq (.block 3 (.seq (.region L37r9) (.block 4 (.loop (.seq (.seq (.region L37r10) (.cond (.tmp 22) .skip (.exit 4))) (.seq (.block 5 (.regionD L37r12)) (.region L37r11))))))) (.region L37r8))))))) (.region L37r5)))))) (.seq (.region L37r13) .ret)))))
theorem nt37 : Try.f37.ntmps = 52 := by kernel_rfl
theorem rs37 : Try.f37.results.toList = [.cell 2 22] := by kernel_rfl
theorem lite37 : Try.f37.body.map (lite okDraw) = some L37 := by kernel_rfl
def L38r0 : List AOp := [
  ⟨(some 2), .assign (.const (.int .u8 0)), none, 0⟩]
def L38r1 : List AOp := [
  ⟨(some 5), .move (.tmp 0), none, 0⟩,
  ⟨(some 3), .assign (.const (.int .u8 1)), none, 0⟩,
  ⟨(some 4), .assign (.tmp 5), none, 0⟩]
def L38r2 : List AOp := [
  ⟨(some 6), .move (.const (.int .i64 0)), none, 0⟩]
def L38r3 : List AOp := [
  ⟨(some 7), .binOp .lss 3 (.tmp 6) (.const (.int .i64 7)) 3, none, 0⟩]
def L38r4 : List AOp := [
  ⟨(some 8), .move (.tmp 4), none, 0⟩,
  ⟨(some 9), .move (.tmp 4), none, 0⟩,
  ⟨(some 10), .call { callee := .value (.func 25), args := #[.tmp 8, .tmp 9], argTypes := #[5, 5] }, none, 0⟩,
  ⟨(some 4), .assign (.tmp 10), none, 0⟩]
def L38r5 : List AOp := [
  ⟨(some 11), .move (.tmp 3), none, 0⟩,
  ⟨(some 12), .move (.tmp 4), none, 0⟩,
  ⟨(some 13), .call { callee := .value (.func 25), args := #[.tmp 11, .tmp 12], argTypes := #[5, 5] }, none, 0⟩,
  ⟨(some 3), .assign (.tmp 13), none, 0⟩]
def L38r6 : List AOp := [
  ⟨(some 14), .binOp .add 3 (.tmp 6) (.const (.int .i64 1)) 3, none, 0⟩,
  ⟨(some 6), .move (.tmp 14), none, 0⟩]
def L38r7 : List AOp := [
  ⟨(some 15), .move (.tmp 3), none, 0⟩,
  ⟨(some 16), .move (.tmp 3), none, 0⟩,
  ⟨(some 17), .call { callee := .value (.func 65), args := #[.tmp 16, .const (.int .i64 1)], argTypes := #[5, 3] }, none, 0⟩,
  ⟨(some 18), .binOp .xor 5 (.tmp 15) (.tmp 17) 5, none, 0⟩,
  ⟨(some 19), .move (.tmp 3), none, 0⟩,
  ⟨(some 20), .call { callee := .value (.func 65), args := #[.tmp 19, .const (.int .i64 2)], argTypes := #[5, 3] }, none, 0⟩,
  ⟨(some 21), .binOp .xor 5 (.tmp 18) (.tmp 20) 5, none, 0⟩,
  ⟨(some 22), .move (.tmp 3), none, 0⟩,
  ⟨(some 23), .call { callee := .value (.func 65), args := #[.tmp 22, .const (.int .i64 3)], argTypes := #[5, 3] }, none, 0⟩,
  ⟨(some 24), .binOp .xor 5 (.tmp 21) (.tmp 23) 5, none, 0⟩,
  ⟨(some 25), .move (.tmp 3), none, 0⟩,
  ⟨(some 26), .call { callee := .value (.func 65), args := #[.tmp 25, .const (.int .i64 4)], argTypes := #[5, 3] }, none, 0⟩,
  ⟨(some 27), .binOp .xor 5 (.tmp 24) (.tmp 26) 5, none, 0⟩,
  ⟨(some 28), .binOp .xor 5 (.tmp 27) (.const (.int .u8 99)) 5, none, 0⟩,
  ⟨(some 2), .assign (.tmp 28), none, 0⟩]
def L38 : LC := (.seq (.region L38r0) (.seq (.region L38r1) (.seq (.seq (.region L38r2) (.block 0 (.loop (.seq (.region L38r3) (.seq (.cond (.tmp 7) .skip (.exit 0)) (.seq (.block 1 (.seq (.region L38r4) (.region L38r5))) (.region L38r6))))))) (.seq (.region L38r7) .ret))))
theorem nt38 : Try.f38.ntmps = 29 := by kernel_rfl
theorem rs38 : Try.f38.results.toList = [.tmp 2] := by kernel_rfl
theorem lite38 : Try.f38.body.map (lite okDraw) = some L38 := by kernel_rfl
def L39r0 : List AOp := [
  ⟨(some 2), .assign (.const (.int .u8 0)), none, 0⟩]
def L39r1 : List AOp := [
  ⟨(some 3), .assign (.const (.int .u8 0)), none, 0⟩]
def L39r2 : List AOp := [
  ⟨(some 4), .assign (.const (.int .i64 1)), none, 0⟩]
def L39r3 : List AOp := [
  ⟨(some 8), .move (.tmp 4), none, 0⟩,
  ⟨(some 9), .binOp .lss 3 (.tmp 8) (.const (.int .i64 256)) 3, none, 0⟩]
def L39r5 : List AOp := [
  ⟨(some 12), .move (.tmp 0), none, 0⟩,
  ⟨(some 13), .move (.tmp 4), none, 0⟩,
  ⟨(some 14), .convert 3 5 (.tmp 13), none, 0⟩,
  ⟨(some 15), .call { callee := .value (.func 26), args := #[.tmp 12, .tmp 14], argTypes := #[5, 5] }, none, 0⟩,
  ⟨(some 16), .binOp .eql 5 (.tmp 15) (.const (.int .u8 1)) 5, none, 0⟩]
def L39r6 : List AOp := [
  ⟨(some 17), .move (.tmp 4), none, 0⟩,
  ⟨(some 18), .convert 3 5 (.tmp 17), none, 0⟩,
  ⟨(some 3), .assign (.tmp 18), none, 0⟩]
def L39r4 : List AOp := [
  ⟨(some 10), .move (.tmp 4), none, 0⟩,
  ⟨(some 11), .binOp .add 3 (.tmp 10) (.const (.int .i64 1)) 3, none, 0⟩,
  ⟨(some 4), .assign (.tmp 11), none, 0⟩]
def L39r7 : List AOp := [
  ⟨(some 5), .assign (.const (.int .i64 0)), none, 0⟩]
def L39r8 : List AOp := [
  ⟨(some 6), .assign (.const (.int .i64 0)), none, 0⟩]
def L39r9 : List AOp := [
  ⟨(some 19), .move (.tmp 6), none, 0⟩,
  ⟨(some 20), .binOp .lss 3 (.tmp 19) (.const (.int .i64 8)) 3, none, 0⟩]
def L39r11 : List AOp := [
  ⟨(some 23), .move (.tmp 6), none, 0⟩,
  ⟨(some 24), .binOp .shr 3 (.const (.int .i64 99)) (.tmp 23) 3, none, 0⟩,
  ⟨(some 25), .binOp .rem 3 (.tmp 24) (.const (.int .i64 2)) 3, none, 0⟩,
  ⟨(some 7), .assign (.tmp 25), none, 0⟩]
def L39r12 : List AOp := [
  ⟨(some 26), .move (.tmp 7), none, 0⟩,
  ⟨(some 27), .move (.tmp 3), none, 0⟩,
  ⟨(some 28), .convert 5 3 (.tmp 27), none, 0⟩,
  ⟨(some 29), .move (.tmp 6), none, 0⟩,
  ⟨(some 30), .binOp .shr 3 (.tmp 28) (.tmp 29) 3, none, 0⟩,
  ⟨(some 31), .binOp .rem 3 (.tmp 30) (.const (.int .i64 2)) 3, none, 0⟩,
  ⟨(some 32), .binOp .add 3 (.tmp 26) (.tmp 31) 3, none, 0⟩,
  ⟨(some 7), .assign (.tmp 32), none, 0⟩]
def L39r13 : List AOp := [
  ⟨(some 33), .move (.tmp 7), none, 0⟩,
  ⟨(some 34), .move (.tmp 3), none, 0⟩,
  ⟨(some 35), .convert 5 3 (.tmp 34), none, 0⟩,
  ⟨(some 36), .move (.tmp 6), none, 0⟩,
  ⟨(some 37), .binOp .add 3 (.tmp 36) (.const (.int .i64 4)) 3, none, 0⟩,
  ⟨(some 38), .binOp .rem 3 (.tmp 37) (.const (.int .i64 8)) 3, none, 0⟩,
  ⟨(some 39), .binOp .shr 3 (.tmp 35) (.tmp 38) 3, none, 0⟩,
  ⟨(some 40), .binOp .rem 3 (.tmp 39) (.const (.int .i64 2)) 3, none, 0⟩,
  ⟨(some 41), .binOp .add 3 (.tmp 33) (.tmp 40) 3, none, 0⟩,
  ⟨(some 7), .assign (.tmp 41), none, 0⟩]
def L39r14 : List AOp := [
  ⟨(some 42), .move (.tmp 7), none, 0⟩,
  ⟨(some 43), .move (.tmp 3), none, 0⟩,
  ⟨(some 44), .convert 5 3 (.tmp 43), none, 0⟩,
  ⟨(some 45), .move (.tmp 6), none, 0⟩,
  ⟨(some 46), .binOp .add 3 (.tmp 45) (.const (.int .i64 5)) 3, none, 0⟩,
  ⟨(some 47), .binOp .rem 3 (.tmp 46) (.const (.int .i64 8)) 3, none, 0⟩,
  ⟨(some 48), .binOp .shr 3 (.tmp 44) (.tmp 47) 3, none, 0⟩,
  ⟨(some 49), .binOp .rem 3 (.tmp 48) (.const (.int .i64 2)) 3, none, 0⟩,
  ⟨(some 50), .binOp .add 3 (.tmp 42) (.tmp 49) 3, none, 0⟩,
  ⟨(some 7), .assign (.tmp 50), none, 0⟩]
def L39r15 : List AOp := [
  ⟨(some 51), .move (.tmp 7), none, 0⟩,
  ⟨(some 52), .move (.tmp 3), none, 0⟩,
  ⟨(some 53), .convert 5 3 (.tmp 52), none, 0⟩,
  ⟨(some 54), .move (.tmp 6), none, 0⟩,
  ⟨(some 55), .binOp .add 3 (.tmp 54) (.const (.int .i64 6)) 3, none, 0⟩,
  ⟨(some 56), .binOp .rem 3 (.tmp 55) (.const (.int .i64 8)) 3, none, 0⟩,
  ⟨(some 57), .binOp .shr 3 (.tmp 53) (.tmp 56) 3, none, 0⟩,
  ⟨(some 58), .binOp .rem 3 (.tmp 57) (.const (.int .i64 2)) 3, none, 0⟩,
  ⟨(some 59), .binOp .add 3 (.tmp 51) (.tmp 58) 3, none, 0⟩,
  ⟨(some 7), .assign (.tmp 59), none, 0⟩]
def L39r16 : List AOp := [
  ⟨(some 60), .move (.tmp 7), none, 0⟩,
  ⟨(some 61), .move (.tmp 3), none, 0⟩,
  ⟨(some 62), .convert 5 3 (.tmp 61), none, 0⟩,
  ⟨(some 63), .move (.tmp 6), none, 0⟩,
  ⟨(some 64), .binOp .add 3 (.tmp 63) (.const (.int .i64 7)) 3, none, 0⟩,
  ⟨(some 65), .binOp .rem 3 (.tmp 64) (.const (.int .i64 8)) 3, none, 0⟩,
  ⟨(some 66), .binOp .shr 3 (.tmp 62) (.tmp 65) 3, none, 0⟩,
  ⟨(some 67), .binOp .rem 3 (.tmp 66) (.const (.int .i64 2)) 3, none, 0⟩,
  ⟨(some 68), .binOp .add 3 (.tmp 60) (.tmp 67) 3, none, 0⟩,
  ⟨(some 7), .assign (.tmp 68), none, 0⟩]
def L39r17 : List AOp := [
  ⟨(some 69), .move (.tmp 5), none, 0⟩,
  ⟨(some 70), .move (.tmp 7), none, 0⟩,
  ⟨(some 71), .binOp .rem 3 (.tmp 70) (.const (.int .i64 2)) 3, none, 0⟩,
  ⟨(some 72), .move (.tmp 6), none, 0⟩,
  ⟨(some 73), .binOp .shl 3 (.tmp 71) (.tmp 72) 3, none, 0⟩,
  ⟨(some 74), .binOp .add 3 (.tmp 69) (.tmp 73) 3, none, 0⟩,
  ⟨(some 5), .assign (.tmp 74), none, 0⟩]
def L39r10 : List AOp := [
  ⟨(some 21), .move (.tmp 6), none, 0⟩,
  ⟨(some 22), .binOp .add 3 (.tmp 21) (.const (.int .i64 1)) 3, none, 0⟩,
  ⟨(some 6), .assign (.tmp 22), none, 0⟩]
def L39r18 : List AOp := [
  ⟨(some 75), .move (.tmp 5), none, 0⟩,
  ⟨(some 76), .convert 3 5 (.tmp 75), none, 0⟩,
  ⟨(some 2), .assign (.tmp 76), none, 0⟩]
def L39 : LC := (.seq (.region L39r0) (.seq (.region L39r1) (.seq (.seq (.region L39r2) (.block 0 (.loop (.seq (.seq (.region L39r3) (.cond (.tmp 9) .skip (.exit 0))) (.seq (.block 1 (.seq (.region L39r5) (.cond (.tmp 16) (.region L39r6) .skip))) (.region L39r4)))))) (.seq (.region L39r7) (.seq (.seq (.region L39r8) (.block 2 (.loop (.seq (.seq (.region L39r9) (.cond (.tmp 20) .skip (.exit 2))) (.seq (.block 3 (.seq (.region L39r11) (.seq (.region L39r12) (.seq (.region L39r13) (.seq (.region L39r14) (.seq (.region L39r15) (.seq (.region L39r16) (.region L39r17)))))))) (.region L39r10)))))) (.seq (.region L39r18) .ret))))))
theorem nt39 : Try.f39.ntmps = 77 := by kernel_rfl
theorem rs39 : Try.f39.results.toList = [.tmp 2] := by kernel_rfl
theorem lite39 : Try.f39.body.map (lite okDraw) = some L39 := by kernel_rfl
def L47r0 : List AOp := [
  ⟨(some 2), .assign (.const (.slice none 0 0)), none, 0⟩,
  ⟨(some 3), .assign (.const .nilIface), none, 0⟩]
def L47r1 : List AOp := [
  ⟨(some 13), .move (.tmp 0), none, 0⟩,
  ⟨(some 14), .call { callee := .builtin .len, args := #[.tmp 13], argTypes := #[27] }, none, 0⟩,
  ⟨(some 15), .binOp .neq 3 (.tmp 14) (.const (.int .i64 32)) 3, none, 0⟩]
def L47r2 : List AOp := [
  ⟨(some 16), .makeInterface 41 (.const (.int .i64 1)), none, 0⟩,
  ⟨(some 2), .assign (.const (.slice none 0 0)), none, 0⟩,
  ⟨(some 3), .assign (.tmp 16), none, 0⟩]
def L47r3 : List AOp := [
  ⟨(some 4), .alloc 89, none, 0⟩]
def L47r4 : List AOp := [
  ⟨(some 5), .assign (.const (.int .u8 1)), none, 0⟩]
def L47r5 : List AOp := [
  ⟨(some 17), .move (.const (.int .i64 0)), none, 0⟩]
def L47r6 : List AOp := [
  ⟨(some 18), .binOp .lss 3 (.tmp 17) (.const (.int .i64 60)) 3, none, 0⟩]
def L47r7 : List AOp := [
  ⟨(some 19), .move (.tmp 17), none, 0⟩,
  ⟨(some 6), .assign (.tmp 19), none, 0⟩]
def L47r8 : List AOp := [
  ⟨(some 20), .move (.tmp 6), none, 0⟩,
  ⟨(some 21), .binOp .lss 3 (.tmp 20) (.const (.int .i64 8)) 3, none, 0⟩]
def L47r9 : List AOp := [
  ⟨(some 22), .move (.tmp 6), none, 0⟩,
  ⟨(some 23), .move (.tmp 0), none, 0⟩,
  ⟨(some 24), .move (.tmp 6), none, 0⟩,
  ⟨(some 25), .binOp .mul 3 (.const (.int .i64 4)) (.tmp 24) 3, none, 0⟩,
  ⟨(some 26), .slice 27 (.tmp 23) (some (.tmp 25)) none none, none, 0⟩,
  ⟨(some 27), .sliceToArrayPointer 88 (.tmp 26), none, 0⟩,
  ⟨(some 28), .load 88 (.tmp 27), none, 0⟩,
  ⟨(some 29), .indexAddr 89 (.tmp 4) (.tmp 22), none, 0⟩,
  ⟨none, .store 88 (.tmp 29) (.tmp 28), none, 0⟩]
def L47r10 : List AOp := [
  ⟨(some 30), .move (.tmp 6), none, 0⟩,
  ⟨(some 31), .binOp .sub 3 (.tmp 30) (.const (.int .i64 1)) 3, none, 0⟩,
  ⟨(some 32), .indexAddr 89 (.tmp 4) (.tmp 31), none, 0⟩,
  ⟨(some 33), .load 88 (.tmp 32), none, 0⟩,
  ⟨(some 7), .alloc 88, none, 0⟩,
  ⟨none, .store 88 (.tmp 7) (.tmp 33), none, 0⟩]
def L47r11 : List AOp := [
  ⟨(some 34), .move (.tmp 6), none, 0⟩,
  ⟨(some 35), .binOp .rem 3 (.tmp 34) (.const (.int .i64 8)) 3, none, 0⟩,
  ⟨(some 36), .binOp .eql 3 (.tmp 35) (.const (.int .i64 0)) 3, none, 0⟩]
def L47r12 : List AOp := [
  ⟨(some 37), .indexAddr 88 (.tmp 7) (.const (.int .i64 1)), none, 0⟩,
  ⟨(some 38), .load 5 (.tmp 37), none, 0⟩,
  ⟨(some 39), .indexAddr 88 (.tmp 7) (.const (.int .i64 2)), none, 0⟩,
  ⟨(some 40), .load 5 (.tmp 39), none, 0⟩,
  ⟨(some 41), .indexAddr 88 (.tmp 7) (.const (.int .i64 3)), none, 0⟩,
  ⟨(some 42), .load 5 (.tmp 41), none, 0⟩,
  ⟨(some 43), .indexAddr 88 (.tmp 7) (.const (.int .i64 0)), none, 0⟩,
  ⟨(some 44), .load 5 (.tmp 43), none, 0⟩,
  ⟨(some 45), .build 88 #[(0, .tmp 38), (1, .tmp 40), (2, .tmp 42), (3, .tmp 44)], none, 0⟩,
  ⟨none, .store 88 (.tmp 7) (.tmp 45), none, 0⟩]
def L47r13 : List AOp := [
  ⟨(some 46), .move (.tmp 6), none, 0⟩,
  ⟨(some 47), .binOp .rem 3 (.tmp 46) (.const (.int .i64 4)) 3, none, 0⟩,
  ⟨(some 48), .binOp .eql 3 (.tmp 47) (.const (.int .i64 0)) 3, none, 0⟩]
def L47r14 : List AOp := [
  ⟨(some 49), .move (.const (.int .i64 0)), none, 0⟩]
def L47r15 : List AOp := [
  ⟨(some 50), .binOp .lss 3 (.tmp 49) (.const (.int .i64 4)) 3, none, 0⟩]
def L47r16 : List AOp := [
  ⟨(some 51), .move (.tmp 49), none, 0⟩,
  ⟨(some 8), .assign (.tmp 51), none, 0⟩]
def L47r17 : List AOp := [
  ⟨(some 52), .move (.tmp 8), none, 0⟩,
  ⟨(some 53), .move (.tmp 8), none, 0⟩,
  ⟨(some 54), .indexAddr 88 (.tmp 7) (.tmp 53), none, 0⟩,
  ⟨(some 55), .load 5 (.tmp 54), none, 0⟩,
  ⟨(some 56), .call { callee := .value (.func 38), args := #[.tmp 55], argTypes := #[5] }, none, 0⟩,
  ⟨(some 57), .indexAddr 88 (.tmp 7) (.tmp 52), none, 0⟩,
  ⟨none, .store 5 (.tmp 57) (.tmp 56), none, 0⟩]
def L47r18 : List AOp := [
  ⟨(some 58), .binOp .add 3 (.tmp 49) (.const (.int .i64 1)) 3, none, 0⟩,
  ⟨(some 49), .move (.tmp 58), none, 0⟩]
def L47r19 : List AOp := [
  ⟨(some 59), .move (.tmp 6), none, 0⟩,
  ⟨(some 60), .binOp .rem 3 (.tmp 59) (.const (.int .i64 8)) 3, none, 0⟩,
  ⟨(some 61), .binOp .eql 3 (.tmp 60) (.const (.int .i64 0)) 3, none, 0⟩]
def L47r20 : List AOp := [
  ⟨(some 62), .indexAddr 88 (.tmp 7) (.const (.int .i64 0)), none, 0⟩,
  ⟨(some 63), .load 5 (.tmp 62), none, 0⟩,
  ⟨(some 64), .move (.tmp 5), none, 0⟩,
  ⟨(some 65), .binOp .xor 5 (.tmp 63) (.tmp 64) 5, none, 0⟩,
  ⟨(some 66), .indexAddr 88 (.tmp 7) (.const (.int .i64 0)), none, 0⟩,
  ⟨none, .store 5 (.tmp 66) (.tmp 65), none, 0⟩]
def L47r21 : List AOp := [
  ⟨(some 67), .move (.tmp 5), none, 0⟩,
  ⟨(some 68), .call { callee := .value (.func 25), args := #[.tmp 67, .const (.int .u8 2)], argTypes := #[5, 5] }, none, 0⟩,
  ⟨(some 5), .assign (.tmp 68), none, 0⟩]
def L47r22 : List AOp := [
  ⟨(some 69), .move (.const (.int .i64 0)), none, 0⟩]
def L47r23 : List AOp := [
  ⟨(some 70), .binOp .lss 3 (.tmp 69) (.const (.int .i64 4)) 3, none, 0⟩]
def L47r24 : List AOp := [
  ⟨(some 71), .move (.tmp 69), none, 0⟩,
  ⟨(some 9), .assign (.tmp 71), none, 0⟩]
def L47r25 : List AOp := [
  ⟨(some 72), .move (.tmp 6), none, 0⟩,
  ⟨(some 73), .move (.tmp 9), none, 0⟩,
  ⟨(some 74), .move (.tmp 6), none, 0⟩,
  ⟨(some 75), .binOp .sub 3 (.tmp 74) (.const (.int .i64 8)) 3, none, 4⟩,
  ⟨(some 76), .move (.tmp 9), none, 0⟩,
  ⟨(some 77), .indexAddr 89 (.tmp 4) (.tmp 75), none, 12⟩,
  ⟨(some 78), .indexAddr 88 (.tmp 77) (.tmp 76), none, 60⟩,
  ⟨(some 79), .load 5 (.tmp 78), none, 124⟩,
  ⟨(some 80), .move (.tmp 9), none, 0⟩,
  ⟨(some 81), .indexAddr 88 (.tmp 7) (.tmp 80), none, 256⟩,
  ⟨(some 82), .load 5 (.tmp 81), none, 768⟩,
  ⟨(some 83), .binOp .xor 5 (.tmp 79) (.tmp 82) 5, none, 2044⟩,
  ⟨(some 84), .indexAddr 89 (.tmp 4) (.tmp 72), none, 1⟩,
  ⟨(some 85), .indexAddr 88 (.tmp 84) (.tmp 73), none, 1267650600228229401496703213567⟩,
  ⟨none, .store 5 (.tmp 85) (.tmp 83), none, 1267650600228229401496703221759⟩]
def L47r26 : List AOp := [
  ⟨(some 86), .binOp .add 3 (.tmp 69) (.const (.int .i64 1)) 3, none, 0⟩,
  ⟨(some 69), .move (.tmp 86), none, 0⟩]
def L47r27 : List AOp := [
  ⟨(some 87), .binOp .add 3 (.tmp 17) (.const (.int .i64 1)) 3, none, 0⟩,
  ⟨(some 17), .move (.tmp 87), none, 0⟩]
def L47r28 : List AOp := [
  ⟨(some 88), .makeSlice 56 (.const (.int .i64 15)) (.const (.int .i64 15)), none, 0⟩,
  ⟨(some 10), .assign (.tmp 88), none, 0⟩]
def L47r29 : List AOp := [
  ⟨(some 89), .move (.tmp 10), none, 0⟩,
  ⟨(some 90), .call { callee := .builtin .len, args := #[.tmp 89], argTypes := #[56] }, none, 0⟩,
  ⟨(some 91), .move (.const (.int .i64 0)), none, 0⟩]
def L47r30 : List AOp := [
  ⟨(some 92), .binOp .lss 3 (.tmp 91) (.tmp 90) 3, none, 0⟩]
def L47r31 : List AOp := [
  ⟨(some 93), .move (.tmp 91), none, 0⟩,
  ⟨(some 11), .assign (.tmp 93), none, 0⟩]
def L47r32 : List AOp := [
  ⟨(some 94), .move (.const (.int .i64 0)), none, 0⟩]
def L47r33 : List AOp := [
  ⟨(some 95), .binOp .lss 3 (.tmp 94) (.const (.int .i64 16)) 3, none, 0⟩]
def L47r34 : List AOp := [
  ⟨(some 96), .move (.tmp 94), none, 0⟩,
  ⟨(some 12), .assign (.tmp 96), none, 0⟩]
def L47r35 : List AOp := [
  ⟨(some 97), .move (.tmp 10), none, 0⟩,
  ⟨(some 98), .move (.tmp 11), none, 0⟩,
  ⟨(some 99), .move (.tmp 12), none, 0⟩,
  ⟨(some 100), .move (.tmp 11), none, 0⟩,
  ⟨(some 101), .binOp .mul 3 (.const (.int .i64 4)) (.tmp 100) 3, none, 8⟩,
  ⟨(some 102), .move (.tmp 12), none, 0⟩,
  ⟨(some 103), .binOp .quo 3 (.tmp 102) (.const (.int .i64 4)) 3, none, 32⟩,
  ⟨(some 104), .binOp .add 3 (.tmp 101) (.tmp 103) 3, none, 120⟩,
  ⟨(some 105), .move (.tmp 12), none, 0⟩,
  ⟨(some 106), .binOp .rem 3 (.tmp 105) (.const (.int .i64 4)) 3, none, 256⟩,
  ⟨(some 107), .indexAddr 89 (.tmp 4) (.tmp 104), none, 248⟩,
  ⟨(some 108), .indexAddr 88 (.tmp 107) (.tmp 106), none, 2040⟩,
  ⟨(some 109), .load 5 (.tmp 108), none, 4088⟩,
  ⟨(some 110), .indexAddr 56 (.tmp 97) (.tmp 98), none, 3⟩,
  ⟨(some 111), .indexAddr 22 (.tmp 110) (.tmp 99), none, 1267650600228229401496703221759⟩,
  ⟨none, .store 5 (.tmp 111) (.tmp 109), none, 1267650600228229401496703238143⟩]
def L47r36 : List AOp := [
  ⟨(some 112), .binOp .add 3 (.tmp 94) (.const (.int .i64 1)) 3, none, 0⟩,
  ⟨(some 94), .move (.tmp 112), none, 0⟩]
def L47r37 : List AOp := [
  ⟨(some 113), .binOp .add 3 (.tmp 91) (.const (.int .i64 1)) 3, none, 0⟩,
  ⟨(some 91), .move (.tmp 113), none, 0⟩]
def L47r38 : List AOp := [
  ⟨(some 114), .move (.tmp 10), none, 0⟩,
  ⟨(some 2), .assign (.tmp 114), none, 0⟩,
  ⟨(some 3), .assign (.const .nilIface), none, 0⟩]
def L47 : LC := (.seq (.region L47r0) (.seq (.seq (.region L47r1) (.cond (.tmp 15) (.seq (.region L47r2) .ret) .skip)) (.seq (.region L47r3) (.seq (.region L47r4) (.seq (.seq (.region L47r5) (.block 0 (.loop (.seq (.region L47r6) (.seq (.cond (.tmp 18) .skip (.exit 0)) (.seq (.block 1 (.seq (.region L47r7) (.seq (.seq (.region L47r8) (.cond (.tmp 21) (.seq (.region L47r9) (.exit 1)) .skip)) (.seq (.region L47r10) (.seq (.seq (.region L47r11) (.cond (.tmp 36) (.region L47r12) .skip)) (.seq (.seq (.region L47r13) (.cond (.tmp 48) (.seq (.region L47r14) (.block 2 (.loop (.seq (.region L47r15) (.seq (.cond (.tmp 50) .skip (.exit 2)) (.seq (.block 3 (.seq (.region L47r16) (.region L47r17))) (.region L47r18))))))) .skip)) (.seq (.seq (.region L47r19) (.cond (.tmp 61) (.seq (.region L47r20) (.region L47r21)) .skip)) (.seq (.region L47r22) (.block 4 (.loop (.seq (.region L47r23) (.seq (.cond (.tmp 70) .skip (.exit 4)) (.seq (.block 5 (.seq (.region L47r24) (.regionD L47r25))) (.region L47r26)))))))))))))) (.region L47r27))))))) (.seq (.region L47r28) (.seq (.seq (.region L47r29) (.block 6 (.loop (.seq (.region L47r30) (.seq (.cond (.tmp 92) .skip (.exit 6)) (.seq (.block 7 (.seq (.region L47r31) (.seq (.region L47r32) (.block 8 (.loop (.seq (.region L47r33) (.seq (.cond (.tmp 95) .skip (.exit 8)) (.seq (.block 9 (.seq (.region L47r34) (.regionD L47r35))) (.region L47r36))))))))) (.region L47r37))))))) (.seq (.region L47r38) .ret))))))))
theorem nt47 : Try.f47.ntmps = 115 := by kernel_rfl
theorem rs47 : Try.f47.results.toList = [.tmp 2, .tmp 3] := by kernel_rfl
theorem lite47 : Try.f47.body.map (lite okDraw) = some L47 := by kernel_rfl
def L48r0 : List AOp := [
  ⟨(some 4), .assign (.const (.slice none 0 0)), none, 0⟩]
def L48r1 : List AOp := [
  ⟨(some 5), .assign (.const (.slice none 0 0)), none, 0⟩]
def L48r2 : List AOp := [
  ⟨(some 6), .assign (.const (.int .u8 1)), none, 0⟩]
def L48r3 : List AOp := [
  ⟨(some 7), .assign (.const (.int .i64 0)), none, 0⟩]
def L48r4 : List AOp := [
  ⟨(some 15), .move (.tmp 7), none, 0⟩,
  ⟨(some 16), .binOp .lss 3 (.tmp 15) (.const (.int .i64 60)) 3, none, 0⟩]
def L48r6 : List AOp := [
  ⟨(some 19), .move (.tmp 7), none, 0⟩,
  ⟨(some 20), .binOp .lss 3 (.tmp 19) (.const (.int .i64 8)) 3, none, 0⟩]
def L48r7 : List AOp := [
  ⟨(some 21), .move (.tmp 5), none, 0⟩,
  ⟨(some 22), .move (.tmp 1), none, 0⟩,
  ⟨(some 23), .move (.tmp 7), none, 0⟩,
  ⟨(some 24), .binOp .mul 3 (.const (.int .i64 4)) (.tmp 23) 3, none, 0⟩,
  ⟨(some 25), .move (.tmp 7), none, 0⟩,
  ⟨(some 26), .binOp .mul 3 (.const (.int .i64 4)) (.tmp 25) 3, none, 0⟩,
  ⟨(some 27), .binOp .add 3 (.tmp 26) (.const (.int .i64 4)) 3, none, 0⟩,
  ⟨(some 28), .slice 27 (.tmp 22) (some (.tmp 24)) (some (.tmp 27)) none, none, 0⟩,
  ⟨(some 29), .buildSlice 85 1 #[(0, .tmp 28)], none, 0⟩,
  ⟨(some 30), .call { callee := .builtin .append, args := #[.tmp 21, .tmp 29], argTypes := #[85, 85] }, none, 0⟩,
  ⟨(some 5), .assign (.tmp 30), none, 0⟩]
def L48r8 : List AOp := [
  ⟨(some 31), .buildSlice 27 0 #[], none, 0⟩,
  ⟨(some 32), .move (.tmp 5), none, 0⟩,
  ⟨(some 33), .move (.tmp 7), none, 0⟩,
  ⟨(some 34), .binOp .sub 3 (.tmp 33) (.const (.int .i64 1)) 3, none, 0⟩,
  ⟨(some 35), .indexAddr 85 (.tmp 32) (.tmp 34), none, 0⟩,
  ⟨(some 36), .load 27 (.tmp 35), none, 0⟩,
  ⟨(some 37), .call { callee := .builtin .append, args := #[.tmp 31, .tmp 36], argTypes := #[27, 27] }, none, 0⟩,
  ⟨(some 8), .assign (.tmp 37), none, 0⟩]
def L48r9 : List AOp := [
  ⟨(some 38), .move (.tmp 7), none, 0⟩,
  ⟨(some 39), .binOp .rem 3 (.tmp 38) (.const (.int .i64 8)) 3, none, 0⟩,
  ⟨(some 40), .binOp .eql 3 (.tmp 39) (.const (.int .i64 0)) 3, none, 0⟩]
def L48r10 : List AOp := [
  ⟨(some 41), .move (.tmp 0), none, 0⟩,
  ⟨(some 42), .move (.tmp 8), none, 0⟩,
  ⟨(some 43), .indexAddr 27 (.tmp 42) (.const (.int .i64 1)), none, 2⟩,
  ⟨(some 44), .load 5 (.tmp 43), none, 6⟩,
  ⟨(some 45), .indexAddr 27 (.tmp 41) (.tmp 44), none, 15⟩,
  ⟨(some 46), .load 5 (.tmp 45), none, 31⟩,
  ⟨(some 47), .move (.tmp 6), none, 0⟩,
  ⟨(some 48), .binOp .xor 5 (.tmp 46) (.tmp 47) 5, none, 127⟩,
  ⟨(some 49), .move (.tmp 0), none, 0⟩,
  ⟨(some 50), .move (.tmp 8), none, 0⟩,
  ⟨(some 51), .indexAddr 27 (.tmp 50) (.const (.int .i64 2)), none, 512⟩,
  ⟨(some 52), .load 5 (.tmp 51), none, 1536⟩,
  ⟨(some 53), .indexAddr 27 (.tmp 49) (.tmp 52), none, 3840⟩,
  ⟨(some 54), .load 5 (.tmp 53), none, 7936⟩,
  ⟨(some 55), .move (.tmp 0), none, 0⟩,
  ⟨(some 56), .move (.tmp 8), none, 0⟩,
  ⟨(some 57), .indexAddr 27 (.tmp 56) (.const (.int .i64 3)), none, 32768⟩,
  ⟨(some 58), .load 5 (.tmp 57), none, 98304⟩,
  ⟨(some 59), .indexAddr 27 (.tmp 55) (.tmp 58), none, 245760⟩,
  ⟨(some 60), .load 5 (.tmp 59), none, 507904⟩,
  ⟨(some 61), .move (.tmp 0), none, 0⟩,
  ⟨(some 62), .move (.tmp 8), none, 0⟩,
  ⟨(some 63), .indexAddr 27 (.tmp 62) (.const (.int .i64 0)), none, 2097152⟩,
  ⟨(some 64), .load 5 (.tmp 63), none, 6291456⟩,
  ⟨(some 65), .indexAddr 27 (.tmp 61) (.tmp 64), none, 15728640⟩,
  ⟨(some 66), .load 5 (.tmp 65), none, 32505856⟩,
  ⟨(some 67), .buildSlice 27 4 #[(0, .tmp 48), (1, .tmp 54), (2, .tmp 60), (3, .tmp 66)], none, 1267650600228229401496770314239⟩,
  ⟨(some 8), .assign (.tmp 67), none, 1267650600228229401496837423103⟩]
def L48r11 : List AOp := [
  ⟨(some 68), .move (.tmp 6), none, 0⟩,
  ⟨(some 69), .call { callee := .value (.func 26), args := #[.tmp 68, .const (.int .u8 2)], argTypes := #[5, 5] }, none, 0⟩,
  ⟨(some 6), .assign (.tmp 69), none, 0⟩]
def L48r12 : List AOp := [
  ⟨(some 70), .move (.tmp 7), none, 0⟩,
  ⟨(some 71), .binOp .rem 3 (.tmp 70) (.const (.int .i64 8)) 3, none, 0⟩,
  ⟨(some 72), .binOp .eql 3 (.tmp 71) (.const (.int .i64 4)) 3, none, 0⟩]
def L48r13 : List AOp := [
  ⟨(some 73), .move (.tmp 0), none, 0⟩,
  ⟨(some 74), .move (.tmp 8), none, 0⟩,
  ⟨(some 75), .indexAddr 27 (.tmp 74) (.const (.int .i64 0)), none, 2⟩,
  ⟨(some 76), .load 5 (.tmp 75), none, 6⟩,
  ⟨(some 77), .indexAddr 27 (.tmp 73) (.tmp 76), none, 15⟩,
  ⟨(some 78), .load 5 (.tmp 77), none, 31⟩,
  ⟨(some 79), .move (.tmp 0), none, 0⟩,
  ⟨(some 80), .move (.tmp 8), none, 0⟩,
  ⟨(some 81), .indexAddr 27 (.tmp 80) (.const (.int .i64 1)), none, 128⟩,
  ⟨(some 82), .load 5 (.tmp 81), none, 384⟩,
  ⟨(some 83), .indexAddr 27 (.tmp 79) (.tmp 82), none, 960⟩,
  ⟨(some 84), .load 5 (.tmp 83), none, 1984⟩,
  ⟨(some 85), .move (.tmp 0), none, 0⟩,
  ⟨(some 86), .move (.tmp 8), none, 0⟩,
  ⟨(some 87), .indexAddr 27 (.tmp 86) (.const (.int .i64 2)), none, 8192⟩,
  ⟨(some 88), .load 5 (.tmp 87), none, 24576⟩,
  ⟨(some 89), .indexAddr 27 (.tmp 85) (.tmp 88), none, 61440⟩,
  ⟨(some 90), .load 5 (.tmp 89), none, 126976⟩,
  ⟨(some 91), .move (.tmp 0), none, 0⟩,
  ⟨(some 92), .move (.tmp 8), none, 0⟩,
  ⟨(some 93), .indexAddr 27 (.tmp 92) (.const (.int .i64 3)), none, 524288⟩,
  ⟨(some 94), .load 5 (.tmp 93), none, 1572864⟩,
  ⟨(some 95), .indexAddr 27 (.tmp 91) (.tmp 94), none, 3932160⟩,
  ⟨(some 96), .load 5 (.tmp 95), none, 8126464⟩,
  ⟨(some 97), .buildSlice 27 4 #[(0, .tmp 78), (1, .tmp 84), (2, .tmp 90), (3, .tmp 96)], none, 1267650600228229401496719982591⟩,
  ⟨(some 8), .assign (.tmp 97), none, 1267650600228229401496736759807⟩]
def L48r14 : List AOp := [
  ⟨(some 9), .assign (.const (.slice none 0 0)), none, 0⟩]
def L48r15 : List AOp := [
  ⟨(some 10), .assign (.const (.int .i64 0)), none, 0⟩]
def L48r16 : List AOp := [
  ⟨(some 98), .move (.tmp 10), none, 0⟩,
  ⟨(some 99), .binOp .lss 3 (.tmp 98) (.const (.int .i64 4)) 3, none, 0⟩]
def L48r18 : List AOp := [
  ⟨(some 102), .move (.tmp 9), none, 0⟩,
  ⟨(some 103), .move (.tmp 8), none, 0⟩,
  ⟨(some 104), .move (.tmp 10), none, 0⟩,
  ⟨(some 105), .indexAddr 27 (.tmp 103) (.tmp 104), none, 6⟩,
  ⟨(some 106), .load 5 (.tmp 105), none, 14⟩,
  ⟨(some 107), .move (.tmp 5), none, 0⟩,
  ⟨(some 108), .move (.tmp 7), none, 0⟩,
  ⟨(some 109), .binOp .sub 3 (.tmp 108) (.const (.int .i64 8)) 3, none, 64⟩,
  ⟨(some 110), .indexAddr 85 (.tmp 107) (.tmp 109), none, 224⟩,
  ⟨(some 111), .load 27 (.tmp 110), none, 480⟩,
  ⟨(some 112), .move (.tmp 10), none, 0⟩,
  ⟨(some 113), .indexAddr 27 (.tmp 111) (.tmp 112), none, 2016⟩,
  ⟨(some 114), .load 5 (.tmp 113), none, 4064⟩,
  ⟨(some 115), .binOp .xor 5 (.tmp 106) (.tmp 114) 5, none, 8190⟩,
  ⟨(some 116), .buildSlice 27 1 #[(0, .tmp 115)], none, 16382⟩,
  ⟨(some 117), .call { callee := .builtin .append, args := #[.tmp 102, .tmp 116], argTypes := #[27, 27] }, none, 1267650600228229401496703238143⟩,
  ⟨(some 9), .assign (.tmp 117), none, 1267650600228229401496703270911⟩]
def L48r17 : List AOp := [
  ⟨(some 100), .move (.tmp 10), none, 0⟩,
  ⟨(some 101), .binOp .add 3 (.tmp 100) (.const (.int .i64 1)) 3, none, 0⟩,
  ⟨(some 10), .assign (.tmp 101), none, 0⟩]
def L48r19 : List AOp := [
  ⟨(some 118), .move (.tmp 5), none, 0⟩,
  ⟨(some 119), .move (.tmp 9), none, 0⟩,
  ⟨(some 120), .buildSlice 85 1 #[(0, .tmp 119)], none, 0⟩,
  ⟨(some 121), .call { callee := .builtin .append, args := #[.tmp 118, .tmp 120], argTypes := #[85, 85] }, none, 0⟩,
  ⟨(some 5), .assign (.tmp 121), none, 0⟩]
def L48r5 : List AOp := [
  ⟨(some 17), .move (.tmp 7), none, 0⟩,
  ⟨(some 18), .binOp .add 3 (.tmp 17) (.const (.int .i64 1)) 3, none, 0⟩,
  ⟨(some 7), .assign (.tmp 18), none, 0⟩]
def L48r20 : List AOp := [
  ⟨(some 11), .assign (.const (.slice none 0 0)), none, 0⟩]
def L48r21 : List AOp := [
  ⟨(some 12), .assign (.const (.int .i64 0)), none, 0⟩]
def L48r22 : List AOp := [
  ⟨(some 122), .move (.tmp 12), none, 0⟩,
  ⟨(some 123), .binOp .lss 3 (.tmp 122) (.const (.int .i64 15)) 3, none, 0⟩]
def L48r24 : List AOp := [
  ⟨(some 13), .alloc 22, none, 0⟩]
def L48r25 : List AOp := [
  ⟨(some 14), .assign (.const (.int .i64 0)), none, 0⟩]
def L48r26 : List AOp := [
  ⟨(some 126), .move (.tmp 14), none, 0⟩,
  ⟨(some 127), .binOp .lss 3 (.tmp 126) (.const (.int .i64 16)) 3, none, 0⟩]
def L48r28 : List AOp := [
  ⟨(some 130), .move (.tmp 14), none, 0⟩,
  ⟨(some 131), .move (.tmp 5), none, 0⟩,
  ⟨(some 132), .move (.tmp 12), none, 0⟩,
  ⟨(some 133), .binOp .mul 3 (.const (.int .i64 4)) (.tmp 132) 3, none, 0⟩,
  ⟨(some 134), .move (.tmp 14), none, 0⟩,
  ⟨(some 135), .binOp .quo 3 (.tmp 134) (.const (.int .i64 4)) 3, none, 0⟩,
  ⟨(some 136), .binOp .add 3 (.tmp 133) (.tmp 135) 3, none, 0⟩,
  ⟨(some 137), .indexAddr 85 (.tmp 131) (.tmp 136), none, 0⟩,
  ⟨(some 138), .load 27 (.tmp 137), none, 0⟩,
  ⟨(some 139), .move (.tmp 14), none, 0⟩,
  ⟨(some 140), .binOp .rem 3 (.tmp 139) (.const (.int .i64 4)) 3, none, 0⟩,
  ⟨(some 141), .indexAddr 27 (.tmp 138) (.tmp 140), none, 0⟩,
  ⟨(some 142), .load 5 (.tmp 141), none, 0⟩,
  ⟨(some 143), .indexAddr 22 (.tmp 13) (.tmp 130), none, 0⟩,
  ⟨none, .store 5 (.tmp 143) (.tmp 142), none, 0⟩]
def L48r27 : List AOp := [
  ⟨(some 128), .move (.tmp 14), none, 0⟩,
  ⟨(some 129), .binOp .add 3 (.tmp 128) (.const (.int .i64 1)) 3, none, 0⟩,
  ⟨(some 14), .assign (.tmp 129), none, 0⟩]
def L48r29 : List AOp := [
  ⟨(some 144), .move (.tmp 11), none, 0⟩,
  ⟨(some 145), .load 22 (.tmp 13), none, 0⟩,
  ⟨(some 146), .buildSlice 56 1 #[(0, .tmp 145)], none, 0⟩,
  ⟨(some 147), .call { callee := .builtin .append, args := #[.tmp 144, .tmp 146], argTypes := #[56, 56] }, none, 0⟩,
  ⟨(some 11), .assign (.tmp 147), none, 0⟩]
def L48r23 : List AOp := [
  ⟨(some 124), .move (.tmp 12), none, 0⟩,
  ⟨(some 125), .binOp .add 3 (.tmp 124) (.const (.int .i64 1)) 3, none, 0⟩,
  ⟨(some 12), .assign (.tmp 125), none, 0⟩]
def L48r30 : List AOp := [
  ⟨(some 148), .move (.tmp 11), none, 0⟩,
  ⟨(some 4), .assign (.tmp 148), none, 0⟩]
def L48 : LC := (.seq (.region L48r0) (.seq (.region L48r1) (.seq (.region L48r2) (.seq (.seq (.region L48r3) (.block 0 (.loop (.seq (.seq (.region L48r4) (.cond (.tmp 16) .skip (.exit 0))) (.seq (.block 1 (.seq (.seq (.region L48r6) (.cond (.tmp 20) (.seq (.region L48r7) (.exit 1)) .skip)) (.seq (.region L48r8) (.seq (.seq (.region L48r9) (.cond (.tmp 40) (.seq (.regionD L48r10) (.region L48r11)) .skip)) (.seq (.seq (.region L48r12) (.cond (.tmp 72) (.regionD L48r13) .skip)) (.seq (.region L48r14) (.seq (.seq (.region L48r15) (.block 2 (.loop (.seq (.seq (.region L48r16) (.cond (.tmp 99) .skip (.exit 2))) (.seq (.block 3 (.regionD L48r18)) (.region L48r17)))))) (.region L48r19)))))))) (.region L48r5)))))) (.seq (.region L48r20) (.seq (.seq (.region L48r21) (.block 4 (.loop (.seq (.seq (.region L48r22) (.cond (.tmp 123) .skip (.exit 4))) (.seq (.block 5 (.seq (.region L48r24) (.seq (.seq (.region L48r25) (.block 6 (.loop (.seq (.seq (.region L48r26) (.cond (.tmp 127) .skip (.exit 6))) (.seq (.block 7 (.region L48r28)) (.region L48r27)))))) (.region L48r29)))) (.region L48r23)))))) (.seq (.region L48r30) .ret)))))))
theorem nt48 : Try.f48.ntmps = 149 := by kernel_rfl
theorem rs48 : Try.f48.results.toList = [.tmp 4] := by kernel_rfl
theorem lite48 : Try.f48.body.map (lite okDraw) = some L48 := by kernel_rfl
def L49r0 : List AOp := [
  ⟨(some 0), .assign (.const (.slice none 0 0)), none, 0⟩]
def L49r1 : List AOp := [
  ⟨(some 1), .assign (.const (.slice none 0 0)), none, 0⟩]
def L49r2 : List AOp := [
  ⟨(some 2), .assign (.const (.int .i64 0)), none, 0⟩]
def L49r3 : List AOp := [
  ⟨(some 3), .move (.tmp 2), none, 0⟩,
  ⟨(some 4), .binOp .lss 3 (.tmp 3) (.const (.int .i64 256)) 3, none, 0⟩]
def L49r5 : List AOp := [
  ⟨(some 7), .move (.tmp 1), none, 0⟩,
  ⟨(some 8), .move (.tmp 2), none, 0⟩,
  ⟨(some 9), .convert 3 5 (.tmp 8), none, 0⟩,
  ⟨(some 10), .call { callee := .value (.func 39), args := #[.tmp 9], argTypes := #[5] }, none, 0⟩,
  ⟨(some 11), .buildSlice 27 1 #[(0, .tmp 10)], none, 0⟩,
  ⟨(some 12), .call { callee := .builtin .append, args := #[.tmp 7, .tmp 11], argTypes := #[27, 27] }, none, 0⟩,
  ⟨(some 1), .assign (.tmp 12), none, 0⟩]
def L49r4 : List AOp := [
  ⟨(some 5), .move (.tmp 2), none, 0⟩,
  ⟨(some 6), .binOp .add 3 (.tmp 5) (.const (.int .i64 1)) 3, none, 0⟩,
  ⟨(some 2), .assign (.tmp 6), none, 0⟩]
def L49r6 : List AOp := [
  ⟨(some 13), .move (.tmp 1), none, 0⟩,
  ⟨(some 0), .assign (.tmp 13), none, 0⟩]
def L49 : LC := (.seq (.region L49r0) (.seq (.region L49r1) (.seq (.seq (.region L49r2) (.block 0 (.loop (.seq (.seq (.region L49r3) (.cond (.tmp 4) .skip (.exit 0))) (.seq (.block 1 (.region L49r5)) (.region L49r4)))))) (.seq (.region L49r6) .ret))))
theorem nt49 : Try.f49.ntmps = 14 := by kernel_rfl
theorem rs49 : Try.f49.results.toList = [.tmp 0] := by kernel_rfl
theorem lite49 : Try.f49.body.map (lite okDraw) = some L49 := by kernel_rfl
def L50r0 : List AOp := [
  ⟨(some 3), .box 22 (.tmp 1), none, 0⟩,
  ⟨(some 4), .alloc 22, none, 0⟩,
  ⟨(some 5), .assign (.const .nilIface), none, 0⟩]
def L50r1 : List AOp := [
  ⟨(some 12), .move (.tmp 0), none, 0⟩,
  ⟨(some 13), .call { callee := .value (.func 47), args := #[.tmp 12], argTypes := #[27] }, none, 0⟩,
  ⟨(some 11), .move (.tmp 13), none, 0⟩,
  ⟨(some 14), .extract (.tmp 11) 0, none, 0⟩,
  ⟨(some 15), .extract (.tmp 11) 1, none, 0⟩,
  ⟨(some 6), .assign (.tmp 14), none, 0⟩,
  ⟨(some 7), .assign (.tmp 15), none, 0⟩]
def L50r2 : List AOp := [
  ⟨(some 16), .move (.tmp 7), none, 0⟩,
  ⟨(some 17), .binOp .neq 38 (.tmp 16) (.const .nilIface) 38, none, 0⟩]
def L50r3 : List AOp := [
  ⟨(some 18), .build 22 #[], none, 0⟩,
  ⟨(some 19), .move (.tmp 7), none, 0⟩,
  ⟨none, .store 22 (.tmp 4) (.tmp 18), none, 0⟩,
  ⟨(some 5), .assign (.tmp 19), none, 0⟩]
def L50r4 : List AOp := [
  ⟨(some 20), .load 22 (.tmp 3), none, 0⟩,
  ⟨(some 21), .move (.tmp 6), none, 0⟩,
  ⟨(some 22), .indexAddr 56 (.tmp 21) (.const (.int .i64 0)), none, 2⟩,
  ⟨(some 23), .load 22 (.tmp 22), none, 6⟩,
  ⟨(some 24), .call { callee := .value (.func 69), args := #[.tmp 20, .tmp 23], argTypes := #[22, 22] }, none, 15⟩,
  ⟨(some 8), .alloc 22, none, 0⟩,
  ⟨none, .store 22 (.tmp 8) (.tmp 24), none, 1267650600228229401496703205439⟩]
def L50r5 : List AOp := [
  ⟨(some 9), .assign (.const (.int .i64 1)), none, 0⟩]
def L50r6 : List AOp := [
  ⟨(some 25), .move (.tmp 9), none, 0⟩,
  ⟨(some 26), .binOp .leq 3 (.tmp 25) (.const (.int .i64 14)) 3, none, 0⟩]
def L50r8 : List AOp := [
  ⟨(some 29), .move (.const (.int .i64 0)), none, 0⟩]
def L50r9 : List AOp := [
  ⟨(some 30), .binOp .lss 3 (.tmp 29) (.const (.int .i64 16)) 3, none, 0⟩]
def L50r10 : List AOp := [
  ⟨(some 31), .move (.tmp 29), none, 0⟩,
  ⟨(some 10), .assign (.tmp 31), none, 0⟩]
def L50r11 : List AOp := [
  ⟨(some 32), .move (.tmp 10), none, 0⟩,
  ⟨(some 33), .move (.tmp 10), none, 0⟩,
  ⟨(some 34), .indexAddr 22 (.tmp 8) (.tmp 33), none, 0⟩,
  ⟨(some 35), .load 5 (.tmp 34), none, 0⟩,
  ⟨(some 36), .call { callee := .value (.func 38), args := #[.tmp 35], argTypes := #[5] }, none, 0⟩,
  ⟨(some 37), .indexAddr 22 (.tmp 8) (.tmp 32), none, 0⟩,
  ⟨none, .store 5 (.tmp 37) (.tmp 36), none, 0⟩]
def L50r12 : List AOp := [
  ⟨(some 38), .binOp .add 3 (.tmp 29) (.const (.int .i64 1)) 3, none, 0⟩,
  ⟨(some 29), .move (.tmp 38), none, 0⟩]
def L50r13 : List AOp := [
  ⟨(some 39), .load 22 (.tmp 8), none, 0⟩,
  ⟨(some 40), .call { callee := .value (.func 23), args := #[.tmp 39], argTypes := #[22] }, none, 0⟩,
  ⟨none, .store 22 (.tmp 8) (.tmp 40), none, 0⟩]
def L50r14 : List AOp := [
  ⟨(some 41), .move (.tmp 9), none, 0⟩,
  ⟨(some 42), .binOp .lss 3 (.tmp 41) (.const (.int .i64 14)) 3, none, 0⟩]
def L50r15 : List AOp := [
  ⟨(some 43), .load 22 (.tmp 8), none, 0⟩,
  ⟨(some 44), .call { callee := .value (.func 36), args := #[.tmp 43], argTypes := #[22] }, none, 0⟩,
  ⟨none, .store 22 (.tmp 8) (.tmp 44), none, 0⟩]
def L50r16 : List AOp := [
  ⟨(some 45), .load 22 (.tmp 8), none, 0⟩,
  ⟨(some 46), .move (.tmp 6), none, 0⟩,
  ⟨(some 47), .move (.tmp 9), none, 0⟩,
  ⟨(some 48), .indexAddr 56 (.tmp 46) (.tmp 47), none, 6⟩,
  ⟨(some 49), .load 22 (.tmp 48), none, 14⟩,
  ⟨(some 50), .call { callee := .value (.func 69), args := #[.tmp 45, .tmp 49], argTypes := #[22, 22] }, none, 1267650600228229401496703205407⟩,
  ⟨none, .store 22 (.tmp 8) (.tmp 50), none, 1267650600228229401496703205439⟩]
def L50r7 : List AOp := [
  ⟨(some 27), .move (.tmp 9), none, 0⟩,
  ⟨(some 28), .binOp .add 3 (.tmp 27) (.const (.int .i64 1)) 3, none, 0⟩,
  ⟨(some 9), .assign (.tmp 28), none, 0⟩]
def L50r17 : List AOp := [
  ⟨(some 51), .load 22 (.tmp 8), none, 0⟩,
  ⟨none, .store 22 (.tmp 4) (.tmp 51), none, 0⟩,
  ⟨(some 5), .assign (.const .nilIface), none, 0⟩]
def L50 : LC := (.seq (.region L50r0) (.seq (.region L50r1) (.seq (.seq (.region L50r2) (.cond (.tmp 17) (.seq (.region L50r3) .ret) .skip)) (.seq (.regionD L50r4) (.seq (.seq (.region L50r5) (.block 0 (.loop (.seq (.seq (.region L50r6) (.cond (.tmp 26) .skip (.exit 0))) (.seq (.block 1 (.seq (.seq (.region L50r8) (.block 2 (.loop (.seq (.region L50r9) (.seq (.cond (.tmp 30) .skip (.exit 2)) (.seq (.block 3 (.seq (.region L50r10) (.region L50r11))) (.region L50r12))))))) (.seq (.region L50r13) (.seq (.seq (.region L50r14) (.cond (.tmp 42) (.region L50r15) .skip)) (.regionD L50r16))))) (.region L50r7)))))) (.seq (.region L50r17) .ret))))))
theorem nt50 : Try.f50.ntmps = 52 := by kernel_rfl
theorem rs50 : Try.f50.results.toList = [.cell 4 22, .tmp 5] := by kernel_rfl
theorem lite50 : Try.f50.body.map (lite okDraw) = some L50 := by kernel_rfl
def L51r0 : List AOp := [
  ⟨(some 5), .box 22 (.tmp 2), none, 0⟩,
  ⟨(some 6), .alloc 22, none, 0⟩]
def L51r1 : List AOp := [
  ⟨(some 12), .move (.tmp 0), none, 0⟩,
  ⟨(some 13), .move (.tmp 1), none, 0⟩,
  ⟨(some 14), .call { callee := .value (.func 48), args := #[.tmp 12, .tmp 13], argTypes := #[27, 27] }, none, 0⟩,
  ⟨(some 7), .assign (.tmp 14), none, 0⟩]
def L51r2 : List AOp := [
  ⟨(some 15), .load 22 (.tmp 5), none, 0⟩,
  ⟨(some 8), .alloc 22, none, 0⟩,
  ⟨none, .store 22 (.tmp 8) (.tmp 15), none, 0⟩]
def L51r3 : List AOp := [
  ⟨(some 9), .assign (.const (.int .i64 0)), none, 0⟩]
def L51r4 : List AOp := [
  ⟨(some 16), .move (.tmp 9), none, 0⟩,
  ⟨(some 17), .binOp .lss 3 (.tmp 16) (.const (.int .i64 15)) 3, none, 0⟩]
def L51r6 : List AOp := [
  ⟨(some 20), .move (.tmp 9), none, 0⟩,
  ⟨(some 21), .binOp .gtr 3 (.tmp 20) (.const (.int .i64 0)) 3, none, 0⟩]
def L51r7 : List AOp := [
  ⟨(some 10), .assign (.const (.int .i64 0)), none, 0⟩]
def L51r8 : List AOp := [
  ⟨(some 22), .move (.tmp 10), none, 0⟩,
  ⟨(some 23), .binOp .lss 3 (.tmp 22) (.const (.int .i64 16)) 3, none, 0⟩]
def L51r10 : List AOp := [
  ⟨(some 26), .move (.tmp 10), none, 0⟩,
  ⟨(some 27), .move (.tmp 0), none, 0⟩,
  ⟨(some 28), .move (.tmp 10), none, 0⟩,
  ⟨(some 29), .indexAddr 22 (.tmp 8) (.tmp 28), none, 0⟩,
  ⟨(some 30), .load 5 (.tmp 29), none, 0⟩,
  ⟨(some 31), .indexAddr 27 (.tmp 27) (.tmp 30), none, 0⟩,
  ⟨(some 32), .load 5 (.tmp 31), none, 0⟩,
  ⟨(some 33), .indexAddr 22 (.tmp 8) (.tmp 26), none, 0⟩,
  ⟨none, .store 5 (.tmp 33) (.tmp 32), none, 0⟩]
def L51r9 : List AOp := [
  ⟨(some 24), .move (.tmp 10), none, 0⟩,
  ⟨(some 25), .binOp .add 3 (.tmp 24) (.const (.int .i64 1)) 3, none, 0⟩,
  ⟨(some 10), .assign (.tmp 25), none, 0⟩]
def L51r11 : List AOp := [
  ⟨(some 34), .load 22 (.tmp 8), none, 0⟩,
  ⟨(some 35), .call { callee := .value (.func 24), args := #[.tmp 34], argTypes := #[22] }, none, 0⟩,
  ⟨none, .store 22 (.tmp 8) (.tmp 35), none, 0⟩]
def L51r12 : List AOp := [
  ⟨(some 36), .move (.tmp 9), none, 0⟩,
  ⟨(some 37), .binOp .lss 3 (.tmp 36) (.const (.int .i64 14)) 3, none, 0⟩]
def L51r13 : List AOp := [
  ⟨(some 38), .load 22 (.tmp 8), none, 0⟩,
  ⟨(some 39), .call { callee := .value (.func 37), args := #[.tmp 38], argTypes := #[22] }, none, 0⟩,
  ⟨none, .store 22 (.tmp 8) (.tmp 39), none, 0⟩]
def L51r14 : List AOp := [
  ⟨(some 11), .assign (.const (.int .i64 0)), none, 0⟩]
def L51r15 : List AOp := [
  ⟨(some 40), .move (.tmp 11), none, 0⟩,
  ⟨(some 41), .binOp .lss 3 (.tmp 40) (.const (.int .i64 16)) 3, none, 0⟩]
def L51r17 : List AOp := [
  ⟨(some 44), .move (.tmp 11), none, 0⟩,
  ⟨(some 45), .move (.tmp 11), none, 0⟩,
  ⟨(some 46), .indexAddr 22 (.tmp 8) (.tmp 45), none, 2⟩,
  ⟨(some 47), .load 5 (.tmp 46), none, 6⟩,
  ⟨(some 48), .move (.tmp 7), none, 0⟩,
  ⟨(some 49), .move (.tmp 9), none, 0⟩,
  ⟨(some 50), .move (.tmp 11), none, 0⟩,
  ⟨(some 51), .indexAddr 56 (.tmp 48) (.tmp 49), none, 48⟩,
  ⟨(some 52), .indexAddr 22 (.tmp 51) (.tmp 50), none, 240⟩,
  ⟨(some 53), .load 5 (.tmp 52), none, 496⟩,
  ⟨(some 54), .binOp .xor 5 (.tmp 47) (.tmp 53) 5, none, 1022⟩,
  ⟨(some 55), .indexAddr 22 (.tmp 8) (.tmp 44), none, 1267650600228229401496703207423⟩,
  ⟨none, .store 5 (.tmp 55) (.tmp 54), none, 1267650600228229401496703209471⟩]
def L51r16 : List AOp := [
  ⟨(some 42), .move (.tmp 11), none, 0⟩,
  ⟨(some 43), .binOp .add 3 (.tmp 42) (.const (.int .i64 1)) 3, none, 0⟩,
  ⟨(some 11), .assign (.tmp 43), none, 0⟩]
def L51r5 : List AOp := [
  ⟨(some 18), .move (.tmp 9), none, 0⟩,
  ⟨(some 19), .binOp .add 3 (.tmp 18) (.const (.int .i64 1)) 3, none, 0⟩,
  ⟨(some 9), .assign (.tmp 19), none, 0⟩]
def L51r18 : List AOp := [
  ⟨(some 56), .load 22 (.tmp 8), none, 0⟩,
  ⟨none, .store 22 (.tmp 6) (.tmp 56), none, 0⟩]
def L51 : LC := (.seq (.region L51r0) (.seq (.region L51r1) (.seq (.region L51r2) (.seq (.seq (.region L51r3) (.block 0 (.loop (.seq (.seq (.region L51r4) (.cond (.tmp 17) .skip (.exit 0))) (.seq (.block 1 (.seq (.seq (.region L51r6) (.cond (.tmp 21) (.seq (.seq (.region L51r7) (.block 2 (.loop (.seq (.seq (.region L51r8) (.cond (.tmp 23) .skip (.exit 2))) (.seq (.block 3 (.region L51r10)) (.region L51r9)))))) (.seq (.region L51r11) (.seq (.region L51r12) (.cond (.tmp 37) (.region L51r13) .skip)))) .skip)) (.seq (.region L51r14) (.block 4 (.loop (.seq (.seq (.region L51r15) (.cond (.tmp 41) .skip (.exit 4))) (.seq (.block 5 (.regionD L51r17)) (.region L51r16)))))))) (.region L51r5)))))) (.seq (.region L51r18) .ret)))))
theorem nt51 : Try.f51.ntmps = 57 := by kernel_rfl
theorem rs51 : Try.f51.results.toList = [.cell 6 22] := by kernel_rfl
theorem lite51 : Try.f51.body.map (lite okDraw) = some L51 := by kernel_rfl
def L64r0 : List AOp := [
  ⟨(some 5), .assign (.const (.int .u8 0)), none, 0⟩]
def L64r1 : List AOp := [
  ⟨(some 6), .load 3 (.tmp 2), none, 0⟩,
  ⟨(some 7), .binOp .mul 3 (.const (.int .i64 4)) (.tmp 6) 3, none, 0⟩,
  ⟨(some 8), .load 3 (.tmp 3), none, 0⟩,
  ⟨(some 9), .move (.tmp 0), none, 0⟩,
  ⟨(some 10), .binOp .add 3 (.tmp 8) (.tmp 9) 3, none, 0⟩,
  ⟨(some 11), .binOp .rem 3 (.tmp 10) (.const (.int .i64 4)) 3, none, 0⟩,
  ⟨(some 12), .binOp .add 3 (.tmp 7) (.tmp 11) 3, none, 0⟩,
  ⟨(some 13), .indexAddr 22 (.tmp 1) (.tmp 12), none, 0⟩,
  ⟨(some 14), .load 5 (.tmp 13), none, 0⟩,
  ⟨(some 5), .assign (.tmp 14), none, 0⟩]
def L64 : LC := (.seq (.region L64r0) (.seq (.region L64r1) .ret))
theorem nt64 : Try.f64.ntmps = 15 := by kernel_rfl
theorem rs64 : Try.f64.results.toList = [.tmp 5] := by kernel_rfl
theorem lite64 : Try.f64.body.map (lite okDraw) = some L64 := by kernel_rfl
def L65r0 : List AOp := [
  ⟨(some 4), .assign (.const (.int .u8 0)), none, 0⟩]
def L65r1 : List AOp := [
  ⟨(some 6), .move (.tmp 1), none, 0⟩,
  ⟨(some 7), .convert 3 76 (.tmp 6), none, 0⟩,
  ⟨(some 8), .binOp .and 76 (.tmp 7) (.const (.int .u64 7)) 76, none, 0⟩,
  ⟨(some 5), .assign (.tmp 8), none, 0⟩]
def L65r2 : List AOp := [
  ⟨(some 9), .move (.tmp 0), none, 0⟩,
  ⟨(some 10), .move (.tmp 5), none, 0⟩,
  ⟨(some 11), .binOp .shl 5 (.tmp 9) (.tmp 10) 76, none, 0⟩,
  ⟨(some 12), .move (.tmp 0), none, 0⟩,
  ⟨(some 13), .move (.tmp 5), none, 0⟩,
  ⟨(some 14), .binOp .sub 76 (.const (.int .u64 8)) (.tmp 13) 76, none, 0⟩,
  ⟨(some 15), .binOp .shr 5 (.tmp 12) (.tmp 14) 76, none, 0⟩,
  ⟨(some 16), .binOp .or 5 (.tmp 11) (.tmp 15) 5, none, 0⟩,
  ⟨(some 4), .assign (.tmp 16), none, 0⟩]
def L65 : LC := (.seq (.region L65r0) (.seq (.region L65r1) (.seq (.region L65r2) .ret)))
theorem nt65 : Try.f65.ntmps = 17 := by kernel_rfl
theorem rs65 : Try.f65.results.toList = [.tmp 4] := by kernel_rfl
theorem lite65 : Try.f65.body.map (lite okDraw) = some L65 := by kernel_rfl
def L69r0 : List AOp := [
  ⟨(some 2), .box 22 (.tmp 0), none, 0⟩,
  ⟨(some 3), .box 22 (.tmp 1), none, 0⟩,
  ⟨(some 4), .alloc 22, none, 0⟩]
def L69r1 : List AOp := [
  ⟨(some 6), .move (.const (.int .i64 0)), none, 0⟩]
def L69r2 : List AOp := [
  ⟨(some 7), .binOp .lss 3 (.tmp 6) (.const (.int .i64 16)) 3, none, 0⟩]
def L69r3 : List AOp := [
  ⟨(some 8), .move (.tmp 6), none, 0⟩,
  ⟨(some 5), .assign (.tmp 8), none, 0⟩]
def L69r4 : List AOp := [
  ⟨(some 9), .move (.tmp 5), none, 0⟩,
  ⟨(some 10), .indexAddr 22 (.tmp 2) (.tmp 9), none, 1⟩,
  ⟨(some 11), .load 5 (.tmp 10), none, 3⟩,
  ⟨(some 12), .move (.tmp 5), none, 0⟩,
  ⟨(some 13), .indexAddr 22 (.tmp 3) (.tmp 12), none, 8⟩,
  ⟨(some 14), .load 5 (.tmp 13), none, 24⟩,
  ⟨(some 15), .binOp .xor 5 (.tmp 11) (.tmp 14) 5, none, 1267650600228229401496703205439⟩,
  ⟨(some 16), .indexAddr 22 (.tmp 2) (.tmp 9), none, 1267650600228229401496703205503⟩,
  ⟨none, .store 5 (.tmp 16) (.tmp 15), none, 1267650600228229401496703205631⟩]
def L69r5 : List AOp := [
  ⟨(some 17), .binOp .add 3 (.tmp 6) (.const (.int .i64 1)) 3, none, 0⟩,
  ⟨(some 6), .move (.tmp 17), none, 0⟩]
def L69r6 : List AOp := [
  ⟨(some 18), .load 22 (.tmp 2), none, 0⟩,
  ⟨none, .store 22 (.tmp 4) (.tmp 18), none, 0⟩]
def L69 : LC := (.seq (.region L69r0) (.seq (.seq (.region L69r1) (.block 0 (.loop (.seq (.region L69r2) (.seq (.cond (.tmp 7) .skip (.exit 0)) (.seq (.block 1 (.seq (.region L69r3) (.regionD L69r4))) (.region L69r5))))))) (.seq (.region L69r6) .ret)))
theorem nt69 : Try.f69.ntmps = 19 := by kernel_rfl
theorem rs69 : Try.f69.results.toList = [.cell 4 22] := by kernel_rfl
theorem lite69 : Try.f69.body.map (lite okDraw) = some L69 := by kernel_rfl
end Eng


namespace Eng
open Go Go.Proofs Go.ChangeShapes Go.WideShapes Go.ChangeAt Go.RowKit
def B16 (a : List Int) : Prop := a.length = 16 ∧ ∀ x ∈ a, 0 ≤ x ∧ x < 256
def U8 (n : Int) : Prop := 0 ≤ n ∧ n < 256
theorem B16.at {a : List Int} (h : B16 a) (j : Nat) : U8 (a.getD j 0) := by
  rcases Nat.lt_or_ge j a.length with hj | hj
  · rw [List.getD_eq_getElem?_getD, List.getElem?_eq_getElem hj, Option.getD_some]
    exact h.2 _ (List.getElem_mem hj)
  · rw [List.getD_eq_getElem?_getD, List.getElem?_eq_none hj]
    exact ⟨by decide, by decide⟩
theorem own : ownKnob Try.prog.godebug = none := by kernel_rfl
theorem laidOut : laidOutB Try.prog = true := by kernel_rfl
theorem ct22 : Try.prog.cellTypes Try.prog.depth 22 = some (List.replicate 16 5) := by kernel_rfl
theorem co22 : Try.prog.cellsOf 22 = 16 := by kernel_rfl
theorem B16_of {xs : List Int} (hl : xs.length = 16) (h : ∀ x ∈ xs, IntKind.u8.min ≤ x ∧ x ≤ IntKind.u8.max) : B16 xs :=
  ⟨hl, fun x hx => by
    have := h x hx
    have h0 : IntKind.u8.min = 0 := by decide
    have h1 : IntKind.u8.max = 255 := by decide
    omega⟩
theorem U8_of {x : Int} (h : IntKind.u8.min ≤ x ∧ x ≤ IntKind.u8.max) : U8 x := by
  have h0 : IntKind.u8.min = 0 := by decide
  have h1 : IntKind.u8.max = 255 := by decide
  unfold U8; omega
theorem U8L_of {xs : List Int} (h : ∀ x ∈ xs, IntKind.u8.min ≤ x ∧ x ≤ IntKind.u8.max) : U8L xs := fun x hx => U8_of (h x hx)
theorem len_of {n : Nat} (h : n ≤ maxLen) : n ≤ 9223372036854775807 := by
  have : maxLen = 9223372036854775807 := by decide
  omega
theorem co5 : Try.prog.cellsOf 5 = 1 := by kernel_rfl
end Eng


namespace Eng
open Go
/- Bytes as bit vectors. -/
theorem w8_nat (v : BitVec 8) : IntKind.u8.wrap (v.toNat : Int) = (v.toNat : Int) := wrap_u8 (by omega) (by have := v.isLt; omega)
theorem ofInt8_toNat {x : Int} (h0 : 0 ≤ x) (h1 : x < 256) : (BitVec.ofInt 8 x).toNat = x.toNat := ofInt_toNat h0 (by omega)
theorem ofInt8_bv (v : BitVec 8) : BitVec.ofInt 8 (v.toNat : Int) = v := by
  apply BitVec.eq_of_toNat_eq
  rw [ofInt8_toNat (by omega) (by have := v.isLt; omega)]; simp
theorem bv8_ofInt {x : Int} (h0 : 0 ≤ x) (h1 : x < 256) : ((BitVec.ofInt 8 x).toNat : Int) = x := by
  rw [ofInt8_toNat h0 h1]; omega
theorem andZ_u8 (a b : Int) : andZ .u8 a b = ((BitVec.ofInt 8 a &&& BitVec.ofInt 8 b).toNat : Int) := w8_nat _
theorem orZ_u8 (a b : Int) : orZ .u8 a b = ((BitVec.ofInt 8 a ||| BitVec.ofInt 8 b).toNat : Int) := w8_nat _
theorem xorZ_u8 (a b : Int) : xorZ .u8 a b = ((BitVec.ofInt 8 a ^^^ BitVec.ofInt 8 b).toNat : Int) := w8_nat _
theorem xorZ_u8_bv (a b : BitVec 8) : xorZ .u8 (a.toNat : Int) (b.toNat : Int) = ((a ^^^ b).toNat : Int) := by rw [xorZ_u8, ofInt8_bv, ofInt8_bv]
theorem andZ_u8_bv (a b : BitVec 8) : andZ .u8 (a.toNat : Int) (b.toNat : Int) = ((a &&& b).toNat : Int) := by rw [andZ_u8, ofInt8_bv, ofInt8_bv]
theorem negZ_u8_bv (a : BitVec 8) : IntKind.u8.wrap (0 - (a.toNat : Int)) = ((-a).toNat : Int) := by
  rw [wrap_u8_mod, BitVec.toNat_neg]
  have := a.isLt
  omega
theorem shlZ_u8_bv (a : BitVec 8) (n : Nat) (hn : n < 8) : shlZ .u8 (a.toNat : Int) (n : Int) = ((a <<< n).toNat : Int) := by
  have h : shlZ .u8 (a.toNat : Int) (n : Int) = IntKind.u8.wrap ((a.toNat : Int) * 2 ^ (min (n : Int).toNat 8)) := rfl
  rw [h, wrap_u8_mod, BitVec.toNat_shiftLeft, Nat.shiftLeft_eq, Int.toNat_natCast, Nat.min_eq_left (by omega), Int.natCast_emod, Int.natCast_mul, Int.natCast_pow]
  rfl
theorem shrZ_u8_bv (a : BitVec 8) (n : Nat) (hn : n < 8) : shrZ .u8 (a.toNat : Int) (n : Int) = ((a >>> n).toNat : Int) := by
  have h : shrZ .u8 (a.toNat : Int) (n : Int) = (a.toNat : Int).fdiv (2 ^ (min (n : Int).toNat 8)) := rfl
  rw [h, BitVec.toNat_ushiftRight, Nat.shiftRight_eq_div_pow, Int.toNat_natCast, Nat.min_eq_left (by omega), Int.fdiv_eq_ediv_of_nonneg _ (by exact Int.le_of_lt (Int.pow_pos (by decide))), Int.natCast_ediv, Int.natCast_pow]
  rfl
end Eng


namespace Eng
open Go
set_option linter.unusedSimpArgs false
/-! Products of bytes: plain laws. -/
/-- One doubling in the field of bytes. -/
def xt (v : BitVec 8) : BitVec 8 := (v <<< 1) ^^^ (27#8 &&& -(v >>> 7))
def xtn (v : BitVec 8) : Nat → BitVec 8
  | 0 => v
  | i + 1 => xt (xtn v i)
def prodN (a b : BitVec 8) : Nat → BitVec 8
  | 0 => 0#8
  | i + 1 => prodN a b i ^^^ (xtn a i &&& -((b >>> i) &&& 1#8))
def prod (a b : BitVec 8) : BitVec 8 := prodN a b 8

theorem mask_bit (b : BitVec 8) (i : Nat) : -((b >>> i) &&& 1#8) = if b.getLsbD i then BitVec.allOnes 8 else 0#8 := by
  have h : (b >>> i) &&& 1#8 = if b.getLsbD i then 1#8 else 0#8 := by
    apply BitVec.eq_of_toNat_eq
    rw [BitVec.toNat_and, show (1#8).toNat = 1 from rfl, Nat.and_one_is_mod, BitVec.toNat_ushiftRight, Nat.shiftRight_eq_div_pow]
    have e : b.getLsbD i = decide (b.toNat / 2 ^ i % 2 = 1) := Nat.testBit_eq_decide_div_mod_eq
    rw [e]
    by_cases hh : b.toNat / 2 ^ i % 2 = 1
    · simp [hh]
    · have : b.toNat / 2 ^ i % 2 = 0 := by omega
      simp [this]
  rw [h]
  split <;> rfl
theorem prodN_succ (a b : BitVec 8) (i : Nat) : prodN a b (i + 1) = if b.getLsbD i then prodN a b i ^^^ xtn a i else prodN a b i := by
  rw [prodN, mask_bit]
  split
  · rw [BitVec.and_allOnes]
  · rw [BitVec.and_zero, BitVec.xor_zero]
theorem xt_if (v : BitVec 8) : xt v = if v.getLsbD 7 then (v <<< 1) ^^^ 27#8 else v <<< 1 := by
  have : ∀ n, n < 256 → (xt (BitVec.ofNat 8 n) == if (BitVec.ofNat 8 n).getLsbD 7 then ((BitVec.ofNat 8 n) <<< 1) ^^^ 27#8 else (BitVec.ofNat 8 n) <<< 1) = true := by decide +kernel
  have h := this v.toNat v.isLt
  rw [BitVec.ofNat_toNat, BitVec.setWidth_eq] at h
  exact eq_of_beq h
theorem xt_xor (x y : BitVec 8) : xt (x ^^^ y) = xt x ^^^ xt y := by
  rw [xt_if, xt_if, xt_if, BitVec.getLsbD_xor, BitVec.shiftLeft_xor_distrib]
  generalize x <<< 1 = p
  generalize y <<< 1 = q
  cases x.getLsbD 7 <;> cases y.getLsbD 7 <;> simp only [Bool.false_xor, Bool.xor_false, Bool.true_xor, Bool.not_true, if_true, if_false, Bool.false_eq_true]
  · ac_rfl
  · ac_rfl
  · rw [show p ^^^ 27#8 ^^^ (q ^^^ 27#8) = (p ^^^ q) ^^^ (27#8 ^^^ 27#8) by ac_rfl, BitVec.xor_self, BitVec.xor_zero]
theorem xtn_xor (x y : BitVec 8) : ∀ i, xtn (x ^^^ y) i = xtn x i ^^^ xtn y i
  | 0 => rfl
  | i + 1 => by rw [xtn, xtn, xtn, xtn_xor x y i, xt_xor]
theorem prodN_xor (x y b : BitVec 8) : ∀ i, prodN (x ^^^ y) b i = prodN x b i ^^^ prodN y b i
  | 0 => by simp [prodN]
  | i + 1 => by
    rw [prodN_succ, prodN_succ, prodN_succ, prodN_xor x y b i, xtn_xor]
    split
    · ac_rfl
    · rfl
theorem tblE : ∀ n, n < 256 → ∀ i, i < 8 → (prodN (1#8 <<< i) (BitVec.ofNat 8 n) 8 == xtn (BitVec.ofNat 8 n) i) = true := by decide +kernel
theorem prod_unit (b : BitVec 8) (i : Nat) (hi : i < 8) : prodN (1#8 <<< i) b 8 = xtn b i := by
  have := tblE b.toNat b.isLt i hi
  rw [BitVec.ofNat_toNat, BitVec.setWidth_eq] at this
  exact eq_of_beq this
theorem prodN_zero (b : BitVec 8) : prodN 0#8 b 8 = 0#8 := by
  have h := prodN_xor 0#8 0#8 b 8
  simpa only [BitVec.xor_self] using h
theorem prodN_zero' (b : BitVec 8) : ∀ n, prodN 0#8 b n = 0#8
  | 0 => rfl
  | n + 1 => by
    have hx : ∀ i, xtn 0#8 i = 0#8 := fun i => by
      induction i with
      | zero => rfl
      | succ i ih => rw [xtn, ih]; decide
    rw [prodN_succ, prodN_zero' b n, hx]; simp
theorem prodN_xt (a b : BitVec 8) : ∀ n, prodN (xt a) b n = xt (prodN a b n)
  | 0 => by rw [prodN, prodN]; decide
  | n + 1 => by
    have e : ∀ i, xtn (xt a) i = xt (xtn a i) := fun i => by
      induction i with
      | zero => rfl
      | succ i ih => rw [xtn, ih, xtn]
    rw [prodN_succ, prodN_succ, prodN_xt a b n, e]
    split
    · rw [xt_xor]
    · rfl
theorem prodN_xtn (a b : BitVec 8) (n : Nat) : ∀ i, prodN (xtn a i) b n = xtn (prodN a b n) i
  | 0 => rfl
  | i + 1 => by rw [xtn, prodN_xt, prodN_xtn a b n i, xtn]
theorem prodN_comm' (a b c : BitVec 8) (m : Nat) : ∀ n, prodN (prodN c b m) a n = prodN (prodN c a n) b m
  | 0 => by rw [prodN, prodN, prodN_zero']
  | n + 1 => by
    rw [prodN_succ, prodN_comm' a b c m n, prodN_succ]
    split
    · rw [prodN_xor, prodN_xtn]
    · rfl
/-- (c b) a = (c a) b. -/
theorem prod_swap (a b c : BitVec 8) : prod (prod c b) a = prod (prod c a) b := prodN_comm' a b c 8 8
theorem prod_one (b : BitVec 8) : prod 1#8 b = b := prod_unit b 0 (by decide)
/-! Substitutes. -/
def invS (a : BitVec 8) : Nat → BitVec 8 × BitVec 8
  | 0 => (1#8, a)
  | n + 1 => (prod (invS a n).1 (prod (invS a n).2 (invS a n).2), prod (invS a n).2 (invS a n).2)
def inv (a : BitVec 8) : BitVec 8 := (invS a 7).1
theorem inv_tbl : ∀ n, n < 256 → (n == 0 || prod (BitVec.ofNat 8 n) (inv (BitVec.ofNat 8 n)) == 1#8) = true := by decide +kernel
theorem inv_spec (a : BitVec 8) (h : a ≠ 0#8) : prod a (inv a) = 1#8 := by
  have := inv_tbl a.toNat a.isLt
  rw [BitVec.ofNat_toNat, BitVec.setWidth_eq] at this
  simp only [Bool.or_eq_true, beq_iff_eq] at this
  rcases this with h0 | h1
  · exact absurd (BitVec.eq_of_toNat_eq (by simpa using h0)) h
  · exact h1
theorem inv_only (a i : BitVec 8) : prod a i = 1#8 ↔ a ≠ 0#8 ∧ i = inv a := by
  constructor
  · intro h
    have ha : a ≠ 0#8 := by
      rintro rfl
      rw [show prod 0#8 i = 0#8 from prodN_zero i] at h
      exact absurd h (by decide)
    refine ⟨ha, ?_⟩
    have e := prod_swap (inv a) i a
    rw [h, inv_spec a ha, prod_one, prod_one] at e
    exact e.symm
  · rintro ⟨h, rfl⟩
    exact inv_spec a h
theorem inv_zero : inv 0#8 = 0#8 := by decide
/-- The inverse that is found by trying the numbers below k. -/
def found (a : BitVec 8) (k : Nat) : BitVec 8 := if (inv a).toNat < k then inv a else 0#8
theorem found_one (a : BitVec 8) : found a 1 = 0#8 := by
  unfold found
  split
  · exact BitVec.eq_of_toNat_eq (by simp; omega)
  · rfl
theorem found_all (a : BitVec 8) : found a 256 = inv a := by
  unfold found
  rw [if_pos (inv a).isLt]
theorem found_hit (a : BitVec 8) {k : Nat} (h1 : k < 256) (h : prod a (BitVec.ofNat 8 k) = 1#8) : BitVec.ofNat 8 k = found a (k + 1) := by
  have e := ((inv_only a _).1 h).2
  unfold found
  rw [← e, if_pos (by simp; omega)]
theorem found_miss (a : BitVec 8) {k : Nat} (h0 : 0 < k) (h1 : k < 256) (h : prod a (BitVec.ofNat 8 k) ≠ 1#8) : found a k = found a (k + 1) := by
  have e : (inv a).toNat ≠ k := by
    intro e
    have e2 : inv a = BitVec.ofNat 8 k := BitVec.eq_of_toNat_eq (by simp; omega)
    by_cases ha : a = 0#8
    · subst ha
      rw [inv_zero] at e
      simp at e; omega
    · exact h (by rw [← e2]; exact inv_spec a ha)
  unfold found
  by_cases hk : (inv a).toNat < k
  · rw [if_pos hk, if_pos (by omega)]
  · rw [if_neg hk, if_neg (by omega)]
def sboxI (v : BitVec 8) : BitVec 8 := v ^^^ v.rotateLeft 1 ^^^ v.rotateLeft 2 ^^^ v.rotateLeft 3 ^^^ v.rotateLeft 4 ^^^ 99#8
def sbox (a : BitVec 8) : BitVec 8 := sboxI (inv a)
/-- A bit of the substitute, as the document has it. -/
def sbit (n i : Nat) : Nat := (99 / 2 ^ i % 2 + n / 2 ^ i % 2 + n / 2 ^ ((i + 4) % 8) % 2 + n / 2 ^ ((i + 5) % 8) % 2 + n / 2 ^ ((i + 6) % 8) % 2 + n / 2 ^ ((i + 7) % 8) % 2) % 2
def sbits (n : Nat) : Nat → Nat
  | 0 => 0
  | i + 1 => sbits n i + sbit n i * 2 ^ i
theorem sbits_tbl : ∀ n, n < 256 → (sbits n 8 == (sboxI (BitVec.ofNat 8 n)).toNat) = true := by decide +kernel
theorem sbits_eq (v : BitVec 8) : sbits v.toNat 8 = (sboxI v).toNat := by
  have := sbits_tbl v.toNat v.isLt
  rw [BitVec.ofNat_toNat, BitVec.setWidth_eq] at this
  exact eq_of_beq this
theorem sbits_lt (n : Nat) : ∀ i, sbits n i < 2 ^ i
  | 0 => by simp [sbits]
  | i + 1 => by
    have h1 := sbits_lt n i
    have h2 : sbit n i ≤ 1 := by unfold sbit; omega
    rw [sbits, Nat.pow_succ]
    have : sbit n i * 2 ^ i ≤ 1 * 2 ^ i := Nat.mul_le_mul_right _ h2
    omega
end Eng


namespace Eng
open Go

def D32 (l : List Int) : Prop := ∀ x ∈ l, 0 ≤ x ∧ x < 4294967296
theorem D32.at {l : List Int} (h : D32 l) (i : Nat) : 0 ≤ l.getD i 0 ∧ l.getD i 0 < 4294967296 := by
  rcases Nat.lt_or_ge i l.length with hj | hj
  · rw [List.getD_eq_getElem?_getD, List.getElem?_eq_getElem hj, Option.getD_some]
    exact h _ (List.getElem_mem hj)
  · rw [List.getD_eq_getElem?_getD, List.getElem?_eq_none hj]
    exact ⟨by decide, by decide⟩
end Eng


namespace Eng
open Go Go.Proofs
set_option linter.unusedSimpArgs false
set_option linter.unusedVariables false
noncomputable def S25 : List AV → Option Ret := nz (sumOf (fun p : BitVec 8 × BitVec 8 => match p with | (a, b) => True) (fun p : BitVec 8 × BitVec 8 => match p with | (a, b) => [.int .u8 (a.toNat : Nat), .int .u8 (b.toNat : Nat)]) (fun p : BitVec 8 × BitVec 8 => match p with | (a, b) => ⟨.int .u8 ((prod a b).toNat : Nat), none⟩))
theorem S25_eq (a : BitVec 8) (b : BitVec 8)  : S25 [.int .u8 (a.toNat : Nat), .int .u8 (b.toNat : Nat)] = some ⟨.int .u8 ((prod a b).toNat : Nat), none⟩ :=
  sumOf_eq (dom := (fun p : BitVec 8 × BitVec 8 => match p with | (a, b) => True)) (enc := (fun p : BitVec 8 × BitVec 8 => match p with | (a, b) => [.int .u8 (a.toNat : Nat), .int .u8 (b.toNat : Nat)])) (out := (fun p : BitVec 8 × BitVec 8 => match p with | (a, b) => ⟨.int .u8 ((prod a b).toNat : Nat), none⟩)) (a, b) trivial (fun y _ e => by
    obtain ⟨y0, y1⟩ := y
    simp only [List.cons.injEq, AV.int.injEq, Int.ofNat_inj, BitVec.toNat_inj, true_and, and_true] at e
    first | with_reducible rfl | simp only [e] | rfl)
theorem S25_inv {args : List AV} {r : Ret} (h : sumOf (fun p : BitVec 8 × BitVec 8 => match p with | (a, b) => True) (fun p : BitVec 8 × BitVec 8 => match p with | (a, b) => [.int .u8 (a.toNat : Nat), .int .u8 (b.toNat : Nat)]) (fun p : BitVec 8 × BitVec 8 => match p with | (a, b) => ⟨.int .u8 ((prod a b).toNat : Nat), none⟩) args = some r) : ∃ (a : BitVec 8) (b : BitVec 8), (True) ∧ args = [.int .u8 (a.toNat : Nat), .int .u8 (b.toNat : Nat)] ∧ r = ⟨.int .u8 ((prod a b).toNat : Nat), none⟩ := by
  obtain ⟨x, h1, h2, h3⟩ := sumOf_inv h
  obtain ⟨a, b⟩ := x
  exact ⟨a, b, h1, h2.symm, h3⟩


def St25 (a b : BitVec 8) (i : Nat) : AState := { nt := 28, env := [(0, .int .u8 ((xtn a i).toNat : Nat)), (1, .int .u8 (b.toNat : Nat)), (5, .int .u8 ((prodN a b i).toNat : Nat)), (7, .int .i64 i)], mem := [], next := 20 }

theorem and_one8 (v : BitVec 8) : andZ .u8 (v.toNat : Int) 1 = ((v &&& 1#8).toNat : Int) := andZ_u8_bv v 1#8
theorem and_278 (v : BitVec 8) : andZ .u8 27 (v.toNat : Int) = ((27#8 &&& v).toNat : Int) := andZ_u8_bv 27#8 v
theorem shl_one8 (v : BitVec 8) : shlZ .u8 (v.toNat : Int) 1 = ((v <<< 1).toNat : Int) := shlZ_u8_bv v 1 (by decide)
theorem shr_seven8 (v : BitVec 8) : shrZ .u8 (v.toNat : Int) 7 = ((v >>> 7).toNat : Int) := shrZ_u8_bv v 7 (by decide)

set_option maxRecDepth 100000 in
theorem snd25 : SndE Try.prog NoG 25 S25 := by
  refine snd_nz (snd_by [] [] Try.func25 (by kernel_rfl) lite25 nt25 rs25 trivial trivial (fun hT args r h => ?_))
  obtain ⟨a, b, _, rfl, rfl⟩ := S25_inv h
  clear h
  have hM := hM0
  refine ⟨Nat.le_of_ble_eq_true rfl, fun F => ?_⟩
  unfold L25
  refine Lwp.seq (Lwp.regI hT ?_)
  simp only [L25r0, go_sem, eq_self, Nat.reduceLT, decide_true]
  refine Lwp.seq (Lwp.regI hT ?_)
  simp only [L25r1, go_sem, eq_self, Nat.reduceAdd, Nat.reduceLT, decide_true]
  refine Lwp.seq ?_
  refine Lwp.seq (Lwp.regI hT ?_)
  simp only [L25r2, go_sem, eq_self, Nat.reduceAdd, Nat.reduceLT, decide_true]
  refine Lwp.block (Lwp.range (St25 a b) 8 ?_ (fun i hi => ?_) ?_)
  · refine weak_of rfl ?_ ?_ ?_
    · (simp only [go_sem, eq_self, Nat.reduceEqDiff, reduceCtorEq, St25, xtn, prodN]; try rfl)
    · (simp only [go_sem, St25, xtn, prodN]; try rfl)
    · (simp only [go_sem, eq_self, St25, xtn, prodN]; try rfl)
  · have h1 : (i : Int) < 8 := by omega
    have h2 : ¬ (i : Int) < 0 := by omega
    have h4 := wrap_succ hi (by decide)
    have e1 := shrZ_u8_bv b i hi
    unfold St25
    refine Lwp.seq (Lwp.regI hT ?_)
    simp only [L25r3, go_sem, eq_self, Nat.reduceAdd, Nat.reduceLT, Nat.reduceEqDiff, reduceCtorEq, decide_true, h1]
    refine Lwp.seq (Lwp.cond rfl (fun _ => Lwp.skip ?_) (fun h => by cases h))
    refine Lwp.seq (Lwp.block ?_)
    refine Lwp.seq (Lwp.regI hT ?_)
    simp only [L25r4, go_sem, eq_self, Nat.reduceAdd, Nat.reduceLT, Nat.reduceEqDiff, reduceCtorEq, decide_true]
    refine Lwp.seq (Lwp.regI hT ?_)
    simp only [L25r5, go_sem, eq_self, Nat.reduceAdd, Nat.reduceLT, Nat.reduceEqDiff, reduceCtorEq, decide_true, h2, e1, and_one8, negZ_u8_bv, andZ_u8_bv, xorZ_u8_bv]
    refine Lwp.regI hT ?_
    simp only [L25r6, go_sem, eq_self, Nat.reduceAdd, Nat.reduceLT, Nat.reduceEqDiff, Int.reduceLT, reduceCtorEq, decide_true, shl_one8, shr_seven8, negZ_u8_bv, and_278, xorZ_u8_bv]
    refine Lwp.regI hT ?_
    simp only [L25r7, go_sem, eq_self, Nat.reduceAdd, Nat.reduceLT, Nat.reduceEqDiff, reduceCtorEq, decide_true, h4]
    refine weak_of rfl ?_ ?_ ?_
    · (simp only [go_sem, eq_self, Nat.reduceEqDiff, reduceCtorEq, xtn, xt, prodN]; try rfl)
    · (simp only [go_sem]; try rfl)
    · (simp only [go_sem, eq_self]; try rfl)
  · unfold St25
    refine Lwp.seq (Lwp.regI hT ?_)
    simp only [L25r3, go_sem, eq_self, Nat.reduceAdd, Nat.reduceLT, Nat.reduceEqDiff, Int.reduceLT, reduceCtorEq, decide_true, decide_false]
    refine Lwp.seq (Lwp.cond rfl (fun h => by cases h) (fun _ => Lwp.exit ?_))
    simp only [go_sem, eq_self]
    refine Lwp.seq (Lwp.regI hT ?_)
    simp only [L25r8, go_sem, eq_self, Nat.reduceAdd, Nat.reduceLT, Nat.reduceEqDiff, reduceCtorEq, decide_true]
    refine Lwp.ret (post_val (v := .int .u8 ((prod a b).toNat : Nat)) ?_ ?_)
    · simp only [go_sem, eq_self, Nat.reduceEqDiff, reduceCtorEq, prod]
    · simp only [go_sem, eq_self]
end Eng


namespace Eng
open Go Go.Proofs
set_option linter.unusedSimpArgs false
set_option linter.unusedVariables false
def clN (a b : BitVec 8) : Nat → BitVec 16
  | 0 => 0#16
  | i + 1 => if b.getLsbD i then clN a b i ^^^ (a.setWidth 16 <<< i) else clN a b i
def rdN (p : BitVec 16) : Nat → BitVec 16
  | 0 => p
  | k + 1 => if (rdN p k).getLsbD (14 - k) then rdN p k ^^^ (283#16 <<< (6 - k)) else rdN p k

theorem i64_16 (v : BitVec 16) : IntKind.i64.wrap (v.toNat : Int) = (v.toNat : Int) := wrap_i64 (by omega) (by have := v.isLt; omega)
theorem xorZ_i64_bv (p q : BitVec 16) : xorZ .i64 (p.toNat : Int) (q.toNat : Int) = ((p ^^^ q).toNat : Int) := by
  have h : xorZ .i64 (p.toNat : Int) (q.toNat : Int) = IntKind.i64.wrap ((BitVec.ofInt 64 (p.toNat : Int) ^^^ BitVec.ofInt 64 (q.toNat : Int)).toNat : Int) := rfl
  have h1 := p.isLt
  have h2 := q.isLt
  rw [h, BitVec.toNat_xor, ofInt_toNat (by omega) (by omega), ofInt_toNat (by omega) (by omega), Int.toNat_natCast, Int.toNat_natCast, ← BitVec.toNat_xor, i64_16]
theorem shrZ_i64_bit (n i : Nat) (hi : i < 64) : (((shrZ .i64 (n : Int) (i : Int)).tmod 2) == 1) = n.testBit i := by
  have h : shrZ .i64 (n : Int) (i : Int) = (n : Int).fdiv (2 ^ (min (i : Int).toNat 64)) := rfl
  rw [h, Int.toNat_natCast, Nat.min_eq_left (by omega), Int.fdiv_eq_ediv_of_nonneg _ (Int.le_of_lt (Int.pow_pos (by decide)))]
  rw [show (n : Int) / 2 ^ i = ((n / 2 ^ i : Nat) : Int) by rw [Int.natCast_ediv, Int.natCast_pow]; rfl, Int.tmod_eq_emod_of_nonneg (Int.natCast_nonneg _), Nat.testBit_eq_decide_div_mod_eq]
  rw [Bool.eq_iff_iff]
  simp only [beq_iff_eq, decide_eq_true_eq]
  omega
theorem shlZ_i64_nat (n i : Nat) (hi : i < 64) (h : n * 2 ^ i < 9223372036854775808) : shlZ .i64 (n : Int) (i : Int) = ((n * 2 ^ i : Nat) : Int) := by
  have e : shlZ .i64 (n : Int) (i : Int) = IntKind.i64.wrap ((n : Int) * 2 ^ (min (i : Int).toNat 64)) := rfl
  rw [e, Int.toNat_natCast, Nat.min_eq_left (by omega), show (n : Int) * 2 ^ i = ((n * 2 ^ i : Nat) : Int) by rw [Int.natCast_mul, Int.natCast_pow]; rfl, wrap_i64 (by omega) (by omega)]
theorem shl8_16 (a : BitVec 8) (i : Nat) (hi : i < 8) : shlZ .i64 (a.toNat : Int) (i : Int) = ((a.setWidth 16 <<< i).toNat : Int) := by
  have h := a.isLt
  have hp : 2 ^ i ≤ 2 ^ 7 := Nat.pow_le_pow_right (by decide) (by omega)
  have hm : a.toNat * 2 ^ i ≤ 255 * 2 ^ 7 := Nat.mul_le_mul (by omega) hp
  rw [shlZ_i64_nat _ _ (by omega) (by omega), BitVec.toNat_shiftLeft, BitVec.toNat_setWidth, Nat.shiftLeft_eq, Nat.mod_eq_of_lt (show a.toNat < 2 ^ 16 by omega), Nat.mod_eq_of_lt (by omega)]
theorem shl283 (j : Nat) (hj : j ≤ 6) : shlZ .i64 283 (j : Int) = ((283#16 <<< j).toNat : Int) := by
  have h := shlZ_i64_nat 283 j (by omega) (by have : 2 ^ j ≤ 2 ^ 6 := Nat.pow_le_pow_right (by decide) hj; omega)
  have hp : 2 ^ j ≤ 2 ^ 6 := Nat.pow_le_pow_right (by decide) hj
  rw [show (283 : Int) = ((283 : Nat) : Int) from rfl, h, BitVec.toNat_shiftLeft, Nat.shiftLeft_eq, show (283#16).toNat = 283 from rfl, Nat.mod_eq_of_lt (by omega)]

def refP (a b : BitVec 8) : BitVec 8 := (rdN (clN a b 8) 7).setWidth 8
noncomputable def S26 : List AV → Option Ret := nz (sumOf (fun p : BitVec 8 × BitVec 8 => match p with | (a, b) => True) (fun p : BitVec 8 × BitVec 8 => match p with | (a, b) => [.int .u8 (a.toNat : Nat), .int .u8 (b.toNat : Nat)]) (fun p : BitVec 8 × BitVec 8 => match p with | (a, b) => ⟨.int .u8 ((refP a b).toNat : Nat), none⟩))
theorem S26_eq (a : BitVec 8) (b : BitVec 8)  : S26 [.int .u8 (a.toNat : Nat), .int .u8 (b.toNat : Nat)] = some ⟨.int .u8 ((refP a b).toNat : Nat), none⟩ :=
  sumOf_eq (dom := (fun p : BitVec 8 × BitVec 8 => match p with | (a, b) => True)) (enc := (fun p : BitVec 8 × BitVec 8 => match p with | (a, b) => [.int .u8 (a.toNat : Nat), .int .u8 (b.toNat : Nat)])) (out := (fun p : BitVec 8 × BitVec 8 => match p with | (a, b) => ⟨.int .u8 ((refP a b).toNat : Nat), none⟩)) (a, b) trivial (fun y _ e => by
    obtain ⟨y0, y1⟩ := y
    simp only [List.cons.injEq, AV.int.injEq, Int.ofNat_inj, BitVec.toNat_inj, true_and, and_true] at e
    first | with_reducible rfl | simp only [e] | rfl)
theorem S26_inv {args : List AV} {r : Ret} (h : sumOf (fun p : BitVec 8 × BitVec 8 => match p with | (a, b) => True) (fun p : BitVec 8 × BitVec 8 => match p with | (a, b) => [.int .u8 (a.toNat : Nat), .int .u8 (b.toNat : Nat)]) (fun p : BitVec 8 × BitVec 8 => match p with | (a, b) => ⟨.int .u8 ((refP a b).toNat : Nat), none⟩) args = some r) : ∃ (a : BitVec 8) (b : BitVec 8), (True) ∧ args = [.int .u8 (a.toNat : Nat), .int .u8 (b.toNat : Nat)] ∧ r = ⟨.int .u8 ((refP a b).toNat : Nat), none⟩ := by
  obtain ⟨x, h1, h2, h3⟩ := sumOf_inv h
  obtain ⟨a, b⟩ := x
  exact ⟨a, b, h1, h2.symm, h3⟩


def St26 (a b : BitVec 8) (i : Nat) : AState := { nt := 40, env := [(0, .int .u8 (a.toNat : Nat)), (1, .int .u8 (b.toNat : Nat)), (5, .int .i64 ((clN a b i).toNat : Nat)), (6, .int .i64 i)], mem := [], next := 20 }
def St26r (p : BitVec 16) (k : Nat) : AState := { nt := 40, env := [(5, .int .i64 ((rdN p k).toNat : Nat)), (7, .int .i64 (14 - k : Nat))], mem := [], next := 20 }

theorem i64_8 (v : BitVec 8) : IntKind.i64.wrap (v.toNat : Int) = (v.toNat : Int) := wrap_i64 (by omega) (by have := v.isLt; omega)

set_option maxRecDepth 100000 in
theorem snd26 : SndE Try.prog NoG 26 S26 := by
  refine snd_nz (snd_by [] [] Try.func26 (by kernel_rfl) lite26 nt26 rs26 trivial trivial (fun hT args r h => ?_))
  obtain ⟨a, b, _, rfl, rfl⟩ := S26_inv h
  clear h
  have hM := hM0
  refine ⟨Nat.le_of_ble_eq_true rfl, fun F => ?_⟩
  unfold L26
  refine Lwp.seq (Lwp.regI hT ?_)
  simp only [L26r0, go_sem, eq_self, Nat.reduceLT, decide_true]
  refine Lwp.seq (Lwp.regI hT ?_)
  simp only [L26r1, go_sem, eq_self, Nat.reduceAdd, Nat.reduceLT, decide_true]
  refine Lwp.seq (Lwp.seq (Lwp.region hT ?_))
  simp only [L26r2, go_sem, eq_self, Nat.reduceAdd, Nat.reduceLT]
  refine Lwp.block (Lwp.range (St26 a b) 8 ?_ (fun i hi => ?_) ?_)
  · refine weak_of rfl ?_ ?_ ?_
    · (simp only [go_sem, eq_self, Nat.reduceEqDiff, reduceCtorEq, St26, clN]; try rfl)
    · (simp only [go_sem, St26, clN]; try rfl)
    · (simp only [go_sem, eq_self, St26, clN]; try rfl)
  · have h1 : (i : Int) < 8 := by omega
    have h2 : ¬ (i : Int) < 0 := by omega
    have h4 := wrap_succ hi (by decide)
    have e1 : (((shrZ .i64 (b.toNat : Int) (i : Int)).tmod 2) == 1) = b.getLsbD i := shrZ_i64_bit b.toNat i (by omega)
    have e2 := shl8_16 a i hi
    refine Lwp.seq (Lwp.seq (Lwp.region hT ?_))
    simp only [L26r3, St26, go_sem, eq_self, Nat.reduceAdd, Nat.reduceLT, Nat.reduceEqDiff, reduceCtorEq, decide_true, h1]
    refine Lwp.cond rfl (fun _ => Lwp.skip ?_) (fun h => by cases h)
    simp only [go_sem]
    refine Lwp.seq (Lwp.block (Lwp.seq (Lwp.region hT ?_)))
    simp only [L26r5, go_sem, eq_self, Nat.reduceAdd, Nat.reduceLT, Nat.reduceEqDiff, Int.reduceEq, reduceCtorEq, ty3, ty5, h2, i64_8, e1]
    by_cases hb : b.getLsbD i = true
    · rw [hb]
      refine Lwp.cond rfl (fun _ => ?_) (fun h => by cases h)
      refine Lwp.regI hT ?_
      simp only [L26r6, go_sem, eq_self, Nat.reduceAdd, Nat.reduceLT, Nat.reduceEqDiff, reduceCtorEq, decide_true, ty3, ty5, h2, i64_8, e2, xorZ_i64_bv]
      refine Lwp.regI hT ?_
      simp only [L26r4, go_sem, eq_self, Nat.reduceAdd, Nat.reduceLT, Nat.reduceEqDiff, reduceCtorEq, decide_true, h4]
      have hs : clN a b (i + 1) = clN a b i ^^^ (a.setWidth 16 <<< i) := by rw [clN, if_pos]; exact hb
      refine weak_of rfl ?_ ?_ ?_
      · (simp only [go_sem, eq_self, Nat.reduceEqDiff, reduceCtorEq, hs]; try rfl)
      · (simp only [go_sem]; try rfl)
      · (simp only [go_sem, eq_self]; try rfl)
    · rw [Bool.not_eq_true] at hb
      rw [hb]
      refine Lwp.cond rfl (fun h => by cases h) (fun _ => Lwp.skip ?_)
      simp only [go_sem]
      refine Lwp.regI hT ?_
      simp only [L26r4, go_sem, eq_self, Nat.reduceAdd, Nat.reduceLT, Nat.reduceEqDiff, reduceCtorEq, decide_true, h4]
      have hs : clN a b (i + 1) = clN a b i := by rw [clN, if_neg]; show ¬ b.getLsbD i = true; rw [hb]; decide
      refine weak_of rfl ?_ ?_ ?_
      · (simp only [go_sem, eq_self, Nat.reduceEqDiff, reduceCtorEq, hs]; try rfl)
      · (simp only [go_sem]; try rfl)
      · (simp only [go_sem, eq_self]; try rfl)
  · refine Lwp.seq (Lwp.seq (Lwp.region hT ?_))
    simp only [L26r3, St26, go_sem, eq_self, Nat.reduceAdd, Nat.reduceLT, Nat.reduceEqDiff, Int.reduceLT, reduceCtorEq, decide_false]
    refine Lwp.cond rfl (fun h => by cases h) (fun _ => Lwp.exit ?_)
    simp only [go_sem, eq_self]
    refine Lwp.seq (Lwp.seq (Lwp.region hT ?_))
    simp only [L26r7, go_sem, eq_self, Nat.reduceAdd, Nat.reduceLT]
    refine Lwp.block (Lwp.range (St26r (clN a b 8)) 7 ?_ (fun k hk => ?_) ?_)
    · refine weak_of rfl ?_ ?_ ?_
      · (simp only [go_sem, eq_self, Nat.reduceSub, Nat.reduceEqDiff, reduceCtorEq, St26r, rdN]; try rfl)
      · (simp only [go_sem, Nat.reduceSub, St26r, rdN]; try rfl)
      · (simp only [go_sem, eq_self, Nat.reduceSub, St26r, rdN]; try rfl)
    · have g1 : ((14 - k : Nat) : Int) ≥ 8 := by omega
      have g2 : ¬ ((14 - k : Nat) : Int) < 0 := by omega
      have g3 : IntKind.i64.wrap (((14 - k : Nat) : Int) - 1) = ((14 - (k + 1) : Nat) : Int) := by rw [wrap_i64 (by omega) (by omega)]; omega
      have g4 : IntKind.i64.wrap (((14 - k : Nat) : Int) - 8) = ((6 - k : Nat) : Int) := by rw [wrap_i64 (by omega) (by omega)]; omega
      have g5 : ¬ ((6 - k : Nat) : Int) < 0 := by omega
      have e1 : (((shrZ .i64 ((rdN (clN a b 8) k).toNat : Int) ((14 - k : Nat) : Int)).tmod 2) == 1) = (rdN (clN a b 8) k).getLsbD (14 - k) := shrZ_i64_bit (rdN (clN a b 8) k).toNat (14 - k) (by omega)
      have e2 := shl283 (6 - k) (by omega)
      refine Lwp.seq (Lwp.seq (Lwp.region hT ?_))
      simp only [L26r8, St26r, go_sem, eq_self, Nat.reduceAdd, Nat.reduceLT, Nat.reduceEqDiff, decide_true, g1]
      refine Lwp.cond rfl (fun _ => Lwp.skip ?_) (fun h => by cases h)
      simp only [go_sem]
      refine Lwp.seq (Lwp.block (Lwp.seq (Lwp.region hT ?_)))
      simp only [L26r10, go_sem, eq_self, Nat.reduceAdd, Nat.reduceLT, Nat.reduceEqDiff, Int.reduceEq, g2, e1]
      by_cases hb : (rdN (clN a b 8) k).getLsbD (14 - k) = true
      · rw [hb]
        refine Lwp.cond rfl (fun _ => ?_) (fun h => by cases h)
        refine Lwp.regI hT ?_
        simp only [L26r11, go_sem, eq_self, Nat.reduceAdd, Nat.reduceLT, Nat.reduceEqDiff, decide_true, g4, g5, e2, xorZ_i64_bv]
        refine Lwp.regI hT ?_
        simp only [L26r9, go_sem, eq_self, Nat.reduceAdd, Nat.reduceLT, Nat.reduceEqDiff, decide_true, g3]
        have hs : rdN (clN a b 8) (k + 1) = rdN (clN a b 8) k ^^^ (283#16 <<< (6 - k)) := by rw [rdN, if_pos]; exact hb
        refine weak_of rfl ?_ ?_ ?_
        · (simp only [go_sem, eq_self, Nat.reduceEqDiff, hs]; try rfl)
        · (simp only [go_sem]; try rfl)
        · (simp only [go_sem, eq_self]; try rfl)
      · rw [Bool.not_eq_true] at hb
        rw [hb]
        refine Lwp.cond rfl (fun h => by cases h) (fun _ => Lwp.skip ?_)
        simp only [go_sem]
        refine Lwp.regI hT ?_
        simp only [L26r9, go_sem, eq_self, Nat.reduceAdd, Nat.reduceLT, Nat.reduceEqDiff, decide_true, g3]
        have hs : rdN (clN a b 8) (k + 1) = rdN (clN a b 8) k := by rw [rdN, if_neg]; show ¬ (rdN (clN a b 8) k).getLsbD (14 - k) = true; rw [hb]; decide
        refine weak_of rfl ?_ ?_ ?_
        · (simp only [go_sem, eq_self, Nat.reduceEqDiff, hs]; try rfl)
        · (simp only [go_sem]; try rfl)
        · (simp only [go_sem, eq_self]; try rfl)
    · refine Lwp.seq (Lwp.seq (Lwp.region hT ?_))
      simp only [L26r8, St26r, go_sem, eq_self, Nat.reduceAdd, Nat.reduceSub, Nat.reduceLT, Nat.reduceEqDiff, Int.reduceGE, decide_false]
      refine Lwp.cond rfl (fun h => by cases h) (fun _ => Lwp.exit ?_)
      simp only [go_sem, eq_self]
      refine Lwp.seq (Lwp.regI hT ?_)
      simp only [L26r12, go_sem, eq_self, Nat.reduceAdd, Nat.reduceLT, Nat.reduceEqDiff, decide_true, ty3, ty5]
      refine Lwp.ret (post_val (v := .int .u8 ((refP a b).toNat : Nat)) ?_ ?_)
      · simp only [go_sem, eq_self, Nat.reduceEqDiff, Nat.reducePow, refP, BitVec.toNat_setWidth, wrap_u8_mod]
        rfl
      · simp only [go_sem, eq_self]
end Eng


namespace Eng
open Go Go.Proofs
set_option linter.unusedSimpArgs false
set_option linter.unusedVariables false
theorem rdN_xor (p q : BitVec 16) : ∀ k, rdN (p ^^^ q) k = rdN p k ^^^ rdN q k
  | 0 => rfl
  | k + 1 => by
    simp only [rdN, rdN_xor p q k, BitVec.getLsbD_xor]
    generalize rdN p k = x
    generalize rdN q k = y
    generalize 283#16 <<< (6 - k) = m
    cases x.getLsbD (14 - k) <;> cases y.getLsbD (14 - k) <;> simp only [Bool.false_xor, Bool.xor_false, Bool.true_xor, Bool.not_true, if_true, if_false, Bool.false_eq_true]
    · ac_rfl
    · ac_rfl
    · rw [show x ^^^ m ^^^ (y ^^^ m) = (x ^^^ y) ^^^ (m ^^^ m) by ac_rfl, BitVec.xor_self, BitVec.xor_zero]
theorem tblR : ∀ n, n < 256 → ∀ i, i < 8 → ((rdN ((BitVec.ofNat 8 n).setWidth 16 <<< i) 7).setWidth 8 == xtn (BitVec.ofNat 8 n) i) = true := by decide +kernel
theorem rd_bit (a : BitVec 8) (i : Nat) (hi : i < 8) : (rdN (a.setWidth 16 <<< i) 7).setWidth 8 = xtn a i := by
  have := tblR a.toNat a.isLt i hi
  rw [BitVec.ofNat_toNat, BitVec.setWidth_eq] at this
  exact eq_of_beq this
theorem rdN_zero : rdN 0#16 7 = 0#16 := by decide
theorem ref_steps (a b : BitVec 8) : ∀ i, i ≤ 8 → (rdN (clN a b i) 7).setWidth 8 = prodN a b i
  | 0, _ => by rw [clN, rdN_zero, prodN]; rfl
  | i + 1, h => by
    rw [prodN_succ, clN]
    split
    · rw [rdN_xor, BitVec.setWidth_xor, ref_steps a b i (by omega), rd_bit a i (by omega)]
    · exact ref_steps a b i (by omega)
theorem ref_prod (a b : BitVec 8) : refP a b = prod a b := ref_steps a b 8 (Nat.le_refl _)

end Eng


namespace Eng
open Go Go.Proofs
set_option linter.unusedSimpArgs false
set_option linter.unusedVariables false
/-! States of 16 bytes. -/
abbrev St := Nat → BitVec 8
def bl (S : St) : List Int := tab 16 (fun j => ((S j).toNat : Int))
def sb (s : List Int) : St := fun j => BitVec.ofInt 8 (s.getD j 0)
theorem bl_len (S : St) : (bl S).length = 16 := tab_len _ _
theorem bl_B16 (S : St) : B16 (bl S) := ⟨bl_len S, fun x hx => by
  simp only [bl, tab, List.mem_map] at hx
  obtain ⟨j, _, rfl⟩ := hx
  have := (S j).isLt
  omega⟩
def mixC (a b c d : BitVec 8) : BitVec 8 := prod 2#8 a ^^^ prod 3#8 b ^^^ c ^^^ d
theorem xlc (x y z : BitVec 8) : x ^^^ (y ^^^ z) = y ^^^ (x ^^^ z) := by rw [← BitVec.xor_assoc, BitVec.xor_comm x y, BitVec.xor_assoc]
def mixS (S : St) : St := fun j => mixC (S (4 * (j / 4) + j % 4)) (S (4 * (j / 4) + (j % 4 + 1) % 4)) (S (4 * (j / 4) + (j % 4 + 2) % 4)) (S (4 * (j / 4) + (j % 4 + 3) % 4))
def mixed (s : List Int) : List Int := bl (mixS (sb s))
theorem mixS_at (S : St) (c r : Nat) (hr : r < 4) : mixS S (4 * c + r) = mixC (S (4 * c + r)) (S (4 * c + (r + 1) % 4)) (S (4 * c + (r + 2) % 4)) (S (4 * c + (r + 3) % 4)) := by
  unfold mixS
  rw [show (4 * c + r) / 4 = c by omega, show (4 * c + r) % 4 = r by omega]
theorem mixed_B16 (s : List Int) : B16 (mixed s) := bl_B16 _
theorem mixed_len (s : List Int) : (mixed s).length = 16 := bl_len _

noncomputable def S64 : List AV → Option Ret := nz (sumOf (fun p : List Int × Nat × Nat × Nat => match p with | (s, c, ro, k) => (B16 s) ∧ (c < 4) ∧ (ro < 4) ∧ (k < 4)) (fun p : List Int × Nat × Nat × Nat => match p with | (s, c, ro, k) => [.int .i64 k, .iptr (ints .u8 s) 0, .iptr [.int .i64 c] 0, .iptr [.int .i64 ro] 0]) (fun p : List Int × Nat × Nat × Nat => match p with | (s, c, ro, k) => ⟨.int .u8 (s.getD (4 * c + (ro + k) % 4) 0), none⟩))
theorem S64_eq (s : List Int) (c : Nat) (ro : Nat) (k : Nat) (h0 : B16 s) (h1 : c < 4) (h2 : ro < 4) (h3 : k < 4) : S64 [.int .i64 k, .iptr (ints .u8 s) 0, .iptr [.int .i64 c] 0, .iptr [.int .i64 ro] 0] = some ⟨.int .u8 (s.getD (4 * c + (ro + k) % 4) 0), none⟩ :=
  sumOf_eq (dom := (fun p : List Int × Nat × Nat × Nat => match p with | (s, c, ro, k) => (B16 s) ∧ (c < 4) ∧ (ro < 4) ∧ (k < 4))) (enc := (fun p : List Int × Nat × Nat × Nat => match p with | (s, c, ro, k) => [.int .i64 k, .iptr (ints .u8 s) 0, .iptr [.int .i64 c] 0, .iptr [.int .i64 ro] 0])) (out := (fun p : List Int × Nat × Nat × Nat => match p with | (s, c, ro, k) => ⟨.int .u8 (s.getD (4 * c + (ro + k) % 4) 0), none⟩)) (s, c, ro, k) ⟨h0, h1, h2, h3⟩ (fun y _ e => by
    obtain ⟨y0, y1, y2, y3⟩ := y
    simp only [List.cons.injEq, AV.int.injEq, AV.iptr.injEq, ints_injEq, Int.ofNat_inj, true_and, and_true] at e
    first | with_reducible rfl | simp only [e] | rfl)
theorem S64_inv {args : List AV} {r : Ret} (h : sumOf (fun p : List Int × Nat × Nat × Nat => match p with | (s, c, ro, k) => (B16 s) ∧ (c < 4) ∧ (ro < 4) ∧ (k < 4)) (fun p : List Int × Nat × Nat × Nat => match p with | (s, c, ro, k) => [.int .i64 k, .iptr (ints .u8 s) 0, .iptr [.int .i64 c] 0, .iptr [.int .i64 ro] 0]) (fun p : List Int × Nat × Nat × Nat => match p with | (s, c, ro, k) => ⟨.int .u8 (s.getD (4 * c + (ro + k) % 4) 0), none⟩) args = some r) : ∃ (s : List Int) (c : Nat) (ro : Nat) (k : Nat), ((B16 s) ∧ (c < 4) ∧ (ro < 4) ∧ (k < 4)) ∧ args = [.int .i64 k, .iptr (ints .u8 s) 0, .iptr [.int .i64 c] 0, .iptr [.int .i64 ro] 0] ∧ r = ⟨.int .u8 (s.getD (4 * c + (ro + k) % 4) 0), none⟩ := by
  obtain ⟨x, h1, h2, h3⟩ := sumOf_inv h
  obtain ⟨s, c, ro, k⟩ := x
  exact ⟨s, c, ro, k, h1, h2.symm, h3⟩


set_option maxRecDepth 100000 in
theorem snd64 : SndE Try.prog NoG 64 S64 := by
  refine snd_nz (snd_by [] [] Try.func64 (by kernel_rfl) lite64 nt64 rs64 trivial trivial (fun hT args r h => ?_))
  obtain ⟨s, c, ro, k, ⟨hd0, hd1, hd2, hd3⟩, rfl, rfl⟩ := S64_inv h
  clear h
  have hM := hM0
  refine ⟨Nat.le_of_ble_eq_true rfl, fun F => ?_⟩
  unfold L64
  have hl := hd0.1
  have e1 : IntKind.i64.wrap (4 * (c : Int)) = 4 * (c : Int) := wrap_i64 (by omega) (by omega)
  have e2 : IntKind.i64.wrap ((ro : Int) + (k : Int)) = (ro : Int) + (k : Int) := wrap_i64 (by omega) (by omega)
  have e3 : ((ro : Int) + (k : Int)).tmod 4 = (((ro + k) % 4 : Nat) : Int) := by rw [Int.tmod_eq_emod_of_nonneg (by omega)]; omega
  have e4 : IntKind.i64.wrap (4 * (c : Int) + (((ro + k) % 4 : Nat) : Int)) = ((4 * c + (ro + k) % 4 : Nat) : Int) := by rw [wrap_i64 (by omega) (by omega)]; omega
  have k1 : (0 : Int) ≤ ((4 * c + (ro + k) % 4 : Nat) : Int) := by omega
  have k2 : ((4 * c + (ro + k) % 4 : Nat) : Int) < 16 := by omega
  have k3 : 4 * c + (ro + k) % 4 < 16 := by omega
  have k4 : 4 * c + (ro + k) % 4 ≤ 15 := by omega
  refine Lwp.seq (Lwp.regI hT ?_)
  simp only [L64r0, go_sem, eq_self, Nat.reduceAdd, Nat.reduceLT, decide_true]
  generalize 4 * c + (ro + k) % 4 = q at *
  refine Lwp.seq (Lwp.regI hT ?_)
  simp only [L64r1, go_sem, eq_self, Nat.reduceAdd, Nat.reduceLT, Nat.reduceLeDiff, Nat.reduceEqDiff, Int.reduceEq, reduceCtorEq, decide_true, Bool.false_eq_true, ty3, ty5, ty22, e1, e2, e3, e4, k1, k2, k3, k4, hl, List.getD_cons_zero]
  refine Lwp.ret (post_val (v := .int .u8 (s.getD q 0)) ?_ ?_)
  · simp only [go_sem, eq_self, Nat.reduceEqDiff, reduceCtorEq]
  · simp only [go_sem, eq_self]
end Eng


namespace Eng
open Go Go.Proofs
set_option linter.unusedSimpArgs false
set_option linter.unusedVariables false
def mixI (s : List Int) (j : Nat) : Int := ((mixS (sb s) j).toNat : Int)
noncomputable def S36 : List AV → Option Ret := nz (sumOf (fun p : List Int => match p with | s => (B16 s)) (fun p : List Int => match p with | s => [.agg (ints .u8 s)]) (fun p : List Int => match p with | s => ⟨.agg (ints .u8 (mixed s)), none⟩))
theorem S36_eq (s : List Int) (h0 : B16 s) : S36 [.agg (ints .u8 s)] = some ⟨.agg (ints .u8 (mixed s)), none⟩ :=
  sumOf_eq (dom := (fun p : List Int => match p with | s => (B16 s))) (enc := (fun p : List Int => match p with | s => [.agg (ints .u8 s)])) (out := (fun p : List Int => match p with | s => ⟨.agg (ints .u8 (mixed s)), none⟩)) s h0 (fun y _ e => by
    simp only [List.cons.injEq, AV.agg.injEq, ints_injEq, and_true] at e
    first | with_reducible rfl | simp only [e] | rfl)
theorem S36_inv {args : List AV} {r : Ret} (h : sumOf (fun p : List Int => match p with | s => (B16 s)) (fun p : List Int => match p with | s => [.agg (ints .u8 s)]) (fun p : List Int => match p with | s => ⟨.agg (ints .u8 (mixed s)), none⟩) args = some r) : ∃ (s : List Int), ((B16 s)) ∧ args = [.agg (ints .u8 s)] ∧ r = ⟨.agg (ints .u8 (mixed s)), none⟩ := by
  obtain ⟨x, h1, h2, h3⟩ := sumOf_inv h
  exact ⟨x, h1, h2.symm, h3⟩


def St36 (s : List Int) (c : Nat) : AState := { nt := 35, env := [(1, .own 0 0), (2, .own 1 0), (3, .own 2 0), (7, .int .i64 c)], mem := [(0, ints .u8 s), (1, ints .u8 (List.replicate 16 0)), (2, ints .u8 (upto 16 (mixI s) (4 * c)))], next := 20 }
def St36i (s : List Int) (c ro : Nat) : AState := { nt := 35, env := [(1, .own 0 0), (2, .own 1 0), (3, .own 2 0), (4, .own 22 0), (7, .int .i64 c), (10, .int .i64 ro)], mem := [(0, ints .u8 s), (1, ints .u8 (List.replicate 16 0)), (2, ints .u8 (upto 16 (mixI s) (4 * c + ro))), (22, [.int .i64 c])], next := 40 }

theorem prod_int (x : Int) (hx : 0 ≤ x ∧ x < 256) (k : BitVec 8) : S25 [.int .u8 (k.toNat : Nat), .int .u8 x] = some ⟨.int .u8 ((prod k (BitVec.ofInt 8 x)).toNat : Nat), none⟩ := by
  have h := S25_eq k (BitVec.ofInt 8 x)
  rw [bv8_ofInt hx.1 hx.2] at h
  exact h
theorem xorZ_mix (a b : BitVec 8) (x : Int) (hx : 0 ≤ x ∧ x < 256) : xorZ .u8 (a.toNat : Int) x = ((a ^^^ BitVec.ofInt 8 x).toNat : Int) := by
  rw [xorZ_u8, ofInt8_bv]

set_option maxRecDepth 100000 in
theorem snd36 : SndE Try.prog NoG 36 S36 := by
  refine snd_nz (snd_by [(25, S25), (64, S64)] [] Try.func36 (by kernel_rfl) lite36 nt36 rs36 ⟨snd25, snd64, trivial⟩ trivial (fun hT args r h => ?_))
  obtain ⟨s, hd0, rfl, rfl⟩ := S36_inv h
  clear h
  have hM := hM0
  refine ⟨Nat.le_of_ble_eq_true rfl, fun F => ?_⟩
  unfold L36
  have hl := hd0.1
  refine Lwp.seq (Lwp.regI hT ?_)
  simp only [L36r0, go_sem, eq_self, Nat.reduceAdd, Nat.reduceLT, reduceCtorEq, decide_true, ty22]
  refine Lwp.seq (Lwp.regI hT ?_)
  simp only [L36r1, go_sem, eq_self, Nat.reduceAdd, Nat.reduceLT, Nat.reduceEqDiff, reduceCtorEq, decide_true, ty22]
  refine Lwp.seq ?_
  refine Lwp.seq (Lwp.regI hT ?_)
  simp only [L36r2, go_sem, eq_self, Nat.reduceAdd, Nat.reduceLT, decide_true]
  refine Lwp.block (Lwp.range (St36 s) 4 ?_ (fun c hc => ?_) ?_)
  · refine weak_of rfl ?_ ?_ ?_
    · (simp only [go_sem, eq_self, Nat.reduceMul, Nat.reduceEqDiff, reduceCtorEq, St36, upto_zero]; try rfl)
    · (simp only [go_sem, eq_self, Nat.reduceMul, Nat.reduceEqDiff, reduceCtorEq, St36, upto_zero]; try rfl)
    · (simp only [go_sem, eq_self, Nat.reduceMul, Nat.reduceEqDiff, reduceCtorEq, St36, upto_zero]; try rfl)
  · have h1 : (c : Int) < 4 := by omega
    have h4 := wrap_succ hc (by decide)
    unfold St36
    refine Lwp.seq (Lwp.regI hT ?_)
    simp only [L36r3, go_sem, eq_self, Nat.reduceAdd, Nat.reduceLT, Nat.reduceEqDiff, decide_true, h1]
    refine Lwp.seq (Lwp.cond rfl (fun _ => Lwp.skip ?_) (fun h => by cases h))
    simp only [go_sem]
    refine Lwp.seq (Lwp.block ?_)
    refine Lwp.seq (Lwp.regI hT ?_)
    simp only [L36r4, go_sem, eq_self, Nat.reduceAdd, Nat.reduceLT, Nat.reduceLeDiff, Nat.reduceEqDiff, reduceCtorEq, decide_true, ty3]
    refine Lwp.seq (Lwp.regI hT ?_)
    simp only [L36r5, go_sem, eq_self, Nat.reduceAdd, Nat.reduceLT, decide_true]
    refine Lwp.block (Lwp.range (St36i s c) 4 ?_ (fun ro hr => ?_) ?_)
    · refine weak_of rfl ?_ ?_ ?_
      · (simp only [go_sem, eq_self, Nat.reduceEqDiff, St36i]; try rfl)
      · (simp only [go_sem, eq_self, Nat.reduceEqDiff, reduceCtorEq, St36i]; try rfl)
      · (simp only [go_sem, eq_self, Nat.reduceEqDiff, reduceCtorEq, St36i]; try rfl)
    · have g1 : (ro : Int) < 4 := by omega
      have g4 := wrap_succ hr (by decide)
      have f0 : S64 [.int .i64 0, .iptr (ints .u8 s) 0, .iptr [.int .i64 c] 0, .iptr [.int .i64 ro] 0] = some ⟨.int .u8 (s.getD (4 * c + (ro + 0) % 4) 0), none⟩ := S64_eq s c ro 0 hd0 hc hr (by decide)
      have f1 : S64 [.int .i64 1, .iptr (ints .u8 s) 0, .iptr [.int .i64 c] 0, .iptr [.int .i64 ro] 0] = some ⟨.int .u8 (s.getD (4 * c + (ro + 1) % 4) 0), none⟩ := S64_eq s c ro 1 hd0 hc hr (by decide)
      have f2 : S64 [.int .i64 2, .iptr (ints .u8 s) 0, .iptr [.int .i64 c] 0, .iptr [.int .i64 ro] 0] = some ⟨.int .u8 (s.getD (4 * c + (ro + 2) % 4) 0), none⟩ := S64_eq s c ro 2 hd0 hc hr (by decide)
      have f3 : S64 [.int .i64 3, .iptr (ints .u8 s) 0, .iptr [.int .i64 c] 0, .iptr [.int .i64 ro] 0] = some ⟨.int .u8 (s.getD (4 * c + (ro + 3) % 4) 0), none⟩ := S64_eq s c ro 3 hd0 hc hr (by decide)
      rw [Nat.add_zero, Nat.mod_eq_of_lt hr] at f0
      have p0 : S25 [.int .u8 2, .int .u8 (s.getD (4 * c + ro) 0)] = _ := prod_int _ (hd0.at (4 * c + ro)) 2#8
      have p1 : S25 [.int .u8 3, .int .u8 (s.getD (4 * c + (ro + 1) % 4) 0)] = _ := prod_int _ (hd0.at (4 * c + (ro + 1) % 4)) 3#8
      have v0 := bl_B16 (mixS (sb s))
      have e1 : IntKind.i64.wrap (4 * (c : Int)) = 4 * (c : Int) := wrap_i64 (by omega) (by omega)
      have e2 : IntKind.i64.wrap (4 * (c : Int) + (ro : Int)) = ((4 * c + ro : Nat) : Int) := by rw [wrap_i64 (by omega) (by omega)]; omega
      have k4 : (0 : Int) ≤ ((4 * c + ro : Nat) : Int) := by omega
      have k5 : ((4 * c + ro : Nat) : Int) < 16 := by omega
      have k6 : 4 * c + ro < 16 := by omega
      have k7 : 4 * c + ro ≤ 15 := by omega
      have x0 := xorZ_u8_bv (prod 2#8 (BitVec.ofInt 8 (s.getD (4 * c + ro) 0))) (prod 3#8 (BitVec.ofInt 8 (s.getD (4 * c + (ro + 1) % 4) 0)))
      have x1 := xorZ_mix (prod 2#8 (BitVec.ofInt 8 (s.getD (4 * c + ro) 0)) ^^^ prod 3#8 (BitVec.ofInt 8 (s.getD (4 * c + (ro + 1) % 4) 0))) 0#8 _ (hd0.at (4 * c + (ro + 2) % 4))
      have x2 := xorZ_mix (prod 2#8 (BitVec.ofInt 8 (s.getD (4 * c + ro) 0)) ^^^ prod 3#8 (BitVec.ofInt 8 (s.getD (4 * c + (ro + 1) % 4) 0)) ^^^ BitVec.ofInt 8 (s.getD (4 * c + (ro + 2) % 4) 0)) 0#8 _ (hd0.at (4 * c + (ro + 3) % 4))
      have h5 := upto_set 16 (mixI s) (4 * c + ro) _ (show ((prod 2#8 (BitVec.ofInt 8 (s.getD (4 * c + ro) 0)) ^^^ prod 3#8 (BitVec.ofInt 8 (s.getD (4 * c + (ro + 1) % 4) 0)) ^^^ BitVec.ofInt 8 (s.getD (4 * c + (ro + 2) % 4) 0) ^^^ BitVec.ofInt 8 (s.getD (4 * c + (ro + 3) % 4) 0)).toNat : Int) = mixI s (4 * c + ro) by rw [mixI, mixS_at _ c ro hr]; rfl)
      unfold St36i
      refine Lwp.seq (Lwp.regI hT ?_)
      simp only [L36r6, go_sem, eq_self, Nat.reduceAdd, Nat.reduceLT, Nat.reduceEqDiff, decide_true, g1]
      refine Lwp.seq (Lwp.cond rfl (fun _ => Lwp.skip ?_) (fun h => by cases h))
      simp only [go_sem]
      refine Lwp.seq (Lwp.block ?_)
      refine Lwp.seq (Lwp.regI hT ?_)
      simp only [L36r7, go_sem, eq_self, Nat.reduceAdd, Nat.reduceLT, Nat.reduceLeDiff, Nat.reduceEqDiff, reduceCtorEq, decide_true, ty3]
      refine Lwp.seq (Lwp.regI hT ?_)
      simp only [L36r8, go_sem, eq_self, Nat.reduceAdd, Nat.reduceLT, Nat.reduceEqDiff, decide_true]
      generalize s.getD (4 * c + (ro + 1) % 4) 0 = y1 at *
      generalize s.getD (4 * c + (ro + 2) % 4) 0 = y2 at *
      generalize s.getD (4 * c + (ro + 3) % 4) 0 = y3 at *
      generalize s.getD (4 * c + ro) 0 = y0 at *
      rw [show 4 * c + ro + 1 = 4 * c + (ro + 1) by omega] at h5
      generalize hq : 4 * c + ro = q at *
      refine Lwp.regD hT hM ?_
      simp only [L36r9, go_sem, List.isEmpty_nil, eq_self, Nat.reduceAdd, Nat.reduceSub, Nat.reduceLT, Nat.reduceLeDiff, Nat.reduceEqDiff, Nat.reduceDiv, Nat.reduceMod, Nat.reducePow, reduceCtorEq, decide_true, decide_false, Bool.false_eq_true, ty3, ty5, ty22, List.getD_cons_zero, e1, e2, k4, k5, k7, f0, f1, f2, f3, p0, p1, x0, x1, x2, upto_len]
      refine Lwp.regI hT ?_
      simp only [L36r10, go_sem, eq_self, Nat.reduceAdd, Nat.reduceLT, Nat.reduceEqDiff, decide_true, g4]
      refine weak_of rfl ?_ ?_ ?_
      · (simp only [go_sem, eq_self, Nat.reduceEqDiff]; try rfl)
      · (simp only [go_sem, eq_self, Nat.reduceEqDiff, reduceCtorEq, h5]; try rfl)
      · (simp only [go_sem, eq_self, Nat.reduceEqDiff, reduceCtorEq]; try rfl)
    · unfold St36i
      refine Lwp.seq (Lwp.regI hT ?_)
      simp only [L36r6, go_sem, eq_self, Nat.reduceAdd, Nat.reduceLT, Nat.reduceEqDiff, Int.reduceLT, decide_true, decide_false]
      refine Lwp.seq (Lwp.cond rfl (fun h => by cases h) (fun _ => Lwp.exit ?_))
      simp only [go_sem, eq_self, Nat.reduceEqDiff, reduceCtorEq]
      refine Lwp.regI hT ?_
      simp only [L36r11, go_sem, eq_self, Nat.reduceAdd, Nat.reduceLT, Nat.reduceEqDiff, decide_true, h4]
      refine weak_of rfl ?_ ?_ ?_
      · (simp only [go_sem, eq_self, Nat.reduceEqDiff]; try rfl)
      · (simp only [go_sem, eq_self, Nat.reduceEqDiff, reduceCtorEq]; try rfl)
      · (simp only [go_sem, eq_self, Nat.reduceEqDiff, reduceCtorEq]; try rfl)
  · unfold St36
    refine Lwp.seq (Lwp.regI hT ?_)
    simp only [L36r3, go_sem, eq_self, Nat.reduceAdd, Nat.reduceMul, Nat.reduceLT, Nat.reduceEqDiff, Int.reduceLT, decide_true, decide_false]
    refine Lwp.seq (Lwp.cond rfl (fun h => by cases h) (fun _ => Lwp.exit ?_))
    simp only [go_sem, eq_self]
    have u1 : upto 16 (mixI s) 16 = mixed s := upto_full _ _
    have u2 := mixed_len s
    refine Lwp.seq (Lwp.regI hT ?_)
    simp only [L36r12, go_sem, eq_self, Nat.reduceAdd, Nat.reduceLT, Nat.reduceLeDiff, Nat.reduceEqDiff, reduceCtorEq, decide_true, ty22, u1, u2]
    refine Lwp.ret (post_val (v := .agg (ints .u8 (mixed s))) ?_ ?_)
    · simp only [go_sem, eq_self, Nat.reduceLT, Nat.reduceLeDiff, Nat.reduceEqDiff, reduceCtorEq, ty22, u2]
    · simp only [go_sem, eq_self]
end Eng


namespace Eng
open Go Go.Proofs
set_option linter.unusedSimpArgs false
set_option linter.unusedVariables false
def rowT : Nat → List Int
  | 0 => [2, 3, 1, 1]
  | 1 => [1, 2, 3, 1]
  | 2 => [1, 1, 2, 3]
  | _ => [3, 1, 1, 2]
theorem rowT_len : ∀ ro, (rowT ro).length = 4
  | 0 => rfl | 1 => rfl | 2 => rfl | _ + 3 => rfl
theorem rowT_U8 (ro k : Nat) : 0 ≤ (rowT ro).getD k 0 ∧ (rowT ro).getD k 0 < 256 := by
  have h : U8L (rowT ro) := by
    intro x hx
    match ro with
    | 0 | 1 | 2 | n + 3 => simp [rowT] at hx; omega
  rcases Nat.lt_or_ge k (rowT ro).length with hi | hi
  · rw [List.getD_eq_getElem?_getD, List.getElem?_eq_getElem hi, Option.getD_some]
    exact h _ (List.getElem_mem hi)
  · rw [List.getD_eq_getElem?_getD, List.getElem?_eq_none hi]
    exact ⟨by decide, by decide⟩
def refA (s : List Int) (c ro : Nat) : Nat → BitVec 8
  | 0 => 0#8
  | k + 1 => refA s c ro k ^^^ prod (BitVec.ofInt 8 ((rowT ro).getD k 0)) (BitVec.ofInt 8 (s.getD (4 * c + k) 0))
theorem refA_four (s : List Int) (c : Nat) : ∀ ro, ro < 4 → ((refA s c ro 4).toNat : Int) = mixI s (4 * c + ro) := by
  intro ro hr
  rw [mixI, mixS_at _ c ro hr]
  have h1 : BitVec.ofInt 8 1 = 1#8 := rfl
  have h2 : BitVec.ofInt 8 2 = 2#8 := rfl
  have h3 : BitVec.ofInt 8 3 = 3#8 := rfl
  congr 2
  rcases (show ro = 0 ∨ ro = 1 ∨ ro = 2 ∨ ro = 3 by omega) with h | h | h | h <;> subst h <;>
  (simp only [refA, rowT, List.getD_cons_zero, List.getD_cons_succ, h1, h2, h3, prod_one, mixC, sb, Nat.add_zero, Nat.reduceAdd, Nat.reduceMod, BitVec.zero_xor]
   try simp only [BitVec.xor_comm, xlc])
/-- Below j all is laid; at j it is p. -/
def ptA (f : Nat → Int) (j : Nat) (p : Int) : List Int := tab 16 (fun i => if i < j then f i else if i = j then p else 0)
theorem ptA_len (f : Nat → Int) (j : Nat) (p : Int) : (ptA f j p).length = 16 := tab_len _ _
theorem ptA_at (f : Nat → Int) {j : Nat} (h : j < 16) (p : Int) : (ptA f j p).getD j 0 = p := by rw [ptA, tab_getD _ _ h, if_neg (by omega), if_pos rfl]
theorem ptA_set (f : Nat → Int) (j : Nat) (p q : Int) : (ptA f j p).set j q = ptA f j q := tab_set _ _ _ _ _ fun i _ => by
  by_cases e : i = j
  · subst e; rw [if_pos rfl, if_neg (by omega), if_pos rfl]
  · rw [if_neg e, if_neg e]
    by_cases h2 : i < j
    · rw [if_pos h2, if_pos h2]
    · rw [if_neg h2, if_neg h2, if_neg e]
theorem ptA_zero (f : Nat → Int) (j : Nat) : ptA f j 0 = upto 16 f j := tab_ext fun i _ => by
  by_cases h : i < j
  · rw [if_pos h, if_pos h]
  · rw [if_neg h, if_neg h]; split <;> rfl
theorem ptA_zero' (f : Nat → Int) (j : Nat) : ptA f j (((0#8).toNat : Nat) : Int) = upto 16 f j := ptA_zero f j
theorem ptA_full (f : Nat → Int) (j : Nat) (p : Int) (hp : p = f j) : ptA f j p = upto 16 f (j + 1) := tab_ext fun i _ => by
  by_cases h : i < j
  · rw [if_pos h, if_pos (by omega)]
  · rw [if_neg h]
    by_cases e : i = j
    · subst e; rw [if_pos rfl, if_pos (by omega), hp]
    · rw [if_neg e, if_neg (by omega)]

noncomputable def S37 : List AV → Option Ret := nz (sumOf (fun p : List Int => match p with | s => (B16 s)) (fun p : List Int => match p with | s => [.agg (ints .u8 s)]) (fun p : List Int => match p with | s => ⟨.agg (ints .u8 (mixed s)), none⟩))
theorem S37_eq (s : List Int) (h0 : B16 s) : S37 [.agg (ints .u8 s)] = some ⟨.agg (ints .u8 (mixed s)), none⟩ :=
  sumOf_eq (dom := (fun p : List Int => match p with | s => (B16 s))) (enc := (fun p : List Int => match p with | s => [.agg (ints .u8 s)])) (out := (fun p : List Int => match p with | s => ⟨.agg (ints .u8 (mixed s)), none⟩)) s h0 (fun y _ e => by
    simp only [List.cons.injEq, AV.agg.injEq, ints_injEq, and_true] at e
    first | with_reducible rfl | simp only [e] | rfl)
theorem S37_inv {args : List AV} {r : Ret} (h : sumOf (fun p : List Int => match p with | s => (B16 s)) (fun p : List Int => match p with | s => [.agg (ints .u8 s)]) (fun p : List Int => match p with | s => ⟨.agg (ints .u8 (mixed s)), none⟩) args = some r) : ∃ (s : List Int), ((B16 s)) ∧ args = [.agg (ints .u8 s)] ∧ r = ⟨.agg (ints .u8 (mixed s)), none⟩ := by
  obtain ⟨x, h1, h2, h3⟩ := sumOf_inv h
  exact ⟨x, h1, h2.symm, h3⟩


def M37 (s l : List Int) : List (Nat × List AV) := [(0, ints .u8 s), (1, ints .u8 (List.replicate 16 0)), (2, ints .u8 (rowT 0)), (3, ints .u8 (rowT 1)), (4, ints .u8 (rowT 2)), (5, ints .u8 (rowT 3)), (6, [.osl 2 0 4 1, .osl 3 0 4 1, .osl 4 0 4 1, .osl 5 0 4 1]), (8, ints .u8 l)]
def St37 (s : List Int) (c : Nat) : AState := { nt := 52, env := [(1, .own 0 0), (2, .own 1 0), (3, .osl 6 0 4 1), (4, .own 8 0), (5, .int .i64 c)], mem := M37 s (upto 16 (mixI s) (4 * c)), next := 20 }
def St37i (s : List Int) (c ro : Nat) : AState := { nt := 52, env := [(1, .own 0 0), (2, .own 1 0), (3, .osl 6 0 4 1), (4, .own 8 0), (5, .int .i64 c), (6, .int .i64 ro)], mem := M37 s (upto 16 (mixI s) (4 * c + ro)), next := 20 }
def St37k (s : List Int) (c ro k : Nat) : AState := { nt := 52, env := [(1, .own 0 0), (2, .own 1 0), (3, .osl 6 0 4 1), (4, .own 8 0), (5, .int .i64 c), (6, .int .i64 ro), (7, .int .i64 k)], mem := M37 s (ptA (mixI s) (4 * c + ro) ((refA s c ro k).toNat : Nat)), next := 20 }
theorem refp_int (x y : Int) (hx : 0 ≤ x ∧ x < 256) (hy : 0 ≤ y ∧ y < 256) : S26 [.int .u8 x, .int .u8 y] = some ⟨.int .u8 ((prod (BitVec.ofInt 8 x) (BitVec.ofInt 8 y)).toNat : Nat), none⟩ := by
  have h := S26_eq (BitVec.ofInt 8 x) (BitVec.ofInt 8 y)
  rw [bv8_ofInt hx.1 hx.2, bv8_ofInt hy.1 hy.2, ref_prod] at h
  exact h

set_option maxRecDepth 100000 in
theorem snd37 : SndE Try.prog NoG 37 S37 := by
  refine snd_nz (snd_by [(26, S26)] [] Try.func37 (by kernel_rfl) lite37 nt37 rs37 ⟨snd26, trivial⟩ trivial (fun hT args r h => ?_))
  obtain ⟨s, hd0, rfl, rfl⟩ := S37_inv h
  clear h
  have hM := hM0
  refine ⟨Nat.le_of_ble_eq_true rfl, fun F => ?_⟩
  unfold L37
  have hl := hd0.1
  refine Lwp.seq (Lwp.regI hT ?_)
  simp only [L37r0, go_sem, eq_self, Nat.reduceAdd, Nat.reduceLT, reduceCtorEq, decide_true, ty22]
  refine Lwp.seq (Lwp.regI hT ?_)
  simp only [L37r1, go_sem, eq_self, Nat.reduceAdd, Nat.reduceLT, Nat.reduceLeDiff, Nat.reduceEqDiff, reduceCtorEq, decide_true, ty5, ty27, ty85]
  refine Lwp.seq (Lwp.regI hT ?_)
  simp only [L37r2, go_sem, eq_self, Nat.reduceAdd, Nat.reduceLT, Nat.reduceEqDiff, reduceCtorEq, decide_true, ty22]
  refine Lwp.seq ?_
  refine Lwp.seq (Lwp.regI hT ?_)
  simp only [L37r3, go_sem, eq_self, Nat.reduceAdd, Nat.reduceLT, decide_true]
  refine Lwp.block (Lwp.range (St37 s) 4 ?_ (fun c hc => ?_) ?_)
  · refine weak_of rfl ?_ ?_ ?_
    · (simp only [go_sem, eq_self, Nat.reduceMul, Nat.reduceEqDiff, reduceCtorEq, St37, M37, upto_zero, rowT, ints_cons, ints_nil]; try rfl)
    · (simp only [go_sem, eq_self, Nat.reduceMul, Nat.reduceEqDiff, reduceCtorEq, St37, M37, upto_zero, rowT, ints_cons, ints_nil]; try rfl)
    · (simp only [go_sem, eq_self, Nat.reduceMul, Nat.reduceEqDiff, reduceCtorEq, St37, M37, upto_zero, rowT, ints_cons, ints_nil]; try rfl)
  · have h1 : (c : Int) < 4 := by omega
    have h4 := wrap_succ hc (by decide)
    unfold St37 M37
    refine Lwp.seq ?_
    refine Lwp.seq (Lwp.regI hT ?_)
    simp only [L37r4, go_sem, eq_self, Nat.reduceAdd, Nat.reduceLT, Nat.reduceEqDiff, decide_true, h1]
    refine Lwp.cond rfl (fun _ => Lwp.skip ?_) (fun h => by cases h)
    simp only [go_sem]
    refine Lwp.seq (Lwp.block ?_)
    refine Lwp.seq (Lwp.regI hT ?_)
    simp only [L37r6, go_sem, eq_self, Nat.reduceAdd, Nat.reduceLT, decide_true]
    refine Lwp.block (Lwp.range (St37i s c) 4 ?_ (fun ro hr => ?_) ?_)
    · refine weak_of rfl ?_ ?_ ?_
      · (simp only [go_sem, eq_self, Nat.reduceEqDiff, St37i, M37]; try rfl)
      · (simp only [go_sem, eq_self, Nat.reduceEqDiff, reduceCtorEq, St37i, M37]; try rfl)
      · (simp only [go_sem, eq_self, Nat.reduceEqDiff, reduceCtorEq, St37i, M37]; try rfl)
    · have g1 : (ro : Int) < 4 := by omega
      have g4 := wrap_succ hr (by decide)
      unfold St37i M37
      refine Lwp.seq ?_
      refine Lwp.seq (Lwp.regI hT ?_)
      simp only [L37r7, go_sem, eq_self, Nat.reduceAdd, Nat.reduceLT, Nat.reduceEqDiff, decide_true, g1]
      refine Lwp.cond rfl (fun _ => Lwp.skip ?_) (fun h => by cases h)
      simp only [go_sem]
      refine Lwp.seq (Lwp.block ?_)
      refine Lwp.seq (Lwp.regI hT ?_)
      simp only [L37r9, go_sem, eq_self, Nat.reduceAdd, Nat.reduceLT, decide_true]
      refine Lwp.block (Lwp.range (St37k s c ro) 4 ?_ (fun k hk => ?_) ?_)
      · refine weak_of rfl ?_ ?_ ?_
        · (simp only [go_sem, eq_self, Nat.reduceEqDiff, St37k, M37, refA, ptA_zero']; try rfl)
        · (simp only [go_sem, eq_self, Nat.reduceEqDiff, reduceCtorEq, St37k, M37, refA, ptA_zero']; try rfl)
        · (simp only [go_sem, eq_self, Nat.reduceEqDiff, reduceCtorEq, St37k, M37, refA, ptA_zero']; try rfl)
      · have m1 : (k : Int) < 4 := by omega
        have m2 : (0 : Int) ≤ k := by omega
        have m3 : (0 : Int) ≤ ro := by omega
        have m4 := wrap_succ hk (by decide)
        have m5 : ro ≤ 3 := by omega
        have m6 : k ≤ 3 := by omega
        have e1 : IntKind.i64.wrap (4 * (c : Int)) = 4 * (c : Int) := wrap_i64 (by omega) (by omega)
        have e2 : IntKind.i64.wrap (4 * (c : Int) + (ro : Int)) = ((4 * c + ro : Nat) : Int) := by rw [wrap_i64 (by omega) (by omega)]; omega
        have e3 : IntKind.i64.wrap (4 * (c : Int) + (k : Int)) = ((4 * c + k : Nat) : Int) := by rw [wrap_i64 (by omega) (by omega)]; omega
        have k4 : (0 : Int) ≤ ((4 * c + ro : Nat) : Int) := by omega
        have k5 : ((4 * c + ro : Nat) : Int) < 16 := by omega
        have k6 : 4 * c + ro < 16 := by omega
        have k7 : 4 * c + ro ≤ 15 := by omega
        have j4 : (0 : Int) ≤ ((4 * c + k : Nat) : Int) := by omega
        have j5 : ((4 * c + k : Nat) : Int) < 16 := by omega
        have j6 : 4 * c + k < 16 := by omega
        have j7 : 4 * c + k ≤ 15 := by omega
        have p0 := refp_int _ _ (rowT_U8 ro k) (hd0.at (4 * c + k))
        have x0 := xorZ_u8_bv (refA s c ro k) (prod (BitVec.ofInt 8 ((rowT ro).getD k 0)) (BitVec.ofInt 8 (s.getD (4 * c + k) 0)))
        have x1 := ptA_at (mixI s) k6 ((refA s c ro k).toNat : Nat)
        have x2 := ptA_len (mixI s) (4 * c + ro) ((refA s c ro k).toNat : Nat)
        have x3 : (ptA (mixI s) (4 * c + ro) ((refA s c ro k).toNat : Nat)).set (4 * c + ro) ((refA s c ro k ^^^ prod (BitVec.ofInt 8 ((rowT ro).getD k 0)) (BitVec.ofInt 8 (s.getD (4 * c + k) 0))).toNat : Nat) = ptA (mixI s) (4 * c + ro) ((refA s c ro (k + 1)).toNat : Nat) := by rw [ptA_set]; rfl
        have l0 := rowT_len
        unfold St37k M37
        refine Lwp.seq ?_
        refine Lwp.seq (Lwp.regI hT ?_)
        simp only [L37r10, go_sem, eq_self, Nat.reduceAdd, Nat.reduceLT, Nat.reduceEqDiff, decide_true, m1]
        refine Lwp.cond rfl (fun _ => Lwp.skip ?_) (fun h => by cases h)
        simp only [go_sem]
        refine Lwp.seq (Lwp.block ?_)
        generalize hq : 4 * c + ro = q at *
        generalize hq2 : 4 * c + k = q2 at *
        rcases (show ro = 0 ∨ ro = 1 ∨ ro = 2 ∨ ro = 3 by omega) with hro | hro | hro | hro
        · have hrow : (rowT 0).getD k 0 = (rowT ro).getD k 0 := by rw [hro]
          have hsel : ([.osl 2 0 4 1, .osl 3 0 4 1, .osl 4 0 4 1, .osl 5 0 4 1] : List AV).getD ro .any = .osl 2 0 4 1 := by rw [hro]; rfl
          refine Lwp.regD hT hM ?_
          simp only [L37r12, go_sem, List.isEmpty_nil, eq_self, Nat.reduceAdd, Nat.reduceSub, Nat.reduceLT, Nat.reduceLeDiff, Nat.reduceEqDiff, Nat.reduceDiv, Nat.reduceMod, Nat.reducePow, reduceCtorEq, decide_true, decide_false, Bool.false_eq_true, ty5, ty22, ty27, ty85, e1, e2, e3, k4, k5, k6, k7, j4, j5, j6, j7, m1, m2, m3, m5, m6, g1, hr, hk, hsel, hrow, l0, p0, x0, x1, x2, hl]
          refine Lwp.regI hT ?_
          simp only [L37r11, go_sem, eq_self, Nat.reduceAdd, Nat.reduceLT, Nat.reduceEqDiff, decide_true, m4]
          refine weak_of rfl ?_ ?_ ?_
          · (simp only [go_sem, eq_self, Nat.reduceEqDiff]; try rfl)
          · (simp only [go_sem, eq_self, Nat.reduceEqDiff, reduceCtorEq, x3]; try rfl)
          · (simp only [go_sem, eq_self, Nat.reduceEqDiff, reduceCtorEq]; try rfl)
        · have hrow : (rowT 1).getD k 0 = (rowT ro).getD k 0 := by rw [hro]
          have hsel : ([.osl 2 0 4 1, .osl 3 0 4 1, .osl 4 0 4 1, .osl 5 0 4 1] : List AV).getD ro .any = .osl 3 0 4 1 := by rw [hro]; rfl
          refine Lwp.regD hT hM ?_
          simp only [L37r12, go_sem, List.isEmpty_nil, eq_self, Nat.reduceAdd, Nat.reduceSub, Nat.reduceLT, Nat.reduceLeDiff, Nat.reduceEqDiff, Nat.reduceDiv, Nat.reduceMod, Nat.reducePow, reduceCtorEq, decide_true, decide_false, Bool.false_eq_true, ty5, ty22, ty27, ty85, e1, e2, e3, k4, k5, k6, k7, j4, j5, j6, j7, m1, m2, m3, m5, m6, g1, hr, hk, hsel, hrow, l0, p0, x0, x1, x2, hl]
          refine Lwp.regI hT ?_
          simp only [L37r11, go_sem, eq_self, Nat.reduceAdd, Nat.reduceLT, Nat.reduceEqDiff, decide_true, m4]
          refine weak_of rfl ?_ ?_ ?_
          · (simp only [go_sem, eq_self, Nat.reduceEqDiff]; try rfl)
          · (simp only [go_sem, eq_self, Nat.reduceEqDiff, reduceCtorEq, x3]; try rfl)
          · (simp only [go_sem, eq_self, Nat.reduceEqDiff, reduceCtorEq]; try rfl)
        · have hrow : (rowT 2).getD k 0 = (rowT ro).getD k 0 := by rw [hro]
          have hsel : ([.osl 2 0 4 1, .osl 3 0 4 1, .osl 4 0 4 1, .osl 5 0 4 1] : List AV).getD ro .any = .osl 4 0 4 1 := by rw [hro]; rfl
          refine Lwp.regD hT hM ?_
          simp only [L37r12, go_sem, List.isEmpty_nil, eq_self, Nat.reduceAdd, Nat.reduceSub, Nat.reduceLT, Nat.reduceLeDiff, Nat.reduceEqDiff, Nat.reduceDiv, Nat.reduceMod, Nat.reducePow, reduceCtorEq, decide_true, decide_false, Bool.false_eq_true, ty5, ty22, ty27, ty85, e1, e2, e3, k4, k5, k6, k7, j4, j5, j6, j7, m1, m2, m3, m5, m6, g1, hr, hk, hsel, hrow, l0, p0, x0, x1, x2, hl]
          refine Lwp.regI hT ?_
          simp only [L37r11, go_sem, eq_self, Nat.reduceAdd, Nat.reduceLT, Nat.reduceEqDiff, decide_true, m4]
          refine weak_of rfl ?_ ?_ ?_
          · (simp only [go_sem, eq_self, Nat.reduceEqDiff]; try rfl)
          · (simp only [go_sem, eq_self, Nat.reduceEqDiff, reduceCtorEq, x3]; try rfl)
          · (simp only [go_sem, eq_self, Nat.reduceEqDiff, reduceCtorEq]; try rfl)
        · have hrow : (rowT 3).getD k 0 = (rowT ro).getD k 0 := by rw [hro]
          have hsel : ([.osl 2 0 4 1, .osl 3 0 4 1, .osl 4 0 4 1, .osl 5 0 4 1] : List AV).getD ro .any = .osl 5 0 4 1 := by rw [hro]; rfl
          refine Lwp.regD hT hM ?_
          simp only [L37r12, go_sem, List.isEmpty_nil, eq_self, Nat.reduceAdd, Nat.reduceSub, Nat.reduceLT, Nat.reduceLeDiff, Nat.reduceEqDiff, Nat.reduceDiv, Nat.reduceMod, Nat.reducePow, reduceCtorEq, decide_true, decide_false, Bool.false_eq_true, ty5, ty22, ty27, ty85, e1, e2, e3, k4, k5, k6, k7, j4, j5, j6, j7, m1, m2, m3, m5, m6, g1, hr, hk, hsel, hrow, l0, p0, x0, x1, x2, hl]
          refine Lwp.regI hT ?_
          simp only [L37r11, go_sem, eq_self, Nat.reduceAdd, Nat.reduceLT, Nat.reduceEqDiff, decide_true, m4]
          refine weak_of rfl ?_ ?_ ?_
          · (simp only [go_sem, eq_self, Nat.reduceEqDiff]; try rfl)
          · (simp only [go_sem, eq_self, Nat.reduceEqDiff, reduceCtorEq, x3]; try rfl)
          · (simp only [go_sem, eq_self, Nat.reduceEqDiff, reduceCtorEq]; try rfl)
      · unfold St37k M37
        refine Lwp.seq ?_
        refine Lwp.seq (Lwp.regI hT ?_)
        simp only [L37r10, go_sem, eq_self, Nat.reduceAdd, Nat.reduceLT, Nat.reduceEqDiff, Int.reduceLT, decide_true, decide_false]
        refine Lwp.cond rfl (fun h => by cases h) (fun _ => Lwp.exit ?_)
        simp only [go_sem, eq_self, Nat.reduceEqDiff, reduceCtorEq]
        refine Lwp.regI hT ?_
        simp only [L37r8, go_sem, eq_self, Nat.reduceAdd, Nat.reduceLT, Nat.reduceEqDiff, decide_true, g4]
        have y1 := ptA_full (mixI s) (4 * c + ro) _ (refA_four s c ro hr)
        refine weak_of rfl ?_ ?_ ?_
        · (simp only [go_sem, eq_self, Nat.reduceEqDiff]; try rfl)
        · (simp only [go_sem, eq_self, Nat.reduceEqDiff, reduceCtorEq, y1, Nat.add_assoc]; try rfl)
        · (simp only [go_sem, eq_self, Nat.reduceEqDiff, reduceCtorEq]; try rfl)
    · unfold St37i M37
      refine Lwp.seq ?_
      refine Lwp.seq (Lwp.regI hT ?_)
      simp only [L37r7, go_sem, eq_self, Nat.reduceAdd, Nat.reduceLT, Nat.reduceEqDiff, Int.reduceLT, decide_true, decide_false]
      refine Lwp.cond rfl (fun h => by cases h) (fun _ => Lwp.exit ?_)
      simp only [go_sem, eq_self, Nat.reduceEqDiff, reduceCtorEq]
      refine Lwp.regI hT ?_
      simp only [L37r5, go_sem, eq_self, Nat.reduceAdd, Nat.reduceLT, Nat.reduceEqDiff, decide_true, h4]
      refine weak_of rfl ?_ ?_ ?_
      · (simp only [go_sem, eq_self, Nat.reduceEqDiff]; try rfl)
      · (simp only [go_sem, eq_self, Nat.reduceEqDiff, reduceCtorEq]; try rfl)
      · (simp only [go_sem, eq_self, Nat.reduceEqDiff, reduceCtorEq]; try rfl)
  · unfold St37 M37
    refine Lwp.seq ?_
    refine Lwp.seq (Lwp.regI hT ?_)
    simp only [L37r4, go_sem, eq_self, Nat.reduceAdd, Nat.reduceMul, Nat.reduceLT, Nat.reduceEqDiff, Int.reduceLT, decide_true, decide_false]
    refine Lwp.cond rfl (fun h => by cases h) (fun _ => Lwp.exit ?_)
    simp only [go_sem, eq_self]
    have u1 : upto 16 (mixI s) 16 = mixed s := upto_full _ _
    have u2 := mixed_len s
    refine Lwp.seq (Lwp.regI hT ?_)
    simp only [L37r13, go_sem, eq_self, Nat.reduceAdd, Nat.reduceLT, Nat.reduceLeDiff, Nat.reduceEqDiff, reduceCtorEq, decide_true, ty22, u1, u2]
    refine Lwp.ret (post_val (v := .agg (ints .u8 (mixed s))) ?_ ?_)
    · simp only [go_sem, eq_self, Nat.reduceLT, Nat.reduceLeDiff, Nat.reduceEqDiff, reduceCtorEq, ty22, u2]
    · simp only [go_sem, eq_self]

end Eng


namespace Eng
open Go Go.Proofs
set_option linter.unusedSimpArgs false
set_option linter.unusedVariables false
theorem orZ_u8_bv (a b : BitVec 8) : orZ .u8 (a.toNat : Int) (b.toNat : Int) = ((a ||| b).toNat : Int) := by rw [orZ_u8, ofInt8_bv, ofInt8_bv]
end Eng


namespace Eng
open Go Go.Proofs
set_option linter.unusedSimpArgs false
set_option linter.unusedVariables false
theorem tab_succ (n : Nat) (f : Nat → Int) : tab (n + 1) f = tab n f ++ [f n] := by simp [tab, List.range_succ]
theorem shrZ_i64 (x n : Nat) (hn : n < 64) : shrZ .i64 (x : Int) (n : Int) = ((x / 2 ^ n : Nat) : Int) := by
  have h : shrZ .i64 (x : Int) (n : Int) = (x : Int).fdiv (2 ^ (min (n : Int).toNat 64)) := rfl
  rw [h, Int.toNat_natCast, Nat.min_eq_left (by omega), Int.fdiv_eq_ediv_of_nonneg _ (Int.le_of_lt (Int.pow_pos (by decide))), Int.natCast_ediv, Int.natCast_pow]
  rfl
def Bnd (l : List Int) (m : Int) : Prop := ∀ n, 0 ≤ l.getD n 0 ∧ l.getD n 0 ≤ m
theorem Bnd.mono {l : List Int} {m k : Int} (h : Bnd l m) (hk : m ≤ k) : Bnd l k := fun n => ⟨(h n).1, Int.le_trans (h n).2 hk⟩
end Eng

