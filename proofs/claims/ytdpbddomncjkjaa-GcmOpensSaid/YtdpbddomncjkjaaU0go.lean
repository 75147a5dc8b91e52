/- Contracts of the program's functions, and laws over them. There is no further condition. -/
import Derived.Test.YtdpbddomncjkjaaEC
import Derived.Test.YtdpbddomncjkjaaChecked
import Derived.KernelRfl
import Derived.Test.YtdpbddomncjkjaaED
import Derived.Test.YtdpbddomncjkjaaRows
set_option linter.unusedVariables false
set_option linter.unusedSimpArgs false
set_option linter.unusedSectionVars false
set_option exponentiation.threshold 2000
namespace Eng
open Go Go.Proofs
theorem ty3 : tyOf Try.prog 3 = some ⟨.int .i64, 1, 8, [.int .i64 0], false, true, true⟩ := by kernel_rfl
theorem ty5 : tyOf Try.prog 5 = some ⟨.int .u8, 1, 1, [.int .u8 0], false, true, true⟩ := by kernel_rfl
theorem ty9 : tyOf Try.prog 9 = some ⟨.string, 1, 16, [.str ⟨#[]⟩], false, true, true⟩ := by kernel_rfl
theorem ty22 : tyOf Try.prog 22 = some ⟨.array 16 5, 16, 16, ints .u8 (List.replicate 16 0), true, true, true⟩ := by kernel_rfl
theorem ty27 : tyOf Try.prog 27 = some ⟨.slice 5, 1, 24, [.nils], false, true, false⟩ := by kernel_rfl
theorem ty29 : tyOf Try.prog 29 = some ⟨.int .u64, 1, 8, [.int .u64 0], false, true, true⟩ := by kernel_rfl
theorem ty38 : tyOf Try.prog 38 = some ⟨.interface #[("Error", 100)], 1, 16, [.nili], false, true, true⟩ := by kernel_rfl
theorem ty41 : tyOf Try.prog 41 = some ⟨.int .i64, 1, 8, [.int .i64 0], false, true, true⟩ := by kernel_rfl
theorem ty56 : tyOf Try.prog 56 = some ⟨.slice 22, 1, 24, [.nils], false, true, false⟩ := by kernel_rfl
theorem ty76 : tyOf Try.prog 76 = some ⟨.int .u64, 1, 8, [.int .u64 0], false, true, true⟩ := by kernel_rfl
theorem ty78 : tyOf Try.prog 78 = some ⟨.slice 3, 1, 24, [.nils], false, true, false⟩ := by kernel_rfl
theorem ty85 : tyOf Try.prog 85 = some ⟨.slice 27, 1, 24, [.nils], false, true, false⟩ := by kernel_rfl
theorem ty88 : tyOf Try.prog 88 = some ⟨.array 4 5, 4, 4, ints .u8 (List.replicate 4 0), true, true, true⟩ := by kernel_rfl
theorem ty89 : tyOf Try.prog 89 = some ⟨.array 60 88, 240, 240, ints .u8 (List.replicate 240 0), true, true, true⟩ := by kernel_rfl
theorem ty91 : tyOf Try.prog 91 = some ⟨.struct #[⟨ "key", 27, 0, false, "", "escutcheon/gcm", 0⟩, ⟨ "nonce", 27, 1, false, "", "escutcheon/gcm", 24⟩], 2, 48, [.nils, .nils], true, true, false⟩ := by kernel_rfl
theorem ty99 : tyOf Try.prog 99 = some ⟨.int .u32, 1, 4, [.int .u32 0], false, true, true⟩ := by kernel_rfl
end Eng


namespace Eng
open Go Go.Proofs
theorem hM0 : Try.prog.follows .mixedOrders = true := by kernel_rfl
def L20r0 : List AOp := [
  ⟨(some 8), .assign (.const (.bool false)), none, 0⟩]
def L20r1 : List AOp := [
  ⟨(some 14), .call { callee := .value (.func 52), args := #[], argTypes := #[] }, none, 0⟩,
  ⟨(some 9), .assign (.tmp 14), none, 0⟩]
def L20r2 : List AOp := [
  ⟨(some 15), .move (.tmp 2), none, 0⟩,
  ⟨(some 16), .call { callee := .value (.func 53), args := #[.tmp 15, .const (.int .i64 200)], argTypes := #[27, 3] }, none, 0⟩,
  ⟨(some 2), .assign (.tmp 16), none, 0⟩]
def L20r3 : List AOp := [
  ⟨(some 17), .move (.tmp 3), none, 0⟩,
  ⟨(some 18), .call { callee := .value (.func 53), args := #[.tmp 17, .const (.int .i64 200)], argTypes := #[27, 3] }, none, 0⟩,
  ⟨(some 3), .assign (.tmp 18), none, 0⟩]
def L20r4 : List AOp := [
  ⟨(some 20), .move (.tmp 0), none, 0⟩,
  ⟨(some 21), .move (.tmp 1), none, 0⟩,
  ⟨(some 22), .move (.tmp 2), none, 0⟩,
  ⟨(some 23), .move (.tmp 3), none, 0⟩,
  ⟨(some 24), .call { callee := .value (.func 57), args := #[.tmp 20, .tmp 21, .tmp 22, .tmp 23], argTypes := #[27, 27, 27, 27] }, none, 0⟩,
  ⟨(some 19), .move (.tmp 24), none, 0⟩,
  ⟨(some 25), .extract (.tmp 19) 0, none, 0⟩,
  ⟨(some 26), .extract (.tmp 19) 1, none, 0⟩,
  ⟨(some 10), .assign (.tmp 25), none, 0⟩,
  ⟨(some 11), .assign (.tmp 26), none, 0⟩]
def L20r5 : List AOp := [
  ⟨(some 27), .move (.tmp 0), none, 0⟩,
  ⟨(some 28), .call { callee := .builtin .len, args := #[.tmp 27], argTypes := #[27] }, none, 0⟩,
  ⟨(some 29), .binOp .neq 3 (.tmp 28) (.const (.int .i64 32)) 3, none, 0⟩,
  ⟨(some 30), .move (.tmp 29), none, 0⟩,
  ⟨(some 31), .move (.tmp 1), (some (30, false)), 0⟩,
  ⟨(some 32), .call { callee := .builtin .len, args := #[.tmp 31], argTypes := #[27] }, (some (30, false)), 0⟩,
  ⟨(some 33), .binOp .neq 3 (.tmp 32) (.const (.int .i64 12)) 3, (some (30, false)), 0⟩,
  ⟨(some 34), .pick (.tmp 30) (.const (.bool true)) (.tmp 33), none, 0⟩]
def L20r6 : List AOp := [
  ⟨(some 35), .move (.tmp 9), none, 0⟩,
  ⟨(some 36), .move (.tmp 35), none, 0⟩,
  ⟨(some 37), .move (.tmp 11), (some (36, true)), 0⟩,
  ⟨(some 38), .makeInterface 41 (.const (.int .i64 1)), (some (36, true)), 0⟩,
  ⟨(some 39), .binOp .eql 38 (.tmp 37) (.tmp 38) 38, (some (36, true)), 0⟩,
  ⟨(some 40), .pick (.tmp 36) (.tmp 39) (.const (.bool false)), none, 0⟩,
  ⟨(some 41), .move (.tmp 40), none, 0⟩,
  ⟨(some 42), .move (.tmp 10), (some (41, true)), 0⟩,
  ⟨(some 43), .call { callee := .builtin .len, args := #[.tmp 42], argTypes := #[27] }, (some (41, true)), 0⟩,
  ⟨(some 44), .binOp .eql 3 (.tmp 43) (.const (.int .i64 0)) 3, (some (41, true)), 0⟩,
  ⟨(some 45), .pick (.tmp 41) (.tmp 44) (.const (.bool false)), none, 0⟩,
  ⟨(some 8), .assign (.tmp 45), none, 0⟩]
def L20r7 : List AOp := [
  ⟨(some 46), .move (.tmp 3), none, 0⟩,
  ⟨(some 47), .call { callee := .builtin .len, args := #[.tmp 46], argTypes := #[27] }, none, 0⟩,
  ⟨(some 48), .binOp .lss 3 (.tmp 47) (.const (.int .i64 16)) 3, none, 0⟩]
def L20r8 : List AOp := [
  ⟨(some 49), .move (.tmp 9), none, 0⟩,
  ⟨(some 50), .move (.tmp 49), none, 0⟩,
  ⟨(some 51), .move (.tmp 11), (some (50, true)), 0⟩,
  ⟨(some 52), .makeInterface 41 (.const (.int .i64 6)), (some (50, true)), 0⟩,
  ⟨(some 53), .binOp .eql 38 (.tmp 51) (.tmp 52) 38, (some (50, true)), 0⟩,
  ⟨(some 54), .pick (.tmp 50) (.tmp 53) (.const (.bool false)), none, 0⟩,
  ⟨(some 55), .move (.tmp 54), none, 0⟩,
  ⟨(some 56), .move (.tmp 10), (some (55, true)), 0⟩,
  ⟨(some 57), .call { callee := .builtin .len, args := #[.tmp 56], argTypes := #[27] }, (some (55, true)), 0⟩,
  ⟨(some 58), .binOp .eql 3 (.tmp 57) (.const (.int .i64 0)) 3, (some (55, true)), 0⟩,
  ⟨(some 59), .pick (.tmp 55) (.tmp 58) (.const (.bool false)), none, 0⟩,
  ⟨(some 8), .assign (.tmp 59), none, 0⟩]
def L20r9 : List AOp := [
  ⟨(some 60), .move (.tmp 3), none, 0⟩,
  ⟨(some 61), .call { callee := .builtin .len, args := #[.tmp 60], argTypes := #[27] }, none, 0⟩,
  ⟨(some 62), .binOp .sub 3 (.tmp 61) (.const (.int .i64 16)) 3, none, 0⟩,
  ⟨(some 12), .assign (.tmp 62), none, 0⟩]
def L20r10 : List AOp := [
  ⟨(some 63), .call { callee := .value (.func 49), args := #[], argTypes := #[] }, none, 0⟩,
  ⟨(some 13), .assign (.tmp 63), none, 0⟩]
def L20r11 : List AOp := [
  ⟨(some 64), .move (.tmp 3), none, 0⟩,
  ⟨(some 65), .move (.tmp 12), none, 0⟩,
  ⟨(some 66), .slice 27 (.tmp 64) (some (.tmp 65)) none none, none, 3⟩,
  ⟨(some 67), .convert 27 9 (.tmp 66), none, 7⟩,
  ⟨(some 68), .move (.tmp 13), none, 0⟩,
  ⟨(some 69), .move (.tmp 0), none, 0⟩,
  ⟨(some 70), .move (.tmp 1), none, 0⟩,
  ⟨(some 71), .move (.tmp 2), none, 0⟩,
  ⟨(some 72), .move (.tmp 3), none, 0⟩,
  ⟨(some 73), .move (.tmp 12), none, 0⟩,
  ⟨(some 74), .slice 27 (.tmp 72) none (some (.tmp 73)) none, none, 768⟩,
  ⟨(some 75), .call { callee := .value (.func 56), args := #[.tmp 68, .tmp 69, .tmp 70, .tmp 71, .tmp 74], argTypes := #[27, 27, 27, 27, 27] }, none, 2032⟩,
  ⟨(some 76), .convert 27 9 (.tmp 75), none, 4080⟩,
  ⟨(some 77), .binOp .neq 9 (.tmp 67) (.tmp 76) 9, none, 1267650600228229401496703213567⟩]
def L20r12 : List AOp := [
  ⟨(some 78), .move (.tmp 9), none, 0⟩,
  ⟨(some 79), .move (.tmp 78), none, 0⟩,
  ⟨(some 80), .move (.tmp 11), (some (79, true)), 0⟩,
  ⟨(some 81), .makeInterface 41 (.const (.int .i64 5)), (some (79, true)), 0⟩,
  ⟨(some 82), .binOp .eql 38 (.tmp 80) (.tmp 81) 38, (some (79, true)), 0⟩,
  ⟨(some 83), .pick (.tmp 79) (.tmp 82) (.const (.bool false)), none, 0⟩,
  ⟨(some 84), .move (.tmp 83), none, 0⟩,
  ⟨(some 85), .move (.tmp 10), (some (84, true)), 0⟩,
  ⟨(some 86), .call { callee := .builtin .len, args := #[.tmp 85], argTypes := #[27] }, (some (84, true)), 0⟩,
  ⟨(some 87), .binOp .eql 3 (.tmp 86) (.const (.int .i64 0)) 3, (some (84, true)), 0⟩,
  ⟨(some 88), .pick (.tmp 84) (.tmp 87) (.const (.bool false)), none, 0⟩,
  ⟨(some 8), .assign (.tmp 88), none, 0⟩]
def L20r13 : List AOp := [
  ⟨(some 89), .move (.tmp 9), none, 1267650600228229401496703205376⟩,
  ⟨(some 90), .move (.tmp 89), none, 1267650600228229401496703205377⟩,
  ⟨(some 91), .move (.tmp 11), (some (90, true)), 1267650600228229401496703205379⟩,
  ⟨(some 92), .binOp .eql 38 (.tmp 91) (.const .nilIface) 38, (some (90, true)), 1267650600228229401496703205383⟩,
  ⟨(some 93), .pick (.tmp 90) (.tmp 92) (.const (.bool false)), none, 1267650600228229401496703205391⟩,
  ⟨(some 94), .move (.tmp 93), none, 1267650600228229401496703205407⟩,
  ⟨(some 95), .move (.tmp 10), (some (94, true)), 63⟩,
  ⟨(some 96), .convert 27 9 (.tmp 95), (some (94, true)), 127⟩,
  ⟨(some 97), .move (.tmp 13), (some (94, true)), 63⟩,
  ⟨(some 98), .move (.tmp 0), (some (94, true)), 63⟩,
  ⟨(some 99), .move (.tmp 1), (some (94, true)), 63⟩,
  ⟨(some 100), .move (.tmp 3), (some (94, true)), 63⟩,
  ⟨(some 101), .move (.tmp 12), (some (94, true)), 63⟩,
  ⟨(some 102), .slice 27 (.tmp 100) none (some (.tmp 101)) none, (some (94, true)), 6207⟩,
  ⟨(some 103), .call { callee := .value (.func 55), args := #[.tmp 97, .tmp 98, .tmp 99, .tmp 102], argTypes := #[27, 27, 27, 27] }, (some (94, true)), 16191⟩,
  ⟨(some 104), .convert 27 9 (.tmp 103), (some (94, true)), 32575⟩,
  ⟨(some 105), .binOp .eql 9 (.tmp 96) (.tmp 104) 9, (some (94, true)), 1267650600228229401496703270911⟩,
  ⟨(some 106), .pick (.tmp 94) (.tmp 105) (.const (.bool false)), none, 1267650600228229401496703336447⟩,
  ⟨(some 8), .assign (.tmp 106), none, 1267650600228229401496703467519⟩]
def L20 : LC := (.seq (.region L20r0) (.seq (.region L20r1) (.seq (.region L20r2) (.seq (.region L20r3) (.seq (.region L20r4) (.seq (.seq (.region L20r5) (.cond (.tmp 34) (.seq (.region L20r6) .ret) .skip)) (.seq (.seq (.region L20r7) (.cond (.tmp 48) (.seq (.region L20r8) .ret) .skip)) (.seq (.region L20r9) (.seq (.region L20r10) (.seq (.seq (.regionD L20r11) (.cond (.tmp 77) (.seq (.region L20r12) .ret) .skip)) (.seq (.regionD L20r13) .ret)))))))))))
theorem nt20 : Try.f20.ntmps = 107 := by kernel_rfl
theorem rs20 : Try.f20.results.toList = [.tmp 8] := by kernel_rfl
theorem lite20 : Try.f20.body.map (lite okDraw) = some L20 := by kernel_rfl
def L23r0 : List AOp := [
  ⟨(some 1), .box 22 (.tmp 0), none, 0⟩,
  ⟨(some 2), .alloc 22, none, 0⟩]
def L23r1 : List AOp := [
  ⟨(some 3), .alloc 22, none, 0⟩]
def L23r2 : List AOp := [
  ⟨(some 5), .move (.const (.int .i64 0)), none, 0⟩]
def L23r3 : List AOp := [
  ⟨(some 6), .binOp .lss 3 (.tmp 5) (.const (.int .i64 16)) 3, none, 0⟩]
def L23r4 : List AOp := [
  ⟨(some 7), .move (.tmp 5), none, 0⟩,
  ⟨(some 4), .assign (.tmp 7), none, 0⟩]
def L23r5 : List AOp := [
  ⟨(some 8), .move (.tmp 4), none, 0⟩,
  ⟨(some 9), .move (.tmp 4), none, 0⟩,
  ⟨(some 10), .move (.tmp 4), none, 0⟩,
  ⟨(some 11), .binOp .rem 3 (.tmp 10) (.const (.int .i64 4)) 3, none, 0⟩,
  ⟨(some 12), .binOp .mul 3 (.const (.int .i64 4)) (.tmp 11) 3, none, 0⟩,
  ⟨(some 13), .binOp .add 3 (.tmp 9) (.tmp 12) 3, none, 0⟩,
  ⟨(some 14), .binOp .rem 3 (.tmp 13) (.const (.int .i64 16)) 3, none, 0⟩,
  ⟨(some 15), .indexAddr 22 (.tmp 1) (.tmp 14), none, 0⟩,
  ⟨(some 16), .load 5 (.tmp 15), none, 0⟩,
  ⟨(some 17), .indexAddr 22 (.tmp 3) (.tmp 8), none, 0⟩,
  ⟨none, .store 5 (.tmp 17) (.tmp 16), none, 0⟩]
def L23r6 : List AOp := [
  ⟨(some 18), .binOp .add 3 (.tmp 5) (.const (.int .i64 1)) 3, none, 0⟩,
  ⟨(some 5), .move (.tmp 18), none, 0⟩]
def L23r7 : List AOp := [
  ⟨(some 19), .load 22 (.tmp 3), none, 0⟩,
  ⟨none, .store 22 (.tmp 2) (.tmp 19), none, 0⟩]
def L23 : LC := (.seq (.region L23r0) (.seq (.region L23r1) (.seq (.seq (.region L23r2) (.block 0 (.loop (.seq (.region L23r3) (.seq (.cond (.tmp 6) .skip (.exit 0)) (.seq (.block 1 (.seq (.region L23r4) (.region L23r5))) (.region L23r6))))))) (.seq (.region L23r7) .ret))))
theorem nt23 : Try.f23.ntmps = 20 := by kernel_rfl
theorem rs23 : Try.f23.results.toList = [.cell 2 22] := by kernel_rfl
theorem lite23 : Try.f23.body.map (lite okDraw) = some L23 := by kernel_rfl
def L24r0 : List AOp := [
  ⟨(some 1), .box 22 (.tmp 0), none, 0⟩,
  ⟨(some 2), .alloc 22, none, 0⟩]
def L24r1 : List AOp := [
  ⟨(some 3), .alloc 22, none, 0⟩]
def L24r2 : List AOp := [
  ⟨(some 4), .assign (.const (.int .i64 0)), none, 0⟩]
def L24r3 : List AOp := [
  ⟨(some 6), .move (.tmp 4), none, 0⟩,
  ⟨(some 7), .binOp .lss 3 (.tmp 6) (.const (.int .i64 4)) 3, none, 0⟩]
def L24r5 : List AOp := [
  ⟨(some 5), .assign (.const (.int .i64 0)), none, 0⟩]
def L24r6 : List AOp := [
  ⟨(some 10), .move (.tmp 5), none, 0⟩,
  ⟨(some 11), .binOp .lss 3 (.tmp 10) (.const (.int .i64 4)) 3, none, 0⟩]
def L24r8 : List AOp := [
  ⟨(some 14), .move (.tmp 5), none, 0⟩,
  ⟨(some 15), .binOp .mul 3 (.const (.int .i64 4)) (.tmp 14) 3, none, 0⟩,
  ⟨(some 16), .move (.tmp 4), none, 0⟩,
  ⟨(some 17), .binOp .add 3 (.tmp 15) (.tmp 16) 3, none, 0⟩,
  ⟨(some 18), .move (.tmp 5), none, 0⟩,
  ⟨(some 19), .move (.tmp 4), none, 0⟩,
  ⟨(some 20), .binOp .add 3 (.tmp 18) (.tmp 19) 3, none, 0⟩,
  ⟨(some 21), .binOp .rem 3 (.tmp 20) (.const (.int .i64 4)) 3, none, 0⟩,
  ⟨(some 22), .binOp .mul 3 (.const (.int .i64 4)) (.tmp 21) 3, none, 0⟩,
  ⟨(some 23), .move (.tmp 4), none, 0⟩,
  ⟨(some 24), .binOp .add 3 (.tmp 22) (.tmp 23) 3, none, 0⟩,
  ⟨(some 25), .indexAddr 22 (.tmp 1) (.tmp 24), none, 0⟩,
  ⟨(some 26), .load 5 (.tmp 25), none, 0⟩,
  ⟨(some 27), .indexAddr 22 (.tmp 3) (.tmp 17), none, 0⟩,
  ⟨none, .store 5 (.tmp 27) (.tmp 26), none, 0⟩]
def L24r7 : List AOp := [
  ⟨(some 12), .move (.tmp 5), none, 0⟩,
  ⟨(some 13), .binOp .add 3 (.tmp 12) (.const (.int .i64 1)) 3, none, 0⟩,
  ⟨(some 5), .assign (.tmp 13), none, 0⟩]
def L24r4 : List AOp := [
  ⟨(some 8), .move (.tmp 4), none, 0⟩,
  ⟨(some 9), .binOp .add 3 (.tmp 8) (.const (.int .i64 1)) 3, none, 0⟩,
  ⟨(some 4), .assign (.tmp 9), none, 0⟩]
def L24r9 : List AOp := [
  ⟨(some 28), .load 22 (.tmp 3), none, 0⟩,
  ⟨none, .store 22 (.tmp 2) (.tmp 28), none, 0⟩]
def L24 : LC := (.seq (.region L24r0) (.seq (.region L24r1) (.seq (.seq (.region L24r2) (.block 0 (.loop (.seq (.seq (.region L24r3) (.cond (.tmp 7) .skip (.exit 0))) (.seq (.block 1 (.seq (.region L24r5) (.block 2 (.loop (.seq (.seq (.region L24r6) (.cond (.tmp 11) .skip (.exit 2))) (.seq (.block 3 (.region L24r8)) (.region L24r7))))))) (.region L24r4)))))) (.seq (.region L24r9) .ret))))
theorem nt24 : Try.f24.ntmps = 29 := by kernel_rfl
theorem rs24 : Try.f24.results.toList = [.cell 2 22] := by kernel_rfl
theorem lite24 : Try.f24.body.map (lite okDraw) = some L24 := by kernel_rfl
def L25r0 : List AOp := [
  ⟨(some 4), .assign (.const (.int .u8 0)), none, 0⟩]
def L25r1 : List AOp := [
  ⟨(some 5), .assign (.const (.int .u8 0)), none, 0⟩]
def L25r2 : List AOp := [
  ⟨(some 7), .move (.const (.int .i64 0)), none, 0⟩]
def L25r3 : List AOp := [
  ⟨(some 8), .binOp .lss 3 (.tmp 7) (.const (.int .i64 8)) 3, none, 0⟩]
def L25r4 : List AOp := [
  ⟨(some 9), .move (.tmp 7), none, 0⟩,
  ⟨(some 6), .assign (.tmp 9), none, 0⟩]
def L25r5 : List AOp := [
  ⟨(some 10), .move (.tmp 5), none, 0⟩,
  ⟨(some 11), .move (.tmp 0), none, 0⟩,
  ⟨(some 12), .move (.tmp 1), none, 0⟩,
  ⟨(some 13), .move (.tmp 6), none, 0⟩,
  ⟨(some 14), .binOp .shr 5 (.tmp 12) (.tmp 13) 3, none, 0⟩,
  ⟨(some 15), .binOp .and 5 (.tmp 14) (.const (.int .u8 1)) 5, none, 0⟩,
  ⟨(some 16), .unOp .neg 5 (.tmp 15), none, 0⟩,
  ⟨(some 17), .binOp .and 5 (.tmp 11) (.tmp 16) 5, none, 0⟩,
  ⟨(some 18), .binOp .xor 5 (.tmp 10) (.tmp 17) 5, none, 0⟩,
  ⟨(some 5), .assign (.tmp 18), none, 0⟩]
def L25r6 : List AOp := [
  ⟨(some 19), .move (.tmp 0), none, 0⟩,
  ⟨(some 20), .binOp .shl 5 (.tmp 19) (.const (.int .u64 1)) 76, none, 0⟩,
  ⟨(some 21), .move (.tmp 0), none, 0⟩,
  ⟨(some 22), .binOp .shr 5 (.tmp 21) (.const (.int .u64 7)) 76, none, 0⟩,
  ⟨(some 23), .unOp .neg 5 (.tmp 22), none, 0⟩,
  ⟨(some 24), .binOp .and 5 (.const (.int .u8 27)) (.tmp 23) 5, none, 0⟩,
  ⟨(some 25), .binOp .xor 5 (.tmp 20) (.tmp 24) 5, none, 0⟩,
  ⟨(some 0), .assign (.tmp 25), none, 0⟩]
def L25r7 : List AOp := [
  ⟨(some 26), .binOp .add 3 (.tmp 7) (.const (.int .i64 1)) 3, none, 0⟩,
  ⟨(some 7), .move (.tmp 26), none, 0⟩]
def L25r8 : List AOp := [
  ⟨(some 27), .move (.tmp 5), none, 0⟩,
  ⟨(some 4), .assign (.tmp 27), none, 0⟩]
def L25 : LC := (.seq (.region L25r0) (.seq (.region L25r1) (.seq (.seq (.region L25r2) (.block 0 (.loop (.seq (.region L25r3) (.seq (.cond (.tmp 8) .skip (.exit 0)) (.seq (.block 1 (.seq (.region L25r4) (.seq (.region L25r5) (.region L25r6)))) (.region L25r7))))))) (.seq (.region L25r8) .ret))))
theorem nt25 : Try.f25.ntmps = 28 := by kernel_rfl
theorem rs25 : Try.f25.results.toList = [.tmp 4] := by kernel_rfl
theorem lite25 : Try.f25.body.map (lite okDraw) = some L25 := by kernel_rfl
def L26r0 : List AOp := [
  ⟨(some 4), .assign (.const (.int .u8 0)), none, 0⟩]
def L26r1 : List AOp := [
  ⟨(some 5), .assign (.const (.int .i64 0)), none, 0⟩]
def L26r2 : List AOp := [
  ⟨(some 6), .assign (.const (.int .i64 0)), none, 0⟩]
def L26r3 : List AOp := [
  ⟨(some 8), .move (.tmp 6), none, 0⟩,
  ⟨(some 9), .binOp .lss 3 (.tmp 8) (.const (.int .i64 8)) 3, none, 0⟩]
def L26r5 : List AOp := [
  ⟨(some 12), .move (.tmp 1), none, 0⟩,
  ⟨(some 13), .convert 5 3 (.tmp 12), none, 0⟩,
  ⟨(some 14), .move (.tmp 6), none, 0⟩,
  ⟨(some 15), .binOp .shr 3 (.tmp 13) (.tmp 14) 3, none, 0⟩,
  ⟨(some 16), .binOp .rem 3 (.tmp 15) (.const (.int .i64 2)) 3, none, 0⟩,
  ⟨(some 17), .binOp .eql 3 (.tmp 16) (.const (.int .i64 1)) 3, none, 0⟩]
def L26r6 : List AOp := [
  ⟨(some 18), .move (.tmp 5), none, 0⟩,
  ⟨(some 19), .move (.tmp 0), none, 0⟩,
  ⟨(some 20), .convert 5 3 (.tmp 19), none, 0⟩,
  ⟨(some 21), .move (.tmp 6), none, 0⟩,
  ⟨(some 22), .binOp .shl 3 (.tmp 20) (.tmp 21) 3, none, 0⟩,
  ⟨(some 23), .binOp .xor 3 (.tmp 18) (.tmp 22) 3, none, 0⟩,
  ⟨(some 5), .assign (.tmp 23), none, 0⟩]
def L26r4 : List AOp := [
  ⟨(some 10), .move (.tmp 6), none, 0⟩,
  ⟨(some 11), .binOp .add 3 (.tmp 10) (.const (.int .i64 1)) 3, none, 0⟩,
  ⟨(some 6), .assign (.tmp 11), none, 0⟩]
def L26r7 : List AOp := [
  ⟨(some 7), .assign (.const (.int .i64 14)), none, 0⟩]
def L26r8 : List AOp := [
  ⟨(some 24), .move (.tmp 7), none, 0⟩,
  ⟨(some 25), .binOp .geq 3 (.tmp 24) (.const (.int .i64 8)) 3, none, 0⟩]
def L26r10 : List AOp := [
  ⟨(some 28), .move (.tmp 5), none, 0⟩,
  ⟨(some 29), .move (.tmp 7), none, 0⟩,
  ⟨(some 30), .binOp .shr 3 (.tmp 28) (.tmp 29) 3, none, 0⟩,
  ⟨(some 31), .binOp .rem 3 (.tmp 30) (.const (.int .i64 2)) 3, none, 0⟩,
  ⟨(some 32), .binOp .eql 3 (.tmp 31) (.const (.int .i64 1)) 3, none, 0⟩]
def L26r11 : List AOp := [
  ⟨(some 33), .move (.tmp 5), none, 0⟩,
  ⟨(some 34), .move (.tmp 7), none, 0⟩,
  ⟨(some 35), .binOp .sub 3 (.tmp 34) (.const (.int .i64 8)) 3, none, 0⟩,
  ⟨(some 36), .binOp .shl 3 (.const (.int .i64 283)) (.tmp 35) 3, none, 0⟩,
  ⟨(some 37), .binOp .xor 3 (.tmp 33) (.tmp 36) 3, none, 0⟩,
  ⟨(some 5), .assign (.tmp 37), none, 0⟩]
def L26r9 : List AOp := [
  ⟨(some 26), .move (.tmp 7), none, 0⟩,
  ⟨(some 27), .binOp .sub 3 (.tmp 26) (.const (.int .i64 1)) 3, none, 0⟩,
  ⟨(some 7), .assign (.tmp 27), none, 0⟩]
def L26r12 : List AOp := [
  ⟨(some 38), .move (.tmp 5), none, 0⟩,
  ⟨(some 39), .convert 3 5 (.tmp 38), none, 0⟩,
  ⟨(some 4), .assign (.tmp 39), none, 0⟩]
def L26 : LC := (.seq (.region L26r0) (.seq (.region L26r1) (.seq (.seq (.region L26r2) (.block 0 (.loop (.seq (.seq (.region L26r3) (.cond (.tmp 9) .skip (.exit 0))) (.seq (.block 1 (.seq (.region L26r5) (.cond (.tmp 17) (.region L26r6) .skip))) (.region L26r4)))))) (.seq (.seq (.region L26r7) (.block 2 (.loop (.seq (.seq (.region L26r8) (.cond (.tmp 25) .skip (.exit 2))) (.seq (.block 3 (.seq (.region L26r10) (.cond (.tmp 32) (.region L26r11) .skip))) (.region L26r9)))))) (.seq (.region L26r12) .ret)))))
theorem nt26 : Try.f26.ntmps = 40 := by kernel_rfl
theorem rs26 : Try.f26.results.toList = [.tmp 4] := by kernel_rfl
theorem lite26 : Try.f26.body.map (lite okDraw) = some L26 := by kernel_rfl
def L27r0 : List AOp := [
  ⟨(some 4), .assign (.const (.bool false)), none, 0⟩]
def L27r1 : List AOp := [
  ⟨(some 7), .move (.tmp 0), none, 0⟩,
  ⟨(some 8), .call { callee := .builtin .len, args := #[.tmp 7], argTypes := #[27] }, none, 0⟩,
  ⟨(some 9), .move (.tmp 1), none, 0⟩,
  ⟨(some 10), .call { callee := .builtin .len, args := #[.tmp 9], argTypes := #[27] }, none, 0⟩,
  ⟨(some 11), .binOp .neq 3 (.tmp 8) (.tmp 10) 3, none, 0⟩]
def L27r2 : List AOp := [
  ⟨(some 4), .assign (.const (.bool false)), none, 0⟩]
def L27r3 : List AOp := [
  ⟨(some 5), .assign (.const (.int .u8 0)), none, 0⟩]
def L27r4 : List AOp := [
  ⟨(some 12), .move (.tmp 0), none, 0⟩,
  ⟨(some 13), .call { callee := .builtin .len, args := #[.tmp 12], argTypes := #[27] }, none, 0⟩,
  ⟨(some 14), .move (.const (.int .i64 0)), none, 0⟩]
def L27r5 : List AOp := [
  ⟨(some 15), .binOp .lss 3 (.tmp 14) (.tmp 13) 3, none, 0⟩]
def L27r6 : List AOp := [
  ⟨(some 16), .move (.tmp 14), none, 0⟩,
  ⟨(some 6), .assign (.tmp 16), none, 0⟩]
def L27r7 : List AOp := [
  ⟨(some 17), .move (.tmp 5), none, 0⟩,
  ⟨(some 18), .move (.tmp 0), none, 0⟩,
  ⟨(some 19), .move (.tmp 6), none, 0⟩,
  ⟨(some 20), .indexAddr 27 (.tmp 18) (.tmp 19), none, 6⟩,
  ⟨(some 21), .load 5 (.tmp 20), none, 14⟩,
  ⟨(some 22), .move (.tmp 1), none, 0⟩,
  ⟨(some 23), .move (.tmp 6), none, 0⟩,
  ⟨(some 24), .indexAddr 27 (.tmp 22) (.tmp 23), none, 96⟩,
  ⟨(some 25), .load 5 (.tmp 24), none, 224⟩,
  ⟨(some 26), .binOp .xor 5 (.tmp 21) (.tmp 25) 5, none, 510⟩,
  ⟨(some 27), .binOp .or 5 (.tmp 17) (.tmp 26) 5, none, 1267650600228229401496703206399⟩,
  ⟨(some 5), .assign (.tmp 27), none, 1267650600228229401496703207423⟩]
def L27r8 : List AOp := [
  ⟨(some 28), .binOp .add 3 (.tmp 14) (.const (.int .i64 1)) 3, none, 0⟩,
  ⟨(some 14), .move (.tmp 28), none, 0⟩]
def L27r9 : List AOp := [
  ⟨(some 29), .move (.tmp 5), none, 0⟩,
  ⟨(some 30), .binOp .eql 5 (.tmp 29) (.const (.int .u8 0)) 5, none, 0⟩,
  ⟨(some 4), .assign (.tmp 30), none, 0⟩]
def L27 : LC := (.seq (.region L27r0) (.seq (.seq (.region L27r1) (.cond (.tmp 11) (.seq (.region L27r2) .ret) .skip)) (.seq (.region L27r3) (.seq (.seq (.region L27r4) (.block 0 (.loop (.seq (.region L27r5) (.seq (.cond (.tmp 15) .skip (.exit 0)) (.seq (.block 1 (.seq (.region L27r6) (.regionD L27r7))) (.region L27r8))))))) (.seq (.region L27r9) .ret)))))
theorem nt27 : Try.f27.ntmps = 31 := by kernel_rfl
theorem rs27 : Try.f27.results.toList = [.tmp 4] := by kernel_rfl
theorem lite27 : Try.f27.body.map (lite okDraw) = some L27 := by kernel_rfl
def L30r0 : List AOp := [
  ⟨(some 2), .box 22 (.tmp 0), none, 0⟩,
  ⟨(some 3), .box 22 (.tmp 1), none, 0⟩,
  ⟨(some 4), .alloc 22, none, 0⟩]
def L30r1 : List AOp := [
  ⟨(some 5), .alloc 22, none, 0⟩]
def L30r2 : List AOp := [
  ⟨(some 11), .move (.const (.int .i64 0)), none, 0⟩]
def L30r3 : List AOp := [
  ⟨(some 12), .binOp .lss 3 (.tmp 11) (.const (.int .i64 128)) 3, none, 0⟩]
def L30r4 : List AOp := [
  ⟨(some 13), .move (.tmp 11), none, 0⟩,
  ⟨(some 6), .assign (.tmp 13), none, 0⟩]
def L30r5 : List AOp := [
  ⟨(some 14), .move (.tmp 6), none, 0⟩,
  ⟨(some 15), .binOp .quo 3 (.tmp 14) (.const (.int .i64 8)) 3, none, 0⟩,
  ⟨(some 16), .indexAddr 22 (.tmp 2) (.tmp 15), none, 0⟩,
  ⟨(some 17), .load 5 (.tmp 16), none, 0⟩,
  ⟨(some 18), .move (.tmp 6), none, 0⟩,
  ⟨(some 19), .binOp .rem 3 (.tmp 18) (.const (.int .i64 8)) 3, none, 0⟩,
  ⟨(some 20), .binOp .sub 3 (.const (.int .i64 7)) (.tmp 19) 3, none, 0⟩,
  ⟨(some 21), .binOp .shr 5 (.tmp 17) (.tmp 20) 3, none, 0⟩,
  ⟨(some 22), .binOp .and 5 (.tmp 21) (.const (.int .u8 1)) 5, none, 0⟩,
  ⟨(some 23), .unOp .neg 5 (.tmp 22), none, 0⟩,
  ⟨(some 7), .assign (.tmp 23), none, 0⟩]
def L30r6 : List AOp := [
  ⟨(some 24), .move (.const (.int .i64 0)), none, 0⟩]
def L30r7 : List AOp := [
  ⟨(some 25), .binOp .lss 3 (.tmp 24) (.const (.int .i64 16)) 3, none, 0⟩]
def L30r8 : List AOp := [
  ⟨(some 26), .move (.tmp 24), none, 0⟩,
  ⟨(some 8), .assign (.tmp 26), none, 0⟩]
def L30r9 : List AOp := [
  ⟨(some 27), .move (.tmp 8), none, 0⟩,
  ⟨(some 28), .indexAddr 22 (.tmp 5) (.tmp 27), none, 1⟩,
  ⟨(some 29), .load 5 (.tmp 28), none, 3⟩,
  ⟨(some 30), .move (.tmp 8), none, 0⟩,
  ⟨(some 31), .indexAddr 22 (.tmp 3) (.tmp 30), none, 8⟩,
  ⟨(some 32), .load 5 (.tmp 31), none, 24⟩,
  ⟨(some 33), .move (.tmp 7), none, 0⟩,
  ⟨(some 34), .binOp .and 5 (.tmp 32) (.tmp 33) 5, none, 120⟩,
  ⟨(some 35), .binOp .xor 5 (.tmp 29) (.tmp 34) 5, none, 1267650600228229401496703205631⟩,
  ⟨(some 36), .indexAddr 22 (.tmp 5) (.tmp 27), none, 1267650600228229401496703205887⟩,
  ⟨none, .store 5 (.tmp 36) (.tmp 35), none, 1267650600228229401496703206399⟩]
def L30r10 : List AOp := [
  ⟨(some 37), .binOp .add 3 (.tmp 24) (.const (.int .i64 1)) 3, none, 0⟩,
  ⟨(some 24), .move (.tmp 37), none, 0⟩]
def L30r11 : List AOp := [
  ⟨(some 38), .indexAddr 22 (.tmp 3) (.const (.int .i64 15)), none, 0⟩,
  ⟨(some 39), .load 5 (.tmp 38), none, 0⟩,
  ⟨(some 40), .binOp .and 5 (.tmp 39) (.const (.int .u8 1)) 5, none, 0⟩,
  ⟨(some 41), .unOp .neg 5 (.tmp 40), none, 0⟩,
  ⟨(some 9), .assign (.tmp 41), none, 0⟩]
def L30r12 : List AOp := [
  ⟨(some 10), .assign (.const (.int .i64 15)), none, 0⟩]
def L30r13 : List AOp := [
  ⟨(some 42), .move (.tmp 10), none, 0⟩,
  ⟨(some 43), .binOp .gtr 3 (.tmp 42) (.const (.int .i64 0)) 3, none, 0⟩]
def L30r15 : List AOp := [
  ⟨(some 46), .move (.tmp 10), none, 0⟩,
  ⟨(some 47), .move (.tmp 10), none, 0⟩,
  ⟨(some 48), .indexAddr 22 (.tmp 3) (.tmp 47), none, 2⟩,
  ⟨(some 49), .load 5 (.tmp 48), none, 6⟩,
  ⟨(some 50), .binOp .shr 5 (.tmp 49) (.const (.int .u64 1)) 76, none, 14⟩,
  ⟨(some 51), .move (.tmp 10), none, 0⟩,
  ⟨(some 52), .binOp .sub 3 (.tmp 51) (.const (.int .i64 1)) 3, none, 32⟩,
  ⟨(some 53), .indexAddr 22 (.tmp 3) (.tmp 52), none, 96⟩,
  ⟨(some 54), .load 5 (.tmp 53), none, 224⟩,
  ⟨(some 55), .binOp .shl 5 (.tmp 54) (.const (.int .u64 7)) 76, none, 480⟩,
  ⟨(some 56), .binOp .or 5 (.tmp 50) (.tmp 55) 5, none, 1022⟩,
  ⟨(some 57), .indexAddr 22 (.tmp 3) (.tmp 46), none, 1267650600228229401496703207423⟩,
  ⟨none, .store 5 (.tmp 57) (.tmp 56), none, 1267650600228229401496703209471⟩]
def L30r14 : List AOp := [
  ⟨(some 44), .move (.tmp 10), none, 0⟩,
  ⟨(some 45), .binOp .sub 3 (.tmp 44) (.const (.int .i64 1)) 3, none, 0⟩,
  ⟨(some 10), .assign (.tmp 45), none, 0⟩]
def L30r16 : List AOp := [
  ⟨(some 58), .indexAddr 22 (.tmp 3) (.const (.int .i64 0)), none, 0⟩,
  ⟨(some 59), .load 5 (.tmp 58), none, 0⟩,
  ⟨(some 60), .binOp .shr 5 (.tmp 59) (.const (.int .u64 1)) 76, none, 0⟩,
  ⟨(some 61), .move (.tmp 9), none, 0⟩,
  ⟨(some 62), .binOp .and 5 (.const (.int .u8 225)) (.tmp 61) 5, none, 0⟩,
  ⟨(some 63), .binOp .xor 5 (.tmp 60) (.tmp 62) 5, none, 0⟩,
  ⟨(some 64), .indexAddr 22 (.tmp 3) (.const (.int .i64 0)), none, 0⟩,
  ⟨none, .store 5 (.tmp 64) (.tmp 63), none, 0⟩]
def L30r17 : List AOp := [
  ⟨(some 65), .binOp .add 3 (.tmp 11) (.const (.int .i64 1)) 3, none, 0⟩,
  ⟨(some 11), .move (.tmp 65), none, 0⟩]
def L30r18 : List AOp := [
  ⟨(some 66), .load 22 (.tmp 5), none, 0⟩,
  ⟨none, .store 22 (.tmp 4) (.tmp 66), none, 0⟩]
def L30 : LC := (.seq (.region L30r0) (.seq (.region L30r1) (.seq (.seq (.region L30r2) (.block 0 (.loop (.seq (.region L30r3) (.seq (.cond (.tmp 12) .skip (.exit 0)) (.seq (.block 1 (.seq (.region L30r4) (.seq (.region L30r5) (.seq (.seq (.region L30r6) (.block 2 (.loop (.seq (.region L30r7) (.seq (.cond (.tmp 25) .skip (.exit 2)) (.seq (.block 3 (.seq (.region L30r8) (.regionD L30r9))) (.region L30r10))))))) (.seq (.region L30r11) (.seq (.seq (.region L30r12) (.block 4 (.loop (.seq (.seq (.region L30r13) (.cond (.tmp 43) .skip (.exit 4))) (.seq (.block 5 (.regionD L30r15)) (.region L30r14)))))) (.region L30r16))))))) (.region L30r17))))))) (.seq (.region L30r18) .ret))))
theorem nt30 : Try.f30.ntmps = 67 := by kernel_rfl
theorem rs30 : Try.f30.results.toList = [.cell 4 22] := by kernel_rfl
theorem lite30 : Try.f30.body.map (lite okDraw) = some L30 := by kernel_rfl
def L32r0 : List AOp := [
  ⟨(some 2), .box 22 (.tmp 0), none, 0⟩,
  ⟨(some 3), .box 22 (.tmp 1), none, 0⟩,
  ⟨(some 4), .alloc 22, none, 0⟩]
def L32r1 : List AOp := [
  ⟨(some 14), .load 22 (.tmp 2), none, 0⟩,
  ⟨(some 15), .call { callee := .value (.func 60), args := #[.tmp 14], argTypes := #[22] }, none, 0⟩,
  ⟨(some 5), .assign (.tmp 15), none, 0⟩]
def L32r2 : List AOp := [
  ⟨(some 16), .load 22 (.tmp 3), none, 0⟩,
  ⟨(some 17), .call { callee := .value (.func 60), args := #[.tmp 16], argTypes := #[22] }, none, 0⟩,
  ⟨(some 6), .assign (.tmp 17), none, 0⟩]
def L32r3 : List AOp := [
  ⟨(some 18), .makeSlice 78 (.const (.int .i64 256)) (.const (.int .i64 256)), none, 0⟩,
  ⟨(some 7), .assign (.tmp 18), none, 0⟩]
def L32r4 : List AOp := [
  ⟨(some 8), .assign (.const (.int .i64 0)), none, 0⟩]
def L32r5 : List AOp := [
  ⟨(some 19), .move (.tmp 8), none, 0⟩,
  ⟨(some 20), .binOp .lss 3 (.tmp 19) (.const (.int .i64 128)) 3, none, 0⟩]
def L32r7 : List AOp := [
  ⟨(some 9), .assign (.const (.int .i64 0)), none, 0⟩]
def L32r8 : List AOp := [
  ⟨(some 23), .move (.tmp 9), none, 0⟩,
  ⟨(some 24), .binOp .lss 3 (.tmp 23) (.const (.int .i64 128)) 3, none, 0⟩]
def L32r10 : List AOp := [
  ⟨(some 27), .move (.tmp 7), none, 0⟩,
  ⟨(some 28), .move (.tmp 8), none, 0⟩,
  ⟨(some 29), .move (.tmp 9), none, 0⟩,
  ⟨(some 30), .binOp .add 3 (.tmp 28) (.tmp 29) 3, none, 6⟩,
  ⟨(some 31), .move (.tmp 7), none, 0⟩,
  ⟨(some 32), .move (.tmp 8), none, 0⟩,
  ⟨(some 33), .move (.tmp 9), none, 0⟩,
  ⟨(some 34), .binOp .add 3 (.tmp 32) (.tmp 33) 3, none, 96⟩,
  ⟨(some 35), .indexAddr 78 (.tmp 31) (.tmp 34), none, 240⟩,
  ⟨(some 36), .load 3 (.tmp 35), none, 496⟩,
  ⟨(some 37), .move (.tmp 5), none, 0⟩,
  ⟨(some 38), .move (.tmp 8), none, 0⟩,
  ⟨(some 39), .indexAddr 78 (.tmp 37) (.tmp 38), none, 3072⟩,
  ⟨(some 40), .load 3 (.tmp 39), none, 7168⟩,
  ⟨(some 41), .move (.tmp 6), none, 0⟩,
  ⟨(some 42), .move (.tmp 9), none, 0⟩,
  ⟨(some 43), .indexAddr 78 (.tmp 41) (.tmp 42), none, 49152⟩,
  ⟨(some 44), .load 3 (.tmp 43), none, 114688⟩,
  ⟨(some 45), .binOp .mul 3 (.tmp 40) (.tmp 44) 3, none, 261120⟩,
  ⟨(some 46), .binOp .add 3 (.tmp 36) (.tmp 45) 3, none, 524272⟩,
  ⟨(some 47), .indexAddr 78 (.tmp 27) (.tmp 30), none, 1267650600228229401496704253951⟩,
  ⟨none, .store 3 (.tmp 47) (.tmp 46), none, 1267650600228229401496705302527⟩]
def L32r9 : List AOp := [
  ⟨(some 25), .move (.tmp 9), none, 0⟩,
  ⟨(some 26), .binOp .add 3 (.tmp 25) (.const (.int .i64 1)) 3, none, 0⟩,
  ⟨(some 9), .assign (.tmp 26), none, 0⟩]
def L32r6 : List AOp := [
  ⟨(some 21), .move (.tmp 8), none, 0⟩,
  ⟨(some 22), .binOp .add 3 (.tmp 21) (.const (.int .i64 1)) 3, none, 0⟩,
  ⟨(some 8), .assign (.tmp 22), none, 0⟩]
def L32r11 : List AOp := [
  ⟨(some 10), .assign (.const (.int .i64 255)), none, 0⟩]
def L32r12 : List AOp := [
  ⟨(some 48), .move (.tmp 10), none, 0⟩,
  ⟨(some 49), .binOp .geq 3 (.tmp 48) (.const (.int .i64 128)) 3, none, 0⟩]
def L32r14 : List AOp := [
  ⟨(some 52), .move (.tmp 7), none, 0⟩,
  ⟨(some 53), .move (.tmp 10), none, 0⟩,
  ⟨(some 54), .indexAddr 78 (.tmp 52) (.tmp 53), none, 0⟩,
  ⟨(some 55), .load 3 (.tmp 54), none, 0⟩,
  ⟨(some 56), .binOp .rem 3 (.tmp 55) (.const (.int .i64 2)) 3, none, 0⟩,
  ⟨(some 11), .assign (.tmp 56), none, 0⟩]
def L32r15 : List AOp := [
  ⟨(some 57), .move (.tmp 7), none, 0⟩,
  ⟨(some 58), .move (.tmp 10), none, 0⟩,
  ⟨(some 59), .binOp .sub 3 (.tmp 58) (.const (.int .i64 121)) 3, none, 0⟩,
  ⟨(some 60), .move (.tmp 7), none, 0⟩,
  ⟨(some 61), .move (.tmp 10), none, 0⟩,
  ⟨(some 62), .binOp .sub 3 (.tmp 61) (.const (.int .i64 121)) 3, none, 0⟩,
  ⟨(some 63), .indexAddr 78 (.tmp 60) (.tmp 62), none, 0⟩,
  ⟨(some 64), .load 3 (.tmp 63), none, 0⟩,
  ⟨(some 65), .move (.tmp 11), none, 0⟩,
  ⟨(some 66), .binOp .add 3 (.tmp 64) (.tmp 65) 3, none, 0⟩,
  ⟨(some 67), .indexAddr 78 (.tmp 57) (.tmp 59), none, 0⟩,
  ⟨none, .store 3 (.tmp 67) (.tmp 66), none, 0⟩]
def L32r16 : List AOp := [
  ⟨(some 68), .move (.tmp 7), none, 0⟩,
  ⟨(some 69), .move (.tmp 10), none, 0⟩,
  ⟨(some 70), .binOp .sub 3 (.tmp 69) (.const (.int .i64 126)) 3, none, 0⟩,
  ⟨(some 71), .move (.tmp 7), none, 0⟩,
  ⟨(some 72), .move (.tmp 10), none, 0⟩,
  ⟨(some 73), .binOp .sub 3 (.tmp 72) (.const (.int .i64 126)) 3, none, 0⟩,
  ⟨(some 74), .indexAddr 78 (.tmp 71) (.tmp 73), none, 0⟩,
  ⟨(some 75), .load 3 (.tmp 74), none, 0⟩,
  ⟨(some 76), .move (.tmp 11), none, 0⟩,
  ⟨(some 77), .binOp .add 3 (.tmp 75) (.tmp 76) 3, none, 0⟩,
  ⟨(some 78), .indexAddr 78 (.tmp 68) (.tmp 70), none, 0⟩,
  ⟨none, .store 3 (.tmp 78) (.tmp 77), none, 0⟩]
def L32r17 : List AOp := [
  ⟨(some 79), .move (.tmp 7), none, 0⟩,
  ⟨(some 80), .move (.tmp 10), none, 0⟩,
  ⟨(some 81), .binOp .sub 3 (.tmp 80) (.const (.int .i64 127)) 3, none, 0⟩,
  ⟨(some 82), .move (.tmp 7), none, 0⟩,
  ⟨(some 83), .move (.tmp 10), none, 0⟩,
  ⟨(some 84), .binOp .sub 3 (.tmp 83) (.const (.int .i64 127)) 3, none, 0⟩,
  ⟨(some 85), .indexAddr 78 (.tmp 82) (.tmp 84), none, 0⟩,
  ⟨(some 86), .load 3 (.tmp 85), none, 0⟩,
  ⟨(some 87), .move (.tmp 11), none, 0⟩,
  ⟨(some 88), .binOp .add 3 (.tmp 86) (.tmp 87) 3, none, 0⟩,
  ⟨(some 89), .indexAddr 78 (.tmp 79) (.tmp 81), none, 0⟩,
  ⟨none, .store 3 (.tmp 89) (.tmp 88), none, 0⟩]
def L32r18 : List AOp := [
  ⟨(some 90), .move (.tmp 7), none, 0⟩,
  ⟨(some 91), .move (.tmp 10), none, 0⟩,
  ⟨(some 92), .binOp .sub 3 (.tmp 91) (.const (.int .i64 128)) 3, none, 0⟩,
  ⟨(some 93), .move (.tmp 7), none, 0⟩,
  ⟨(some 94), .move (.tmp 10), none, 0⟩,
  ⟨(some 95), .binOp .sub 3 (.tmp 94) (.const (.int .i64 128)) 3, none, 0⟩,
  ⟨(some 96), .indexAddr 78 (.tmp 93) (.tmp 95), none, 0⟩,
  ⟨(some 97), .load 3 (.tmp 96), none, 0⟩,
  ⟨(some 98), .move (.tmp 11), none, 0⟩,
  ⟨(some 99), .binOp .add 3 (.tmp 97) (.tmp 98) 3, none, 0⟩,
  ⟨(some 100), .indexAddr 78 (.tmp 90) (.tmp 92), none, 0⟩,
  ⟨none, .store 3 (.tmp 100) (.tmp 99), none, 0⟩]
def L32r13 : List AOp := [
  ⟨(some 50), .move (.tmp 10), none, 0⟩,
  ⟨(some 51), .binOp .sub 3 (.tmp 50) (.const (.int .i64 1)) 3, none, 0⟩,
  ⟨(some 10), .assign (.tmp 51), none, 0⟩]
def L32r19 : List AOp := [
  ⟨(some 12), .alloc 22, none, 0⟩]
def L32r20 : List AOp := [
  ⟨(some 13), .assign (.const (.int .i64 0)), none, 0⟩]
def L32r21 : List AOp := [
  ⟨(some 101), .move (.tmp 13), none, 0⟩,
  ⟨(some 102), .binOp .lss 3 (.tmp 101) (.const (.int .i64 128)) 3, none, 0⟩]
def L32r23 : List AOp := [
  ⟨(some 105), .move (.tmp 13), none, 0⟩,
  ⟨(some 106), .binOp .quo 3 (.tmp 105) (.const (.int .i64 8)) 3, none, 1⟩,
  ⟨(some 107), .move (.tmp 13), none, 0⟩,
  ⟨(some 108), .binOp .quo 3 (.tmp 107) (.const (.int .i64 8)) 3, none, 4⟩,
  ⟨(some 109), .indexAddr 22 (.tmp 12) (.tmp 108), none, 12⟩,
  ⟨(some 110), .load 5 (.tmp 109), none, 28⟩,
  ⟨(some 111), .move (.tmp 7), none, 0⟩,
  ⟨(some 112), .move (.tmp 13), none, 0⟩,
  ⟨(some 113), .indexAddr 78 (.tmp 111) (.tmp 112), none, 192⟩,
  ⟨(some 114), .load 3 (.tmp 113), none, 448⟩,
  ⟨(some 115), .binOp .rem 3 (.tmp 114) (.const (.int .i64 2)) 3, none, 960⟩,
  ⟨(some 116), .move (.tmp 13), none, 0⟩,
  ⟨(some 117), .binOp .rem 3 (.tmp 116) (.const (.int .i64 8)) 3, none, 2048⟩,
  ⟨(some 118), .binOp .sub 3 (.const (.int .i64 7)) (.tmp 117) 3, none, 6144⟩,
  ⟨(some 119), .binOp .shl 3 (.tmp 115) (.tmp 118) 3, none, 16320⟩,
  ⟨(some 120), .convert 3 5 (.tmp 119), none, 32704⟩,
  ⟨(some 121), .binOp .add 5 (.tmp 110) (.tmp 120) 5, none, 65532⟩,
  ⟨(some 122), .indexAddr 22 (.tmp 12) (.tmp 106), none, 1267650600228229401496703336447⟩,
  ⟨none, .store 5 (.tmp 122) (.tmp 121), none, 1267650600228229401496703467519⟩]
def L32r22 : List AOp := [
  ⟨(some 103), .move (.tmp 13), none, 0⟩,
  ⟨(some 104), .binOp .add 3 (.tmp 103) (.const (.int .i64 1)) 3, none, 0⟩,
  ⟨(some 13), .assign (.tmp 104), none, 0⟩]
def L32r24 : List AOp := [
  ⟨(some 123), .load 22 (.tmp 12), none, 0⟩,
  ⟨none, .store 22 (.tmp 4) (.tmp 123), none, 0⟩]
def L32 : LC := (.seq (.region L32r0) (.seq (.region L32r1) (.seq (.region L32r2) (.seq (.region L32r3) (.seq (.seq (.region L32r4) (.block 0 (.loop (.seq (.seq (.region L32r5) (.cond (.tmp 20) .skip (.exit 0))) (.seq (.block 1 (.seq (.region L32r7) (.block 2 (.loop (.seq (.seq (.region L32r8) (.cond (.tmp 24) .skip (.exit 2))) (.seq (.block 3 (.regionD L32r10)) (.region L32r9))))))) (.region L32r6)))))) (.seq (.seq (.region L32r11) (.block 4 (.loop (.seq (.seq (.region L32r12) (.cond (.tmp 49) .skip (.exit 4))) (.seq (.block 5 (.seq (.region L32r14) (.seq (.region L32r15) (.seq (.region L32r16) (.seq (.region L32r17) (.region L32r18)))))) (.region L32r13)))))) (.seq (.region L32r19) (.seq (.seq (.region L32r20) (.block 6 (.loop (.seq (.seq (.region L32r21) (.cond (.tmp 102) .skip (.exit 6))) (.seq (.block 7 (.regionD L32r23)) (.region L32r22)))))) (.seq (.region L32r24) .ret)))))))))
theorem nt32 : Try.f32.ntmps = 124 := by kernel_rfl
theorem rs32 : Try.f32.results.toList = [.cell 4 22] := by kernel_rfl
theorem lite32 : Try.f32.body.map (lite okDraw) = some L32 := by kernel_rfl
def L36r0 : List AOp := [
  ⟨(some 1), .box 22 (.tmp 0), none, 0⟩,
  ⟨(some 2), .alloc 22, none, 0⟩]
def L36r1 : List AOp := [
  ⟨(some 3), .alloc 22, none, 0⟩]
def L36r2 : List AOp := [
  ⟨(some 7), .move (.const (.int .i64 0)), none, 0⟩]
def L36r3 : List AOp := [
  ⟨(some 8), .binOp .lss 3 (.tmp 7) (.const (.int .i64 4)) 3, none, 0⟩]
def L36r4 : List AOp := [
  ⟨(some 9), .move (.tmp 7), none, 0⟩,
  ⟨(some 4), .alloc 3, none, 0⟩,
  ⟨none, .store 3 (.tmp 4) (.tmp 9), none, 0⟩]
def L36r5 : List AOp := [
  ⟨(some 10), .move (.const (.int .i64 0)), none, 0⟩]
def L36r6 : List AOp := [
  ⟨(some 11), .binOp .lss 3 (.tmp 10) (.const (.int .i64 4)) 3, none, 0⟩]
def L36r7 : List AOp := [
  ⟨(some 12), .move (.tmp 10), none, 0⟩,
  ⟨(some 5), .alloc 3, none, 0⟩,
  ⟨none, .store 3 (.tmp 5) (.tmp 12), none, 0⟩]
def L36r8 : List AOp := [
  ⟨(some 13), .makeFunc (.func 64) #[] #[.tmp 1, .tmp 4, .tmp 5], none, 0⟩,
  ⟨(some 6), .assign (.tmp 13), none, 0⟩]
def L36r9 : List AOp := [
  ⟨(some 14), .load 3 (.tmp 4), none, 0⟩,
  ⟨(some 15), .binOp .mul 3 (.const (.int .i64 4)) (.tmp 14) 3, none, 1⟩,
  ⟨(some 16), .load 3 (.tmp 5), none, 0⟩,
  ⟨(some 17), .binOp .add 3 (.tmp 15) (.tmp 16) 3, none, 7⟩,
  ⟨(some 18), .move (.tmp 6), none, 0⟩,
  ⟨(some 19), .call { callee := .value (.tmp 18), args := #[.const (.int .i64 0)], argTypes := #[3] }, none, 16⟩,
  ⟨(some 20), .call { callee := .value (.func 25), args := #[.const (.int .u8 2), .tmp 19], argTypes := #[5, 5] }, none, 48⟩,
  ⟨(some 21), .move (.tmp 6), none, 0⟩,
  ⟨(some 22), .call { callee := .value (.tmp 21), args := #[.const (.int .i64 1)], argTypes := #[3] }, none, 240⟩,
  ⟨(some 23), .call { callee := .value (.func 25), args := #[.const (.int .u8 3), .tmp 22], argTypes := #[5, 5] }, none, 496⟩,
  ⟨(some 24), .binOp .xor 5 (.tmp 20) (.tmp 23) 5, none, 1008⟩,
  ⟨(some 25), .move (.tmp 6), none, 0⟩,
  ⟨(some 26), .call { callee := .value (.tmp 25), args := #[.const (.int .i64 2)], argTypes := #[3] }, none, 3056⟩,
  ⟨(some 27), .binOp .xor 5 (.tmp 24) (.tmp 26) 5, none, 8176⟩,
  ⟨(some 28), .move (.tmp 6), none, 0⟩,
  ⟨(some 29), .call { callee := .value (.tmp 28), args := #[.const (.int .i64 3)], argTypes := #[3] }, none, 23536⟩,
  ⟨(some 30), .binOp .xor 5 (.tmp 27) (.tmp 29) 5, none, 65520⟩,
  ⟨(some 31), .indexAddr 22 (.tmp 3) (.tmp 17), none, 1267650600228229401496703336447⟩,
  ⟨none, .store 5 (.tmp 31) (.tmp 30), none, 1267650600228229401496703467519⟩]
def L36r10 : List AOp := [
  ⟨(some 32), .binOp .add 3 (.tmp 10) (.const (.int .i64 1)) 3, none, 0⟩,
  ⟨(some 10), .move (.tmp 32), none, 0⟩]
def L36r11 : List AOp := [
  ⟨(some 33), .binOp .add 3 (.tmp 7) (.const (.int .i64 1)) 3, none, 0⟩,
  ⟨(some 7), .move (.tmp 33), none, 0⟩]
def L36r12 : List AOp := [
  ⟨(some 34), .load 22 (.tmp 3), none, 0⟩,
  ⟨none, .store 22 (.tmp 2) (.tmp 34), none, 0⟩]
def L36 : LC := (.seq (.region L36r0) (.seq (.region L36r1) (.seq (.seq (.region L36r2) (.block 0 (.loop (.seq (.region L36r3) (.seq (.cond (.tmp 8) .skip (.exit 0)) (.seq (.block 1 (.seq (.region L36r4) (.seq (.region L36r5) (.block 2 (.loop (.seq (.region L36r6) (.seq (.cond (.tmp 11) .skip (.exit 2)) (.seq (.block 3 (.seq (.region L36r7) (.seq (.region L36r8) (.regionD L36r9)))) (.region L36r10))))))))) (.region L36r11))))))) (.seq (.region L36r12) .ret))))
theorem nt36 : Try.f36.ntmps = 35 := by kernel_rfl
theorem rs36 : Try.f36.results.toList = [.cell 2 22] := by kernel_rfl
theorem lite36 : Try.f36.body.map (lite okDraw) = some L36 := by kernel_rfl
def L37r0 : List AOp := [
  ⟨(some 1), .box 22 (.tmp 0), none, 0⟩,
  ⟨(some 2), .alloc 22, none, 0⟩]
def L37r1 : List AOp := [
  ⟨(some 8), .buildSlice 27 4 #[(0, .const (.int .u8 2)), (1, .const (.int .u8 3)), (2, .const (.int .u8 1)), (3, .const (.int .u8 1))], none, 0⟩,
  ⟨(some 9), .buildSlice 27 4 #[(0, .const (.int .u8 1)), (1, .const (.int .u8 2)), (2, .const (.int .u8 3)), (3, .const (.int .u8 1))], none, 0⟩,
  ⟨(some 10), .buildSlice 27 4 #[(0, .const (.int .u8 1)), (1, .const (.int .u8 1)), (2, .const (.int .u8 2)), (3, .const (.int .u8 3))], none, 0⟩,
  ⟨(some 11), .buildSlice 27 4 #[(0, .const (.int .u8 3)), (1, .const (.int .u8 1)), (2, .const (.int .u8 1)), (3, .const (.int .u8 2))], none, 0⟩,
  ⟨(some 12), .buildSlice 85 4 #[(0, .tmp 8), (1, .tmp 9), (2, .tmp 10), (3, .tmp 11)], none, 0⟩,
  ⟨(some 3), .assign (.tmp 12), none, 0⟩]
def L37r2 : List AOp := [
  ⟨(some 4), .alloc 22, none, 0⟩]
def L37r3 : List AOp := [
  ⟨(some 5), .assign (.const (.int .i64 0)), none, 0⟩]
def L37r4 : List AOp := [
  ⟨(some 13), .move (.tmp 5), none, 0⟩,
  ⟨(some 14), .binOp .lss 3 (.tmp 13) (.const (.int .i64 4)) 3, none, 0⟩]
def L37r6 : List AOp := [
  ⟨(some 6), .assign (.const (.int .i64 0)), none, 0⟩]
def L37r7 : List AOp := [
  ⟨(some 17), .move (.tmp 6), none, 0⟩,
  ⟨(some 18), .binOp .lss 3 (.tmp 17) (.const (.int .i64 4)) 3, none, 0⟩]
def L37r9 : List AOp := [
  ⟨(some 7), .assign (.const (.int .i64 0)), none, 0⟩]
def L37r10 : List AOp := [
  ⟨(some 21), .move (.tmp 7), none, 0⟩,
  ⟨(some 22), .binOp .lss 3 (.tmp 21) (.const (.int .i64 4)) 3, none, 0⟩]
def L37r12 : List AOp := [
  ⟨(some 25), .move (.tmp 5), none, 0⟩,
  ⟨(some 26), .binOp .mul 3 (.const (.int .i64 4)) (.tmp 25) 3, none, 1⟩,
  ⟨(some 27), .move (.tmp 6), none, 0⟩,
  ⟨(some 28), .binOp .add 3 (.tmp 26) (.tmp 27) 3, none, 7⟩,
  ⟨(some 29), .move (.tmp 5), none, 0⟩,
  ⟨(some 30), .binOp .mul 3 (.const (.int .i64 4)) (.tmp 29) 3, none, 16⟩,
  ⟨(some 31), .move (.tmp 6), none, 0⟩,
  ⟨(some 32), .binOp .add 3 (.tmp 30) (.tmp 31) 3, none, 112⟩,
  ⟨(some 33), .indexAddr 22 (.tmp 4) (.tmp 32), none, 240⟩,
  ⟨(some 34), .load 5 (.tmp 33), none, 496⟩,
  ⟨(some 35), .move (.tmp 3), none, 0⟩,
  ⟨(some 36), .move (.tmp 6), none, 0⟩,
  ⟨(some 37), .indexAddr 85 (.tmp 35) (.tmp 36), none, 3072⟩,
  ⟨(some 38), .load 27 (.tmp 37), none, 7168⟩,
  ⟨(some 39), .move (.tmp 7), none, 0⟩,
  ⟨(some 40), .indexAddr 27 (.tmp 38) (.tmp 39), none, 31744⟩,
  ⟨(some 41), .load 5 (.tmp 40), none, 64512⟩,
  ⟨(some 42), .move (.tmp 5), none, 0⟩,
  ⟨(some 43), .binOp .mul 3 (.const (.int .i64 4)) (.tmp 42) 3, none, 131072⟩,
  ⟨(some 44), .move (.tmp 7), none, 0⟩,
  ⟨(some 45), .binOp .add 3 (.tmp 43) (.tmp 44) 3, none, 917504⟩,
  ⟨(some 46), .indexAddr 22 (.tmp 1) (.tmp 45), none, 1966080⟩,
  ⟨(some 47), .load 5 (.tmp 46), none, 4063232⟩,
  ⟨(some 48), .call { callee := .value (.func 26), args := #[.tmp 41, .tmp 47], argTypes := #[5, 5] }, none, 8387584⟩,
  ⟨(some 49), .binOp .xor 5 (.tmp 34) (.tmp 48) 5, none, 16777200⟩,
  ⟨(some 50), .indexAddr 22 (.tmp 4) (.tmp 28), none, 1267650600228229401496736759807⟩,
  ⟨none, .store 5 (.tmp 50) (.tmp 49), none, 1267650600228229401496770314239⟩]
def L37r11 : List AOp := [
  ⟨(some 23), .move (.tmp 7), none, 0⟩,
  ⟨(some 24), .binOp .add 3 (.tmp 23) (.const (.int .i64 1)) 3, none, 0⟩,
  ⟨(some 7), .assign (.tmp 24), none, 0⟩]
def L37r8 : List AOp := [
  ⟨(some 19), .move (.tmp 6), none, 0⟩,
  ⟨(some 20), .binOp .add 3 (.tmp 19) (.const (.int .i64 1)) 3, none, 0⟩,
  ⟨(some 6), .assign (.tmp 20), none, 0⟩]
def L37r5 : List AOp := [
  ⟨(some 15), .move (.tmp 5), none, 0⟩,
  ⟨(some 16), .binOp .add 3 (.tmp 15) (.const (.int .i64 1)) 3, none, 0⟩,
  ⟨(some 5), .assign (.tmp 16), none, 0⟩]
def L37r13 : List AOp := [
  ⟨(some 51), .load 22 (.tmp 4), none, 0⟩,
  ⟨none, .store 22 (.tmp 2) (.tmp 51), none, 0⟩]
def L37 : LC := (.seq (.region L37r0) (.seq (.region L37r1) (.seq (.region L37r2) (.seq (.seq (.region L37r3) (.block 0 (.loop (.seq (.seq (.region L37r4) (.cond (.tmp 14) .skip (.exit 0))) (.seq (.block 1 (.seq (.region L37r6) (.block 2 (.loop (.seq (.seq (.region L37r7) (.cond (.tmp 18) .skip (.exit 2))) (.seq (.block 3 (.seq (.region L37r9) (.block 4 (.loop (.seq (.seq (.region L37r10) (.cond (.tmp 22) .skip (.exit 4))) (.seq (.block 5 (.regionD L37r12)) (.region L37r11))))))) (.region L37r8))))))) (.region L37r5)))))) (.seq (.region L37r13) .ret)))))
theorem nt37 : Try.f37.ntmps = 52 := by kernel_rfl
theorem rs37 : Try.f37.results.toList = [.cell 2 22] := by kernel_rfl
theorem lite37 : Try.f37.body.map (lite okDraw) = some L37 := by kernel_rfl
def L38r0 : List AOp := [
  ⟨(some 2), .assign (.const (.int .u8 0)), none, 0⟩]
def L38r1 : List AOp := [
  ⟨(some 5), .move (.tmp 0), none, 0⟩,
  ⟨(some 3), .assign (.const (.int .u8 1)), none, 0⟩,
  ⟨(some 4), .assign (.tmp 5), none, 0⟩]
def L38r2 : List AOp := [
  ⟨(some 6), .move (.const (.int .i64 0)), none, 0⟩]
def L38r3 : List AOp := [
  ⟨(some 7), .binOp .lss 3 (.tmp 6) (.const (.int .i64 7)) 3, none, 0⟩]
def L38r4 : List AOp := [
  ⟨(some 8), .move (.tmp 4), none, 0⟩,
  ⟨(some 9), .move (.tmp 4), none, 0⟩,
  ⟨(some 10), .call { callee := .value (.func 25), args := #[.tmp 8, .tmp 9], argTypes := #[5, 5] }, none, 0⟩,
  ⟨(some 4), .assign (.tmp 10), none, 0⟩]
def L38r5 : List AOp := [
  ⟨(some 11), .move (.tmp 3), none, 0⟩,
  ⟨(some 12), .move (.tmp 4), none, 0⟩,
  ⟨(some 13), .call { callee := .value (.func 25), args := #[.tmp 11, .tmp 12], argTypes := #[5, 5] }, none, 0⟩,
  ⟨(some 3), .assign (.tmp 13), none, 0⟩]
def L38r6 : List AOp := [
  ⟨(some 14), .binOp .add 3 (.tmp 6) (.const (.int .i64 1)) 3, none, 0⟩,
  ⟨(some 6), .move (.tmp 14), none, 0⟩]
def L38r7 : List AOp := [
  ⟨(some 15), .move (.tmp 3), none, 0⟩,
  ⟨(some 16), .move (.tmp 3), none, 0⟩,
  ⟨(some 17), .call { callee := .value (.func 65), args := #[.tmp 16, .const (.int .i64 1)], argTypes := #[5, 3] }, none, 0⟩,
  ⟨(some 18), .binOp .xor 5 (.tmp 15) (.tmp 17) 5, none, 0⟩,
  ⟨(some 19), .move (.tmp 3), none, 0⟩,
  ⟨(some 20), .call { callee := .value (.func 65), args := #[.tmp 19, .const (.int .i64 2)], argTypes := #[5, 3] }, none, 0⟩,
  ⟨(some 21), .binOp .xor 5 (.tmp 18) (.tmp 20) 5, none, 0⟩,
  ⟨(some 22), .move (.tmp 3), none, 0⟩,
  ⟨(some 23), .call { callee := .value (.func 65), args := #[.tmp 22, .const (.int .i64 3)], argTypes := #[5, 3] }, none, 0⟩,
  ⟨(some 24), .binOp .xor 5 (.tmp 21) (.tmp 23) 5, none, 0⟩,
  ⟨(some 25), .move (.tmp 3), none, 0⟩,
  ⟨(some 26), .call { callee := .value (.func 65), args := #[.tmp 25, .const (.int .i64 4)], argTypes := #[5, 3] }, none, 0⟩,
  ⟨(some 27), .binOp .xor 5 (.tmp 24) (.tmp 26) 5, none, 0⟩,
  ⟨(some 28), .binOp .xor 5 (.tmp 27) (.const (.int .u8 99)) 5, none, 0⟩,
  ⟨(some 2), .assign (.tmp 28), none, 0⟩]
def L38 : LC := (.seq (.region L38r0) (.seq (.region L38r1) (.seq (.seq (.region L38r2) (.block 0 (.loop (.seq (.region L38r3) (.seq (.cond (.tmp 7) .skip (.exit 0)) (.seq (.block 1 (.seq (.region L38r4) (.region L38r5))) (.region L38r6))))))) (.seq (.region L38r7) .ret))))
theorem nt38 : Try.f38.ntmps = 29 := by kernel_rfl
theorem rs38 : Try.f38.results.toList = [.tmp 2] := by kernel_rfl
theorem lite38 : Try.f38.body.map (lite okDraw) = some L38 := by kernel_rfl
def L39r0 : List AOp := [
  ⟨(some 2), .assign (.const (.int .u8 0)), none, 0⟩]
def L39r1 : List AOp := [
  ⟨(some 3), .assign (.const (.int .u8 0)), none, 0⟩]
def L39r2 : List AOp := [
  ⟨(some 4), .assign (.const (.int .i64 1)), none, 0⟩]
def L39r3 : List AOp := [
  ⟨(some 8), .move (.tmp 4), none, 0⟩,
  ⟨(some 9), .binOp .lss 3 (.tmp 8) (.const (.int .i64 256)) 3, none, 0⟩]
def L39r5 : List AOp := [
  ⟨(some 12), .move (.tmp 0), none, 0⟩,
  ⟨(some 13), .move (.tmp 4), none, 0⟩,
  ⟨(some 14), .convert 3 5 (.tmp 13), none, 0⟩,
  ⟨(some 15), .call { callee := .value (.func 26), args := #[.tmp 12, .tmp 14], argTypes := #[5, 5] }, none, 0⟩,
  ⟨(some 16), .binOp .eql 5 (.tmp 15) (.const (.int .u8 1)) 5, none, 0⟩]
def L39r6 : List AOp := [
  ⟨(some 17), .move (.tmp 4), none, 0⟩,
  ⟨(some 18), .convert 3 5 (.tmp 17), none, 0⟩,
  ⟨(some 3), .assign (.tmp 18), none, 0⟩]
def L39r4 : List AOp := [
  ⟨(some 10), .move (.tmp 4), none, 0⟩,
  ⟨(some 11), .binOp .add 3 (.tmp 10) (.const (.int .i64 1)) 3, none, 0⟩,
  ⟨(some 4), .assign (.tmp 11), none, 0⟩]
def L39r7 : List AOp := [
  ⟨(some 5), .assign (.const (.int .i64 0)), none, 0⟩]
def L39r8 : List AOp := [
  ⟨(some 6), .assign (.const (.int .i64 0)), none, 0⟩]
def L39r9 : List AOp := [
  ⟨(some 19), .move (.tmp 6), none, 0⟩,
  ⟨(some 20), .binOp .lss 3 (.tmp 19) (.const (.int .i64 8)) 3, none, 0⟩]
def L39r11 : List AOp := [
  ⟨(some 23), .move (.tmp 6), none, 0⟩,
  ⟨(some 24), .binOp .shr 3 (.const (.int .i64 99)) (.tmp 23) 3, none, 0⟩,
  ⟨(some 25), .binOp .rem 3 (.tmp 24) (.const (.int .i64 2)) 3, none, 0⟩,
  ⟨(some 7), .assign (.tmp 25), none, 0⟩]
def L39r12 : List AOp := [
  ⟨(some 26), .move (.tmp 7), none, 0⟩,
  ⟨(some 27), .move (.tmp 3), none, 0⟩,
  ⟨(some 28), .convert 5 3 (.tmp 27), none, 0⟩,
  ⟨(some 29), .move (.tmp 6), none, 0⟩,
  ⟨(some 30), .binOp .shr 3 (.tmp 28) (.tmp 29) 3, none, 0⟩,
  ⟨(some 31), .binOp .rem 3 (.tmp 30) (.const (.int .i64 2)) 3, none, 0⟩,
  ⟨(some 32), .binOp .add 3 (.tmp 26) (.tmp 31) 3, none, 0⟩,
  ⟨(some 7), .assign (.tmp 32), none, 0⟩]
def L39r13 : List AOp := [
  ⟨(some 33), .move (.tmp 7), none, 0⟩,
  ⟨(some 34), .move (.tmp 3), none, 0⟩,
  ⟨(some 35), .convert 5 3 (.tmp 34), none, 0⟩,
  ⟨(some 36), .move (.tmp 6), none, 0⟩,
  ⟨(some 37), .binOp .add 3 (.tmp 36) (.const (.int .i64 4)) 3, none, 0⟩,
  ⟨(some 38), .binOp .rem 3 (.tmp 37) (.const (.int .i64 8)) 3, none, 0⟩,
  ⟨(some 39), .binOp .shr 3 (.tmp 35) (.tmp 38) 3, none, 0⟩,
  ⟨(some 40), .binOp .rem 3 (.tmp 39) (.const (.int .i64 2)) 3, none, 0⟩,
  ⟨(some 41), .binOp .add 3 (.tmp 33) (.tmp 40) 3, none, 0⟩,
  ⟨(some 7), .assign (.tmp 41), none, 0⟩]
def L39r14 : List AOp := [
  ⟨(some 42), .move (.tmp 7), none, 0⟩,
  ⟨(some 43), .move (.tmp 3), none, 0⟩,
  ⟨(some 44), .convert 5 3 (.tmp 43), none, 0⟩,
  ⟨(some 45), .move (.tmp 6), none, 0⟩,
  ⟨(some 46), .binOp .add 3 (.tmp 45) (.const (.int .i64 5)) 3, none, 0⟩,
  ⟨(some 47), .binOp .rem 3 (.tmp 46) (.const (.int .i64 8)) 3, none, 0⟩,
  ⟨(some 48), .binOp .shr 3 (.tmp 44) (.tmp 47) 3, none, 0⟩,
  ⟨(some 49), .binOp .rem 3 (.tmp 48) (.const (.int .i64 2)) 3, none, 0⟩,
  ⟨(some 50), .binOp .add 3 (.tmp 42) (.tmp 49) 3, none, 0⟩,
  ⟨(some 7), .assign (.tmp 50), none, 0⟩]
def L39r15 : List AOp := [
  ⟨(some 51), .move (.tmp 7), none, 0⟩,
  ⟨(some 52), .move (.tmp 3), none, 0⟩,
  ⟨(some 53), .convert 5 3 (.tmp 52), none, 0⟩,
  ⟨(some 54), .move (.tmp 6), none, 0⟩,
  ⟨(some 55), .binOp .add 3 (.tmp 54) (.const (.int .i64 6)) 3, none, 0⟩,
  ⟨(some 56), .binOp .rem 3 (.tmp 55) (.const (.int .i64 8)) 3, none, 0⟩,
  ⟨(some 57), .binOp .shr 3 (.tmp 53) (.tmp 56) 3, none, 0⟩,
  ⟨(some 58), .binOp .rem 3 (.tmp 57) (.const (.int .i64 2)) 3, none, 0⟩,
  ⟨(some 59), .binOp .add 3 (.tmp 51) (.tmp 58) 3, none, 0⟩,
  ⟨(some 7), .assign (.tmp 59), none, 0⟩]
def L39r16 : List AOp := [
  ⟨(some 60), .move (.tmp 7), none, 0⟩,
  ⟨(some 61), .move (.tmp 3), none, 0⟩,
  ⟨(some 62), .convert 5 3 (.tmp 61), none, 0⟩,
  ⟨(some 63), .move (.tmp 6), none, 0⟩,
  ⟨(some 64), .binOp .add 3 (.tmp 63) (.const (.int .i64 7)) 3, none, 0⟩,
  ⟨(some 65), .binOp .rem 3 (.tmp 64) (.const (.int .i64 8)) 3, none, 0⟩,
  ⟨(some 66), .binOp .shr 3 (.tmp 62) (.tmp 65) 3, none, 0⟩,
  ⟨(some 67), .binOp .rem 3 (.tmp 66) (.const (.int .i64 2)) 3, none, 0⟩,
  ⟨(some 68), .binOp .add 3 (.tmp 60) (.tmp 67) 3, none, 0⟩,
  ⟨(some 7), .assign (.tmp 68), none, 0⟩]
def L39r17 : List AOp := [
  ⟨(some 69), .move (.tmp 5), none, 0⟩,
  ⟨(some 70), .move (.tmp 7), none, 0⟩,
  ⟨(some 71), .binOp .rem 3 (.tmp 70) (.const (.int .i64 2)) 3, none, 0⟩,
  ⟨(some 72), .move (.tmp 6), none, 0⟩,
  ⟨(some 73), .binOp .shl 3 (.tmp 71) (.tmp 72) 3, none, 0⟩,
  ⟨(some 74), .binOp .add 3 (.tmp 69) (.tmp 73) 3, none, 0⟩,
  ⟨(some 5), .assign (.tmp 74), none, 0⟩]
def L39r10 : List AOp := [
  ⟨(some 21), .move (.tmp 6), none, 0⟩,
  ⟨(some 22), .binOp .add 3 (.tmp 21) (.const (.int .i64 1)) 3, none, 0⟩,
  ⟨(some 6), .assign (.tmp 22), none, 0⟩]
def L39r18 : List AOp := [
  ⟨(some 75), .move (.tmp 5), none, 0⟩,
  ⟨(some 76), .convert 3 5 (.tmp 75), none, 0⟩,
  ⟨(some 2), .assign (.tmp 76), none, 0⟩]
def L39 : LC := (.seq (.region L39r0) (.seq (.region L39r1) (.seq (.seq (.region L39r2) (.block 0 (.loop (.seq (.seq (.region L39r3) (.cond (.tmp 9) .skip (.exit 0))) (.seq (.block 1 (.seq (.region L39r5) (.cond (.tmp 16) (.region L39r6) .skip))) (.region L39r4)))))) (.seq (.region L39r7) (.seq (.seq (.region L39r8) (.block 2 (.loop (.seq (.seq (.region L39r9) (.cond (.tmp 20) .skip (.exit 2))) (.seq (.block 3 (.seq (.region L39r11) (.seq (.region L39r12) (.seq (.region L39r13) (.seq (.region L39r14) (.seq (.region L39r15) (.seq (.region L39r16) (.region L39r17)))))))) (.region L39r10)))))) (.seq (.region L39r18) .ret))))))
theorem nt39 : Try.f39.ntmps = 77 := by kernel_rfl
theorem rs39 : Try.f39.results.toList = [.tmp 2] := by kernel_rfl
theorem lite39 : Try.f39.body.map (lite okDraw) = some L39 := by kernel_rfl
def L44r0 : List AOp := [
  ⟨(some 2), .box 22 (.tmp 0), none, 0⟩,
  ⟨(some 4), .alloc 22, none, 0⟩]
def L44r1 : List AOp := [
  ⟨(some 9), .move (.tmp 1), none, 0⟩,
  ⟨(some 10), .call { callee := .value (.func 67), args := #[.tmp 9], argTypes := #[27] }, none, 0⟩,
  ⟨(some 5), .assign (.tmp 10), none, 0⟩]
def L44r2 : List AOp := [
  ⟨(some 6), .alloc 22, none, 0⟩]
def L44r3 : List AOp := [
  ⟨(some 7), .assign (.const (.int .i64 0)), none, 0⟩]
def L44r4 : List AOp := [
  ⟨(some 11), .move (.tmp 7), none, 0⟩,
  ⟨(some 12), .move (.tmp 5), none, 0⟩,
  ⟨(some 13), .call { callee := .builtin .len, args := #[.tmp 12], argTypes := #[27] }, none, 0⟩,
  ⟨(some 14), .binOp .lss 3 (.tmp 11) (.tmp 13) 3, none, 0⟩]
def L44r6 : List AOp := [
  ⟨(some 8), .assign (.const (.int .i64 0)), none, 0⟩]
def L44r7 : List AOp := [
  ⟨(some 17), .move (.tmp 8), none, 0⟩,
  ⟨(some 18), .binOp .lss 3 (.tmp 17) (.const (.int .i64 16)) 3, none, 0⟩]
def L44r9 : List AOp := [
  ⟨(some 21), .move (.tmp 8), none, 0⟩,
  ⟨(some 22), .move (.tmp 8), none, 0⟩,
  ⟨(some 23), .indexAddr 22 (.tmp 6) (.tmp 22), none, 2⟩,
  ⟨(some 24), .load 5 (.tmp 23), none, 6⟩,
  ⟨(some 25), .move (.tmp 5), none, 0⟩,
  ⟨(some 26), .move (.tmp 7), none, 0⟩,
  ⟨(some 27), .move (.tmp 8), none, 0⟩,
  ⟨(some 28), .binOp .add 3 (.tmp 26) (.tmp 27) 3, none, 96⟩,
  ⟨(some 29), .indexAddr 27 (.tmp 25) (.tmp 28), none, 240⟩,
  ⟨(some 30), .load 5 (.tmp 29), none, 496⟩,
  ⟨(some 31), .binOp .xor 5 (.tmp 24) (.tmp 30) 5, none, 1022⟩,
  ⟨(some 32), .indexAddr 22 (.tmp 6) (.tmp 21), none, 1267650600228229401496703207423⟩,
  ⟨none, .store 5 (.tmp 32) (.tmp 31), none, 1267650600228229401496703209471⟩]
def L44r8 : List AOp := [
  ⟨(some 19), .move (.tmp 8), none, 0⟩,
  ⟨(some 20), .binOp .add 3 (.tmp 19) (.const (.int .i64 1)) 3, none, 0⟩,
  ⟨(some 8), .assign (.tmp 20), none, 0⟩]
def L44r10 : List AOp := [
  ⟨(some 33), .load 22 (.tmp 6), none, 0⟩,
  ⟨(some 34), .load 22 (.tmp 2), none, 0⟩,
  ⟨(some 35), .call { callee := .value (.func 32), args := #[.tmp 33, .tmp 34], argTypes := #[22, 22] }, none, 0⟩,
  ⟨none, .store 22 (.tmp 6) (.tmp 35), none, 0⟩]
def L44r5 : List AOp := [
  ⟨(some 15), .move (.tmp 7), none, 0⟩,
  ⟨(some 16), .binOp .add 3 (.tmp 15) (.const (.int .i64 16)) 3, none, 0⟩,
  ⟨(some 7), .assign (.tmp 16), none, 0⟩]
def L44r11 : List AOp := [
  ⟨(some 36), .load 22 (.tmp 6), none, 0⟩,
  ⟨none, .store 22 (.tmp 4) (.tmp 36), none, 0⟩]
def L44 : LC := (.seq (.region L44r0) (.seq (.region L44r1) (.seq (.region L44r2) (.seq (.seq (.region L44r3) (.block 0 (.loop (.seq (.seq (.region L44r4) (.cond (.tmp 14) .skip (.exit 0))) (.seq (.block 1 (.seq (.seq (.region L44r6) (.block 2 (.loop (.seq (.seq (.region L44r7) (.cond (.tmp 18) .skip (.exit 2))) (.seq (.block 3 (.regionD L44r9)) (.region L44r8)))))) (.region L44r10))) (.region L44r5)))))) (.seq (.region L44r11) .ret)))))
theorem nt44 : Try.f44.ntmps = 37 := by kernel_rfl
theorem rs44 : Try.f44.results.toList = [.cell 4 22] := by kernel_rfl
theorem lite44 : Try.f44.body.map (lite okDraw) = some L44 := by kernel_rfl
def L45r0 : List AOp := [
  ⟨(some 3), .box 22 (.tmp 0), none, 0⟩,
  ⟨(some 6), .alloc 22, none, 0⟩]
def L45r1 : List AOp := [
  ⟨(some 7), .alloc 22, none, 0⟩]
def L45r2 : List AOp := [
  ⟨(some 9), .move (.const (.int .i64 0)), none, 0⟩]
def L45r3 : List AOp := [
  ⟨(some 10), .binOp .lss 3 (.tmp 9) (.const (.int .i64 8)) 3, none, 0⟩]
def L45r4 : List AOp := [
  ⟨(some 11), .move (.tmp 9), none, 0⟩,
  ⟨(some 8), .assign (.tmp 11), none, 0⟩]
def L45r5 : List AOp := [
  ⟨(some 12), .move (.tmp 8), none, 0⟩,
  ⟨(some 13), .binOp .sub 3 (.const (.int .i64 7)) (.tmp 12) 3, none, 0⟩,
  ⟨(some 14), .move (.tmp 1), none, 0⟩,
  ⟨(some 15), .call { callee := .builtin .len, args := #[.tmp 14], argTypes := #[27] }, none, 0⟩,
  ⟨(some 16), .convert 3 29 (.tmp 15), none, 0⟩,
  ⟨(some 17), .binOp .mul 29 (.tmp 16) (.const (.int .u64 8)) 29, none, 0⟩,
  ⟨(some 18), .move (.tmp 8), none, 0⟩,
  ⟨(some 19), .binOp .mul 3 (.const (.int .i64 8)) (.tmp 18) 3, none, 0⟩,
  ⟨(some 20), .binOp .shr 29 (.tmp 17) (.tmp 19) 3, none, 0⟩,
  ⟨(some 21), .convert 29 5 (.tmp 20), none, 0⟩,
  ⟨(some 22), .indexAddr 22 (.tmp 7) (.tmp 13), none, 0⟩,
  ⟨none, .store 5 (.tmp 22) (.tmp 21), none, 0⟩]
def L45r6 : List AOp := [
  ⟨(some 23), .move (.tmp 8), none, 0⟩,
  ⟨(some 24), .binOp .sub 3 (.const (.int .i64 15)) (.tmp 23) 3, none, 0⟩,
  ⟨(some 25), .move (.tmp 2), none, 0⟩,
  ⟨(some 26), .call { callee := .builtin .len, args := #[.tmp 25], argTypes := #[27] }, none, 0⟩,
  ⟨(some 27), .convert 3 29 (.tmp 26), none, 0⟩,
  ⟨(some 28), .binOp .mul 29 (.tmp 27) (.const (.int .u64 8)) 29, none, 0⟩,
  ⟨(some 29), .move (.tmp 8), none, 0⟩,
  ⟨(some 30), .binOp .mul 3 (.const (.int .i64 8)) (.tmp 29) 3, none, 0⟩,
  ⟨(some 31), .binOp .shr 29 (.tmp 28) (.tmp 30) 3, none, 0⟩,
  ⟨(some 32), .convert 29 5 (.tmp 31), none, 0⟩,
  ⟨(some 33), .indexAddr 22 (.tmp 7) (.tmp 24), none, 0⟩,
  ⟨none, .store 5 (.tmp 33) (.tmp 32), none, 0⟩]
def L45r7 : List AOp := [
  ⟨(some 34), .binOp .add 3 (.tmp 9) (.const (.int .i64 1)) 3, none, 0⟩,
  ⟨(some 9), .move (.tmp 34), none, 0⟩]
def L45r8 : List AOp := [
  ⟨(some 35), .build 22 #[], none, 0⟩,
  ⟨(some 36), .load 22 (.tmp 3), none, 0⟩,
  ⟨(some 37), .move (.tmp 1), none, 0⟩,
  ⟨(some 38), .call { callee := .value (.func 66), args := #[.tmp 35, .tmp 36, .tmp 37], argTypes := #[22, 22, 27] }, none, 7⟩,
  ⟨(some 39), .load 22 (.tmp 3), none, 0⟩,
  ⟨(some 40), .move (.tmp 2), none, 0⟩,
  ⟨(some 41), .call { callee := .value (.func 66), args := #[.tmp 38, .tmp 39, .tmp 40], argTypes := #[22, 22, 27] }, none, 63⟩,
  ⟨(some 42), .load 22 (.tmp 3), none, 0⟩,
  ⟨(some 43), .slice 22 (.tmp 7) none none none, none, 0⟩,
  ⟨(some 44), .call { callee := .value (.func 66), args := #[.tmp 41, .tmp 42, .tmp 43], argTypes := #[22, 22, 27] }, none, 1267650600228229401496703205887⟩,
  ⟨none, .store 22 (.tmp 6) (.tmp 44), none, 1267650600228229401496703206399⟩]
def L45 : LC := (.seq (.region L45r0) (.seq (.region L45r1) (.seq (.seq (.region L45r2) (.block 0 (.loop (.seq (.region L45r3) (.seq (.cond (.tmp 10) .skip (.exit 0)) (.seq (.block 1 (.seq (.region L45r4) (.seq (.region L45r5) (.region L45r6)))) (.region L45r7))))))) (.seq (.regionD L45r8) .ret))))
theorem nt45 : Try.f45.ntmps = 45 := by kernel_rfl
theorem rs45 : Try.f45.results.toList = [.cell 6 22] := by kernel_rfl
theorem lite45 : Try.f45.body.map (lite okDraw) = some L45 := by kernel_rfl
def L46r0 : List AOp := [
  ⟨(some 3), .box 22 (.tmp 0), none, 0⟩,
  ⟨(some 6), .alloc 22, none, 0⟩]
def L46r1 : List AOp := [
  ⟨(some 8), .move (.tmp 1), none, 0⟩,
  ⟨(some 9), .call { callee := .value (.func 67), args := #[.tmp 8], argTypes := #[27] }, none, 0⟩,
  ⟨(some 7), .assign (.tmp 9), none, 0⟩]
def L46r2 : List AOp := [
  ⟨(some 10), .move (.tmp 7), none, 0⟩,
  ⟨(some 11), .move (.tmp 2), none, 0⟩,
  ⟨(some 12), .call { callee := .value (.func 67), args := #[.tmp 11], argTypes := #[27] }, none, 0⟩,
  ⟨(some 13), .call { callee := .builtin .append, args := #[.tmp 10, .tmp 12], argTypes := #[27, 27] }, none, 0⟩,
  ⟨(some 7), .assign (.tmp 13), none, 0⟩]
def L46r3 : List AOp := [
  ⟨(some 14), .move (.tmp 7), none, 0⟩,
  ⟨(some 15), .move (.tmp 1), none, 0⟩,
  ⟨(some 16), .call { callee := .builtin .len, args := #[.tmp 15], argTypes := #[27] }, none, 0⟩,
  ⟨(some 17), .call { callee := .value (.func 68), args := #[.tmp 16], argTypes := #[3] }, none, 0⟩,
  ⟨(some 18), .call { callee := .builtin .append, args := #[.tmp 14, .tmp 17], argTypes := #[27, 27] }, none, 0⟩,
  ⟨(some 7), .assign (.tmp 18), none, 0⟩]
def L46r4 : List AOp := [
  ⟨(some 19), .move (.tmp 7), none, 0⟩,
  ⟨(some 20), .move (.tmp 2), none, 0⟩,
  ⟨(some 21), .call { callee := .builtin .len, args := #[.tmp 20], argTypes := #[27] }, none, 0⟩,
  ⟨(some 22), .call { callee := .value (.func 68), args := #[.tmp 21], argTypes := #[3] }, none, 0⟩,
  ⟨(some 23), .call { callee := .builtin .append, args := #[.tmp 19, .tmp 22], argTypes := #[27, 27] }, none, 0⟩,
  ⟨(some 7), .assign (.tmp 23), none, 0⟩]
def L46r5 : List AOp := [
  ⟨(some 24), .load 22 (.tmp 3), none, 0⟩,
  ⟨(some 25), .move (.tmp 7), none, 0⟩,
  ⟨(some 26), .call { callee := .value (.func 44), args := #[.tmp 24, .tmp 25], argTypes := #[22, 27] }, none, 0⟩,
  ⟨none, .store 22 (.tmp 6) (.tmp 26), none, 0⟩]
def L46 : LC := (.seq (.region L46r0) (.seq (.region L46r1) (.seq (.region L46r2) (.seq (.region L46r3) (.seq (.region L46r4) (.seq (.region L46r5) .ret))))))
theorem nt46 : Try.f46.ntmps = 27 := by kernel_rfl
theorem rs46 : Try.f46.results.toList = [.cell 6 22] := by kernel_rfl
theorem lite46 : Try.f46.body.map (lite okDraw) = some L46 := by kernel_rfl
def L47r0 : List AOp := [
  ⟨(some 2), .assign (.const (.slice none 0 0)), none, 0⟩,
  ⟨(some 3), .assign (.const .nilIface), none, 0⟩]
def L47r1 : List AOp := [
  ⟨(some 13), .move (.tmp 0), none, 0⟩,
  ⟨(some 14), .call { callee := .builtin .len, args := #[.tmp 13], argTypes := #[27] }, none, 0⟩,
  ⟨(some 15), .binOp .neq 3 (.tmp 14) (.const (.int .i64 32)) 3, none, 0⟩]
def L47r2 : List AOp := [
  ⟨(some 16), .makeInterface 41 (.const (.int .i64 1)), none, 0⟩,
  ⟨(some 2), .assign (.const (.slice none 0 0)), none, 0⟩,
  ⟨(some 3), .assign (.tmp 16), none, 0⟩]
def L47r3 : List AOp := [
  ⟨(some 4), .alloc 89, none, 0⟩]
def L47r4 : List AOp := [
  ⟨(some 5), .assign (.const (.int .u8 1)), none, 0⟩]
def L47r5 : List AOp := [
  ⟨(some 17), .move (.const (.int .i64 0)), none, 0⟩]
def L47r6 : List AOp := [
  ⟨(some 18), .binOp .lss 3 (.tmp 17) (.const (.int .i64 60)) 3, none, 0⟩]
def L47r7 : List AOp := [
  ⟨(some 19), .move (.tmp 17), none, 0⟩,
  ⟨(some 6), .assign (.tmp 19), none, 0⟩]
def L47r8 : List AOp := [
  ⟨(some 20), .move (.tmp 6), none, 0⟩,
  ⟨(some 21), .binOp .lss 3 (.tmp 20) (.const (.int .i64 8)) 3, none, 0⟩]
def L47r9 : List AOp := [
  ⟨(some 22), .move (.tmp 6), none, 0⟩,
  ⟨(some 23), .move (.tmp 0), none, 0⟩,
  ⟨(some 24), .move (.tmp 6), none, 0⟩,
  ⟨(some 25), .binOp .mul 3 (.const (.int .i64 4)) (.tmp 24) 3, none, 0⟩,
  ⟨(some 26), .slice 27 (.tmp 23) (some (.tmp 25)) none none, none, 0⟩,
  ⟨(some 27), .sliceToArrayPointer 88 (.tmp 26), none, 0⟩,
  ⟨(some 28), .load 88 (.tmp 27), none, 0⟩,
  ⟨(some 29), .indexAddr 89 (.tmp 4) (.tmp 22), none, 0⟩,
  ⟨none, .store 88 (.tmp 29) (.tmp 28), none, 0⟩]
def L47r10 : List AOp := [
  ⟨(some 30), .move (.tmp 6), none, 0⟩,
  ⟨(some 31), .binOp .sub 3 (.tmp 30) (.const (.int .i64 1)) 3, none, 0⟩,
  ⟨(some 32), .indexAddr 89 (.tmp 4) (.tmp 31), none, 0⟩,
  ⟨(some 33), .load 88 (.tmp 32), none, 0⟩,
  ⟨(some 7), .alloc 88, none, 0⟩,
  ⟨none, .store 88 (.tmp 7) (.tmp 33), none, 0⟩]
def L47r11 : List AOp := [
  ⟨(some 34), .move (.tmp 6), none, 0⟩,
  ⟨(some 35), .binOp .rem 3 (.tmp 34) (.const (.int .i64 8)) 3, none, 0⟩,
  ⟨(some 36), .binOp .eql 3 (.tmp 35) (.const (.int .i64 0)) 3, none, 0⟩]
def L47r12 : List AOp := [
  ⟨(some 37), .indexAddr 88 (.tmp 7) (.const (.int .i64 1)), none, 0⟩,
  ⟨(some 38), .load 5 (.tmp 37), none, 0⟩,
  ⟨(some 39), .indexAddr 88 (.tmp 7) (.const (.int .i64 2)), none, 0⟩,
  ⟨(some 40), .load 5 (.tmp 39), none, 0⟩,
  ⟨(some 41), .indexAddr 88 (.tmp 7) (.const (.int .i64 3)), none, 0⟩,
  ⟨(some 42), .load 5 (.tmp 41), none, 0⟩,
  ⟨(some 43), .indexAddr 88 (.tmp 7) (.const (.int .i64 0)), none, 0⟩,
  ⟨(some 44), .load 5 (.tmp 43), none, 0⟩,
  ⟨(some 45), .build 88 #[(0, .tmp 38), (1, .tmp 40), (2, .tmp 42), (3, .tmp 44)], none, 0⟩,
  ⟨none, .store 88 (.tmp 7) (.tmp 45), none, 0⟩]
def L47r13 : List AOp := [
  ⟨(some 46), .move (.tmp 6), none, 0⟩,
  ⟨(some 47), .binOp .rem 3 (.tmp 46) (.const (.int .i64 4)) 3, none, 0⟩,
  ⟨(some 48), .binOp .eql 3 (.tmp 47) (.const (.int .i64 0)) 3, none, 0⟩]
def L47r14 : List AOp := [
  ⟨(some 49), .move (.const (.int .i64 0)), none, 0⟩]
def L47r15 : List AOp := [
  ⟨(some 50), .binOp .lss 3 (.tmp 49) (.const (.int .i64 4)) 3, none, 0⟩]
def L47r16 : List AOp := [
  ⟨(some 51), .move (.tmp 49), none, 0⟩,
  ⟨(some 8), .assign (.tmp 51), none, 0⟩]
def L47r17 : List AOp := [
  ⟨(some 52), .move (.tmp 8), none, 0⟩,
  ⟨(some 53), .move (.tmp 8), none, 0⟩,
  ⟨(some 54), .indexAddr 88 (.tmp 7) (.tmp 53), none, 0⟩,
  ⟨(some 55), .load 5 (.tmp 54), none, 0⟩,
  ⟨(some 56), .call { callee := .value (.func 38), args := #[.tmp 55], argTypes := #[5] }, none, 0⟩,
  ⟨(some 57), .indexAddr 88 (.tmp 7) (.tmp 52), none, 0⟩,
  ⟨none, .store 5 (.tmp 57) (.tmp 56), none, 0⟩]
def L47r18 : List AOp := [
  ⟨(some 58), .binOp .add 3 (.tmp 49) (.const (.int .i64 1)) 3, none, 0⟩,
  ⟨(some 49), .move (.tmp 58), none, 0⟩]
def L47r19 : List AOp := [
  ⟨(some 59), .move (.tmp 6), none, 0⟩,
  ⟨(some 60), .binOp .rem 3 (.tmp 59) (.const (.int .i64 8)) 3, none, 0⟩,
  ⟨(some 61), .binOp .eql 3 (.tmp 60) (.const (.int .i64 0)) 3, none, 0⟩]
def L47r20 : List AOp := [
  ⟨(some 62), .indexAddr 88 (.tmp 7) (.const (.int .i64 0)), none, 0⟩,
  ⟨(some 63), .load 5 (.tmp 62), none, 0⟩,
  ⟨(some 64), .move (.tmp 5), none, 0⟩,
  ⟨(some 65), .binOp .xor 5 (.tmp 63) (.tmp 64) 5, none, 0⟩,
  ⟨(some 66), .indexAddr 88 (.tmp 7) (.const (.int .i64 0)), none, 0⟩,
  ⟨none, .store 5 (.tmp 66) (.tmp 65), none, 0⟩]
def L47r21 : List AOp := [
  ⟨(some 67), .move (.tmp 5), none, 0⟩,
  ⟨(some 68), .call { callee := .value (.func 25), args := #[.tmp 67, .const (.int .u8 2)], argTypes := #[5, 5] }, none, 0⟩,
  ⟨(some 5), .assign (.tmp 68), none, 0⟩]
def L47r22 : List AOp := [
  ⟨(some 69), .move (.const (.int .i64 0)), none, 0⟩]
def L47r23 : List AOp := [
  ⟨(some 70), .binOp .lss 3 (.tmp 69) (.const (.int .i64 4)) 3, none, 0⟩]
def L47r24 : List AOp := [
  ⟨(some 71), .move (.tmp 69), none, 0⟩,
  ⟨(some 9), .assign (.tmp 71), none, 0⟩]
def L47r25 : List AOp := [
  ⟨(some 72), .move (.tmp 6), none, 0⟩,
  ⟨(some 73), .move (.tmp 9), none, 0⟩,
  ⟨(some 74), .move (.tmp 6), none, 0⟩,
  ⟨(some 75), .binOp .sub 3 (.tmp 74) (.const (.int .i64 8)) 3, none, 4⟩,
  ⟨(some 76), .move (.tmp 9), none, 0⟩,
  ⟨(some 77), .indexAddr 89 (.tmp 4) (.tmp 75), none, 12⟩,
  ⟨(some 78), .indexAddr 88 (.tmp 77) (.tmp 76), none, 60⟩,
  ⟨(some 79), .load 5 (.tmp 78), none, 124⟩,
  ⟨(some 80), .move (.tmp 9), none, 0⟩,
  ⟨(some 81), .indexAddr 88 (.tmp 7) (.tmp 80), none, 256⟩,
  ⟨(some 82), .load 5 (.tmp 81), none, 768⟩,
  ⟨(some 83), .binOp .xor 5 (.tmp 79) (.tmp 82) 5, none, 2044⟩,
  ⟨(some 84), .indexAddr 89 (.tmp 4) (.tmp 72), none, 1⟩,
  ⟨(some 85), .indexAddr 88 (.tmp 84) (.tmp 73), none, 1267650600228229401496703213567⟩,
  ⟨none, .store 5 (.tmp 85) (.tmp 83), none, 1267650600228229401496703221759⟩]
def L47r26 : List AOp := [
  ⟨(some 86), .binOp .add 3 (.tmp 69) (.const (.int .i64 1)) 3, none, 0⟩,
  ⟨(some 69), .move (.tmp 86), none, 0⟩]
def L47r27 : List AOp := [
  ⟨(some 87), .binOp .add 3 (.tmp 17) (.const (.int .i64 1)) 3, none, 0⟩,
  ⟨(some 17), .move (.tmp 87), none, 0⟩]
def L47r28 : List AOp := [
  ⟨(some 88), .makeSlice 56 (.const (.int .i64 15)) (.const (.int .i64 15)), none, 0⟩,
  ⟨(some 10), .assign (.tmp 88), none, 0⟩]
def L47r29 : List AOp := [
  ⟨(some 89), .move (.tmp 10), none, 0⟩,
  ⟨(some 90), .call { callee := .builtin .len, args := #[.tmp 89], argTypes := #[56] }, none, 0⟩,
  ⟨(some 91), .move (.const (.int .i64 0)), none, 0⟩]
def L47r30 : List AOp := [
  ⟨(some 92), .binOp .lss 3 (.tmp 91) (.tmp 90) 3, none, 0⟩]
def L47r31 : List AOp := [
  ⟨(some 93), .move (.tmp 91), none, 0⟩,
  ⟨(some 11), .assign (.tmp 93), none, 0⟩]
def L47r32 : List AOp := [
  ⟨(some 94), .move (.const (.int .i64 0)), none, 0⟩]
def L47r33 : List AOp := [
  ⟨(some 95), .binOp .lss 3 (.tmp 94) (.const (.int .i64 16)) 3, none, 0⟩]
def L47r34 : List AOp := [
  ⟨(some 96), .move (.tmp 94), none, 0⟩,
  ⟨(some 12), .assign (.tmp 96), none, 0⟩]
def L47r35 : List AOp := [
  ⟨(some 97), .move (.tmp 10), none, 0⟩,
  ⟨(some 98), .move (.tmp 11), none, 0⟩,
  ⟨(some 99), .move (.tmp 12), none, 0⟩,
  ⟨(some 100), .move (.tmp 11), none, 0⟩,
  ⟨(some 101), .binOp .mul 3 (.const (.int .i64 4)) (.tmp 100) 3, none, 8⟩,
  ⟨(some 102), .move (.tmp 12), none, 0⟩,
  ⟨(some 103), .binOp .quo 3 (.tmp 102) (.const (.int .i64 4)) 3, none, 32⟩,
  ⟨(some 104), .binOp .add 3 (.tmp 101) (.tmp 103) 3, none, 120⟩,
  ⟨(some 105), .move (.tmp 12), none, 0⟩,
  ⟨(some 106), .binOp .rem 3 (.tmp 105) (.const (.int .i64 4)) 3, none, 256⟩,
  ⟨(some 107), .indexAddr 89 (.tmp 4) (.tmp 104), none, 248⟩,
  ⟨(some 108), .indexAddr 88 (.tmp 107) (.tmp 106), none, 2040⟩,
  ⟨(some 109), .load 5 (.tmp 108), none, 4088⟩,
  ⟨(some 110), .indexAddr 56 (.tmp 97) (.tmp 98), none, 3⟩,
  ⟨(some 111), .indexAddr 22 (.tmp 110) (.tmp 99), none, 1267650600228229401496703221759⟩,
  ⟨none, .store 5 (.tmp 111) (.tmp 109), none, 1267650600228229401496703238143⟩]
def L47r36 : List AOp := [
  ⟨(some 112), .binOp .add 3 (.tmp 94) (.const (.int .i64 1)) 3, none, 0⟩,
  ⟨(some 94), .move (.tmp 112), none, 0⟩]
def L47r37 : List AOp := [
  ⟨(some 113), .binOp .add 3 (.tmp 91) (.const (.int .i64 1)) 3, none, 0⟩,
  ⟨(some 91), .move (.tmp 113), none, 0⟩]
def L47r38 : List AOp := [
  ⟨(some 114), .move (.tmp 10), none, 0⟩,
  ⟨(some 2), .assign (.tmp 114), none, 0⟩,
  ⟨(some 3), .assign (.const .nilIface), none, 0⟩]
def L47 : LC := (.seq (.region L47r0) (.seq (.seq (.region L47r1) (.cond (.tmp 15) (.seq (.region L47r2) .ret) .skip)) (.seq (.region L47r3) (.seq (.region L47r4) (.seq (.seq (.region L47r5) (.block 0 (.loop (.seq (.region L47r6) (.seq (.cond (.tmp 18) .skip (.exit 0)) (.seq (.block 1 (.seq (.region L47r7) (.seq (.seq (.region L47r8) (.cond (.tmp 21) (.seq (.region L47r9) (.exit 1)) .skip)) (.seq (.region L47r10) (.seq (.seq (.region L47r11) (.cond (.tmp 36) (.region L47r12) .skip)) (.seq (.seq (.region L47r13) (.cond (.tmp 48) (.seq (.region L47r14) (.block 2 (.loop (.seq (.region L47r15) (.seq (.cond (.tmp 50) .skip (.exit 2)) (.seq (.block 3 (.seq (.region L47r16) (.region L47r17))) (.region L47r18))))))) .skip)) (.seq (.seq (.region L47r19) (.cond (.tmp 61) (.seq (.region L47r20) (.region L47r21)) .skip)) (.seq (.region L47r22) (.block 4 (.loop (.seq (.region L47r23) (.seq (.cond (.tmp 70) .skip (.exit 4)) (.seq (.block 5 (.seq (.region L47r24) (.regionD L47r25))) (.region L47r26)))))))))))))) (.region L47r27))))))) (.seq (.region L47r28) (.seq (.seq (.region L47r29) (.block 6 (.loop (.seq (.region L47r30) (.seq (.cond (.tmp 92) .skip (.exit 6)) (.seq (.block 7 (.seq (.region L47r31) (.seq (.region L47r32) (.block 8 (.loop (.seq (.region L47r33) (.seq (.cond (.tmp 95) .skip (.exit 8)) (.seq (.block 9 (.seq (.region L47r34) (.regionD L47r35))) (.region L47r36))))))))) (.region L47r37))))))) (.seq (.region L47r38) .ret))))))))
theorem nt47 : Try.f47.ntmps = 115 := by kernel_rfl
theorem rs47 : Try.f47.results.toList = [.tmp 2, .tmp 3] := by kernel_rfl
theorem lite47 : Try.f47.body.map (lite okDraw) = some L47 := by kernel_rfl
def L48r0 : List AOp := [
  ⟨(some 4), .assign (.const (.slice none 0 0)), none, 0⟩]
def L48r1 : List AOp := [
  ⟨(some 5), .assign (.const (.slice none 0 0)), none, 0⟩]
def L48r2 : List AOp := [
  ⟨(some 6), .assign (.const (.int .u8 1)), none, 0⟩]
def L48r3 : List AOp := [
  ⟨(some 7), .assign (.const (.int .i64 0)), none, 0⟩]
def L48r4 : List AOp := [
  ⟨(some 15), .move (.tmp 7), none, 0⟩,
  ⟨(some 16), .binOp .lss 3 (.tmp 15) (.const (.int .i64 60)) 3, none, 0⟩]
def L48r6 : List AOp := [
  ⟨(some 19), .move (.tmp 7), none, 0⟩,
  ⟨(some 20), .binOp .lss 3 (.tmp 19) (.const (.int .i64 8)) 3, none, 0⟩]
def L48r7 : List AOp := [
  ⟨(some 21), .move (.tmp 5), none, 0⟩,
  ⟨(some 22), .move (.tmp 1), none, 0⟩,
  ⟨(some 23), .move (.tmp 7), none, 0⟩,
  ⟨(some 24), .binOp .mul 3 (.const (.int .i64 4)) (.tmp 23) 3, none, 0⟩,
  ⟨(some 25), .move (.tmp 7), none, 0⟩,
  ⟨(some 26), .binOp .mul 3 (.const (.int .i64 4)) (.tmp 25) 3, none, 0⟩,
  ⟨(some 27), .binOp .add 3 (.tmp 26) (.const (.int .i64 4)) 3, none, 0⟩,
  ⟨(some 28), .slice 27 (.tmp 22) (some (.tmp 24)) (some (.tmp 27)) none, none, 0⟩,
  ⟨(some 29), .buildSlice 85 1 #[(0, .tmp 28)], none, 0⟩,
  ⟨(some 30), .call { callee := .builtin .append, args := #[.tmp 21, .tmp 29], argTypes := #[85, 85] }, none, 0⟩,
  ⟨(some 5), .assign (.tmp 30), none, 0⟩]
def L48r8 : List AOp := [
  ⟨(some 31), .buildSlice 27 0 #[], none, 0⟩,
  ⟨(some 32), .move (.tmp 5), none, 0⟩,
  ⟨(some 33), .move (.tmp 7), none, 0⟩,
  ⟨(some 34), .binOp .sub 3 (.tmp 33) (.const (.int .i64 1)) 3, none, 0⟩,
  ⟨(some 35), .indexAddr 85 (.tmp 32) (.tmp 34), none, 0⟩,
  ⟨(some 36), .load 27 (.tmp 35), none, 0⟩,
  ⟨(some 37), .call { callee := .builtin .append, args := #[.tmp 31, .tmp 36], argTypes := #[27, 27] }, none, 0⟩,
  ⟨(some 8), .assign (.tmp 37), none, 0⟩]
def L48r9 : List AOp := [
  ⟨(some 38), .move (.tmp 7), none, 0⟩,
  ⟨(some 39), .binOp .rem 3 (.tmp 38) (.const (.int .i64 8)) 3, none, 0⟩,
  ⟨(some 40), .binOp .eql 3 (.tmp 39) (.const (.int .i64 0)) 3, none, 0⟩]
def L48r10 : List AOp := [
  ⟨(some 41), .move (.tmp 0), none, 0⟩,
  ⟨(some 42), .move (.tmp 8), none, 0⟩,
  ⟨(some 43), .indexAddr 27 (.tmp 42) (.const (.int .i64 1)), none, 2⟩,
  ⟨(some 44), .load 5 (.tmp 43), none, 6⟩,
  ⟨(some 45), .indexAddr 27 (.tmp 41) (.tmp 44), none, 15⟩,
  ⟨(some 46), .load 5 (.tmp 45), none, 31⟩,
  ⟨(some 47), .move (.tmp 6), none, 0⟩,
  ⟨(some 48), .binOp .xor 5 (.tmp 46) (.tmp 47) 5, none, 127⟩,
  ⟨(some 49), .move (.tmp 0), none, 0⟩,
  ⟨(some 50), .move (.tmp 8), none, 0⟩,
  ⟨(some 51), .indexAddr 27 (.tmp 50) (.const (.int .i64 2)), none, 512⟩,
  ⟨(some 52), .load 5 (.tmp 51), none, 1536⟩,
  ⟨(some 53), .indexAddr 27 (.tmp 49) (.tmp 52), none, 3840⟩,
  ⟨(some 54), .load 5 (.tmp 53), none, 7936⟩,
  ⟨(some 55), .move (.tmp 0), none, 0⟩,
  ⟨(some 56), .move (.tmp 8), none, 0⟩,
  ⟨(some 57), .indexAddr 27 (.tmp 56) (.const (.int .i64 3)), none, 32768⟩,
  ⟨(some 58), .load 5 (.tmp 57), none, 98304⟩,
  ⟨(some 59), .indexAddr 27 (.tmp 55) (.tmp 58), none, 245760⟩,
  ⟨(some 60), .load 5 (.tmp 59), none, 507904⟩,
  ⟨(some 61), .move (.tmp 0), none, 0⟩,
  ⟨(some 62), .move (.tmp 8), none, 0⟩,
  ⟨(some 63), .indexAddr 27 (.tmp 62) (.const (.int .i64 0)), none, 2097152⟩,
  ⟨(some 64), .load 5 (.tmp 63), none, 6291456⟩,
  ⟨(some 65), .indexAddr 27 (.tmp 61) (.tmp 64), none, 15728640⟩,
  ⟨(some 66), .load 5 (.tmp 65), none, 32505856⟩,
  ⟨(some 67), .buildSlice 27 4 #[(0, .tmp 48), (1, .tmp 54), (2, .tmp 60), (3, .tmp 66)], none, 1267650600228229401496770314239⟩,
  ⟨(some 8), .assign (.tmp 67), none, 1267650600228229401496837423103⟩]
def L48r11 : List AOp := [
  ⟨(some 68), .move (.tmp 6), none, 0⟩,
  ⟨(some 69), .call { callee := .value (.func 26), args := #[.tmp 68, .const (.int .u8 2)], argTypes := #[5, 5] }, none, 0⟩,
  ⟨(some 6), .assign (.tmp 69), none, 0⟩]
def L48r12 : List AOp := [
  ⟨(some 70), .move (.tmp 7), none, 0⟩,
  ⟨(some 71), .binOp .rem 3 (.tmp 70) (.const (.int .i64 8)) 3, none, 0⟩,
  ⟨(some 72), .binOp .eql 3 (.tmp 71) (.const (.int .i64 4)) 3, none, 0⟩]
def L48r13 : List AOp := [
  ⟨(some 73), .move (.tmp 0), none, 0⟩,
  ⟨(some 74), .move (.tmp 8), none, 0⟩,
  ⟨(some 75), .indexAddr 27 (.tmp 74) (.const (.int .i64 0)), none, 2⟩,
  ⟨(some 76), .load 5 (.tmp 75), none, 6⟩,
  ⟨(some 77), .indexAddr 27 (.tmp 73) (.tmp 76), none, 15⟩,
  ⟨(some 78), .load 5 (.tmp 77), none, 31⟩,
  ⟨(some 79), .move (.tmp 0), none, 0⟩,
  ⟨(some 80), .move (.tmp 8), none, 0⟩,
  ⟨(some 81), .indexAddr 27 (.tmp 80) (.const (.int .i64 1)), none, 128⟩,
  ⟨(some 82), .load 5 (.tmp 81), none, 384⟩,
  ⟨(some 83), .indexAddr 27 (.tmp 79) (.tmp 82), none, 960⟩,
  ⟨(some 84), .load 5 (.tmp 83), none, 1984⟩,
  ⟨(some 85), .move (.tmp 0), none, 0⟩,
  ⟨(some 86), .move (.tmp 8), none, 0⟩,
  ⟨(some 87), .indexAddr 27 (.tmp 86) (.const (.int .i64 2)), none, 8192⟩,
  ⟨(some 88), .load 5 (.tmp 87), none, 24576⟩,
  ⟨(some 89), .indexAddr 27 (.tmp 85) (.tmp 88), none, 61440⟩,
  ⟨(some 90), .load 5 (.tmp 89), none, 126976⟩,
  ⟨(some 91), .move (.tmp 0), none, 0⟩,
  ⟨(some 92), .move (.tmp 8), none, 0⟩,
  ⟨(some 93), .indexAddr 27 (.tmp 92) (.const (.int .i64 3)), none, 524288⟩,
  ⟨(some 94), .load 5 (.tmp 93), none, 1572864⟩,
  ⟨(some 95), .indexAddr 27 (.tmp 91) (.tmp 94), none, 3932160⟩,
  ⟨(some 96), .load 5 (.tmp 95), none, 8126464⟩,
  ⟨(some 97), .buildSlice 27 4 #[(0, .tmp 78), (1, .tmp 84), (2, .tmp 90), (3, .tmp 96)], none, 1267650600228229401496719982591⟩,
  ⟨(some 8), .assign (.tmp 97), none, 1267650600228229401496736759807⟩]
def L48r14 : List AOp := [
  ⟨(some 9), .assign (.const (.slice none 0 0)), none, 0⟩]
def L48r15 : List AOp := [
  ⟨(some 10), .assign (.const (.int .i64 0)), none, 0⟩]
def L48r16 : List AOp := [
  ⟨(some 98), .move (.tmp 10), none, 0⟩,
  ⟨(some 99), .binOp .lss 3 (.tmp 98) (.const (.int .i64 4)) 3, none, 0⟩]
def L48r18 : List AOp := [
  ⟨(some 102), .move (.tmp 9), none, 0⟩,
  ⟨(some 103), .move (.tmp 8), none, 0⟩,
  ⟨(some 104), .move (.tmp 10), none, 0⟩,
  ⟨(some 105), .indexAddr 27 (.tmp 103) (.tmp 104), none, 6⟩,
  ⟨(some 106), .load 5 (.tmp 105), none, 14⟩,
  ⟨(some 107), .move (.tmp 5), none, 0⟩,
  ⟨(some 108), .move (.tmp 7), none, 0⟩,
  ⟨(some 109), .binOp .sub 3 (.tmp 108) (.const (.int .i64 8)) 3, none, 64⟩,
  ⟨(some 110), .indexAddr 85 (.tmp 107) (.tmp 109), none, 224⟩,
  ⟨(some 111), .load 27 (.tmp 110), none, 480⟩,
  ⟨(some 112), .move (.tmp 10), none, 0⟩,
  ⟨(some 113), .indexAddr 27 (.tmp 111) (.tmp 112), none, 2016⟩,
  ⟨(some 114), .load 5 (.tmp 113), none, 4064⟩,
  ⟨(some 115), .binOp .xor 5 (.tmp 106) (.tmp 114) 5, none, 8190⟩,
  ⟨(some 116), .buildSlice 27 1 #[(0, .tmp 115)], none, 16382⟩,
  ⟨(some 117), .call { callee := .builtin .append, args := #[.tmp 102, .tmp 116], argTypes := #[27, 27] }, none, 1267650600228229401496703238143⟩,
  ⟨(some 9), .assign (.tmp 117), none, 1267650600228229401496703270911⟩]
def L48r17 : List AOp := [
  ⟨(some 100), .move (.tmp 10), none, 0⟩,
  ⟨(some 101), .binOp .add 3 (.tmp 100) (.const (.int .i64 1)) 3, none, 0⟩,
  ⟨(some 10), .assign (.tmp 101), none, 0⟩]
def L48r19 : List AOp := [
  ⟨(some 118), .move (.tmp 5), none, 0⟩,
  ⟨(some 119), .move (.tmp 9), none, 0⟩,
  ⟨(some 120), .buildSlice 85 1 #[(0, .tmp 119)], none, 0⟩,
  ⟨(some 121), .call { callee := .builtin .append, args := #[.tmp 118, .tmp 120], argTypes := #[85, 85] }, none, 0⟩,
  ⟨(some 5), .assign (.tmp 121), none, 0⟩]
def L48r5 : List AOp := [
  ⟨(some 17), .move (.tmp 7), none, 0⟩,
  ⟨(some 18), .binOp .add 3 (.tmp 17) (.const (.int .i64 1)) 3, none, 0⟩,
  ⟨(some 7), .assign (.tmp 18), none, 0⟩]
def L48r20 : List AOp := [
  ⟨(some 11), .assign (.const (.slice none 0 0)), none, 0⟩]
def L48r21 : List AOp := [
  ⟨(some 12), .assign (.const (.int .i64 0)), none, 0⟩]
def L48r22 : List AOp := [
  ⟨(some 122), .move (.tmp 12), none, 0⟩,
  ⟨(some 123), .binOp .lss 3 (.tmp 122) (.const (.int .i64 15)) 3, none, 0⟩]
def L48r24 : List AOp := [
  ⟨(some 13), .alloc 22, none, 0⟩]
def L48r25 : List AOp := [
  ⟨(some 14), .assign (.const (.int .i64 0)), none, 0⟩]
def L48r26 : List AOp := [
  ⟨(some 126), .move (.tmp 14), none, 0⟩,
  ⟨(some 127), .binOp .lss 3 (.tmp 126) (.const (.int .i64 16)) 3, none, 0⟩]
def L48r28 : List AOp := [
  ⟨(some 130), .move (.tmp 14), none, 0⟩,
  ⟨(some 131), .move (.tmp 5), none, 0⟩,
  ⟨(some 132), .move (.tmp 12), none, 0⟩,
  ⟨(some 133), .binOp .mul 3 (.const (.int .i64 4)) (.tmp 132) 3, none, 0⟩,
  ⟨(some 134), .move (.tmp 14), none, 0⟩,
  ⟨(some 135), .binOp .quo 3 (.tmp 134) (.const (.int .i64 4)) 3, none, 0⟩,
  ⟨(some 136), .binOp .add 3 (.tmp 133) (.tmp 135) 3, none, 0⟩,
  ⟨(some 137), .indexAddr 85 (.tmp 131) (.tmp 136), none, 0⟩,
  ⟨(some 138), .load 27 (.tmp 137), none, 0⟩,
  ⟨(some 139), .move (.tmp 14), none, 0⟩,
  ⟨(some 140), .binOp .rem 3 (.tmp 139) (.const (.int .i64 4)) 3, none, 0⟩,
  ⟨(some 141), .indexAddr 27 (.tmp 138) (.tmp 140), none, 0⟩,
  ⟨(some 142), .load 5 (.tmp 141), none, 0⟩,
  ⟨(some 143), .indexAddr 22 (.tmp 13) (.tmp 130), none, 0⟩,
  ⟨none, .store 5 (.tmp 143) (.tmp 142), none, 0⟩]
def L48r27 : List AOp := [
  ⟨(some 128), .move (.tmp 14), none, 0⟩,
  ⟨(some 129), .binOp .add 3 (.tmp 128) (.const (.int .i64 1)) 3, none, 0⟩,
  ⟨(some 14), .assign (.tmp 129), none, 0⟩]
def L48r29 : List AOp := [
  ⟨(some 144), .move (.tmp 11), none, 0⟩,
  ⟨(some 145), .load 22 (.tmp 13), none, 0⟩,
  ⟨(some 146), .buildSlice 56 1 #[(0, .tmp 145)], none, 0⟩,
  ⟨(some 147), .call { callee := .builtin .append, args := #[.tmp 144, .tmp 146], argTypes := #[56, 56] }, none, 0⟩,
  ⟨(some 11), .assign (.tmp 147), none, 0⟩]
def L48r23 : List AOp := [
  ⟨(some 124), .move (.tmp 12), none, 0⟩,
  ⟨(some 125), .binOp .add 3 (.tmp 124) (.const (.int .i64 1)) 3, none, 0⟩,
  ⟨(some 12), .assign (.tmp 125), none, 0⟩]
def L48r30 : List AOp := [
  ⟨(some 148), .move (.tmp 11), none, 0⟩,
  ⟨(some 4), .assign (.tmp 148), none, 0⟩]
def L48 : LC := (.seq (.region L48r0) (.seq (.region L48r1) (.seq (.region L48r2) (.seq (.seq (.region L48r3) (.block 0 (.loop (.seq (.seq (.region L48r4) (.cond (.tmp 16) .skip (.exit 0))) (.seq (.block 1 (.seq (.seq (.region L48r6) (.cond (.tmp 20) (.seq (.region L48r7) (.exit 1)) .skip)) (.seq (.region L48r8) (.seq (.seq (.region L48r9) (.cond (.tmp 40) (.seq (.regionD L48r10) (.region L48r11)) .skip)) (.seq (.seq (.region L48r12) (.cond (.tmp 72) (.regionD L48r13) .skip)) (.seq (.region L48r14) (.seq (.seq (.region L48r15) (.block 2 (.loop (.seq (.seq (.region L48r16) (.cond (.tmp 99) .skip (.exit 2))) (.seq (.block 3 (.regionD L48r18)) (.region L48r17)))))) (.region L48r19)))))))) (.region L48r5)))))) (.seq (.region L48r20) (.seq (.seq (.region L48r21) (.block 4 (.loop (.seq (.seq (.region L48r22) (.cond (.tmp 123) .skip (.exit 4))) (.seq (.block 5 (.seq (.region L48r24) (.seq (.seq (.region L48r25) (.block 6 (.loop (.seq (.seq (.region L48r26) (.cond (.tmp 127) .skip (.exit 6))) (.seq (.block 7 (.region L48r28)) (.region L48r27)))))) (.region L48r29)))) (.region L48r23)))))) (.seq (.region L48r30) .ret)))))))
theorem nt48 : Try.f48.ntmps = 149 := by kernel_rfl
theorem rs48 : Try.f48.results.toList = [.tmp 4] := by kernel_rfl
theorem lite48 : Try.f48.body.map (lite okDraw) = some L48 := by kernel_rfl
def L49r0 : List AOp := [
  ⟨(some 0), .assign (.const (.slice none 0 0)), none, 0⟩]
def L49r1 : List AOp := [
  ⟨(some 1), .assign (.const (.slice none 0 0)), none, 0⟩]
def L49r2 : List AOp := [
  ⟨(some 2), .assign (.const (.int .i64 0)), none, 0⟩]
def L49r3 : List AOp := [
  ⟨(some 3), .move (.tmp 2), none, 0⟩,
  ⟨(some 4), .binOp .lss 3 (.tmp 3) (.const (.int .i64 256)) 3, none, 0⟩]
def L49r5 : List AOp := [
  ⟨(some 7), .move (.tmp 1), none, 0⟩,
  ⟨(some 8), .move (.tmp 2), none, 0⟩,
  ⟨(some 9), .convert 3 5 (.tmp 8), none, 0⟩,
  ⟨(some 10), .call { callee := .value (.func 39), args := #[.tmp 9], argTypes := #[5] }, none, 0⟩,
  ⟨(some 11), .buildSlice 27 1 #[(0, .tmp 10)], none, 0⟩,
  ⟨(some 12), .call { callee := .builtin .append, args := #[.tmp 7, .tmp 11], argTypes := #[27, 27] }, none, 0⟩,
  ⟨(some 1), .assign (.tmp 12), none, 0⟩]
def L49r4 : List AOp := [
  ⟨(some 5), .move (.tmp 2), none, 0⟩,
  ⟨(some 6), .binOp .add 3 (.tmp 5) (.const (.int .i64 1)) 3, none, 0⟩,
  ⟨(some 2), .assign (.tmp 6), none, 0⟩]
def L49r6 : List AOp := [
  ⟨(some 13), .move (.tmp 1), none, 0⟩,
  ⟨(some 0), .assign (.tmp 13), none, 0⟩]
def L49 : LC := (.seq (.region L49r0) (.seq (.region L49r1) (.seq (.seq (.region L49r2) (.block 0 (.loop (.seq (.seq (.region L49r3) (.cond (.tmp 4) .skip (.exit 0))) (.seq (.block 1 (.region L49r5)) (.region L49r4)))))) (.seq (.region L49r6) .ret))))
theorem nt49 : Try.f49.ntmps = 14 := by kernel_rfl
theorem rs49 : Try.f49.results.toList = [.tmp 0] := by kernel_rfl
theorem lite49 : Try.f49.body.map (lite okDraw) = some L49 := by kernel_rfl
def L50r0 : List AOp := [
  ⟨(some 3), .box 22 (.tmp 1), none, 0⟩,
  ⟨(some 4), .alloc 22, none, 0⟩,
  ⟨(some 5), .assign (.const .nilIface), none, 0⟩]
def L50r1 : List AOp := [
  ⟨(some 12), .move (.tmp 0), none, 0⟩,
  ⟨(some 13), .call { callee := .value (.func 47), args := #[.tmp 12], argTypes := #[27] }, none, 0⟩,
  ⟨(some 11), .move (.tmp 13), none, 0⟩,
  ⟨(some 14), .extract (.tmp 11) 0, none, 0⟩,
  ⟨(some 15), .extract (.tmp 11) 1, none, 0⟩,
  ⟨(some 6), .assign (.tmp 14), none, 0⟩,
  ⟨(some 7), .assign (.tmp 15), none, 0⟩]
def L50r2 : List AOp := [
  ⟨(some 16), .move (.tmp 7), none, 0⟩,
  ⟨(some 17), .binOp .neq 38 (.tmp 16) (.const .nilIface) 38, none, 0⟩]
def L50r3 : List AOp := [
  ⟨(some 18), .build 22 #[], none, 0⟩,
  ⟨(some 19), .move (.tmp 7), none, 0⟩,
  ⟨none, .store 22 (.tmp 4) (.tmp 18), none, 0⟩,
  ⟨(some 5), .assign (.tmp 19), none, 0⟩]
def L50r4 : List AOp := [
  ⟨(some 20), .load 22 (.tmp 3), none, 0⟩,
  ⟨(some 21), .move (.tmp 6), none, 0⟩,
  ⟨(some 22), .indexAddr 56 (.tmp 21) (.const (.int .i64 0)), none, 2⟩,
  ⟨(some 23), .load 22 (.tmp 22), none, 6⟩,
  ⟨(some 24), .call { callee := .value (.func 69), args := #[.tmp 20, .tmp 23], argTypes := #[22, 22] }, none, 15⟩,
  ⟨(some 8), .alloc 22, none, 0⟩,
  ⟨none, .store 22 (.tmp 8) (.tmp 24), none, 1267650600228229401496703205439⟩]
def L50r5 : List AOp := [
  ⟨(some 9), .assign (.const (.int .i64 1)), none, 0⟩]
def L50r6 : List AOp := [
  ⟨(some 25), .move (.tmp 9), none, 0⟩,
  ⟨(some 26), .binOp .leq 3 (.tmp 25) (.const (.int .i64 14)) 3, none, 0⟩]
def L50r8 : List AOp := [
  ⟨(some 29), .move (.const (.int .i64 0)), none, 0⟩]
def L50r9 : List AOp := [
  ⟨(some 30), .binOp .lss 3 (.tmp 29) (.const (.int .i64 16)) 3, none, 0⟩]
def L50r10 : List AOp := [
  ⟨(some 31), .move (.tmp 29), none, 0⟩,
  ⟨(some 10), .assign (.tmp 31), none, 0⟩]
def L50r11 : List AOp := [
  ⟨(some 32), .move (.tmp 10), none, 0⟩,
  ⟨(some 33), .move (.tmp 10), none, 0⟩,
  ⟨(some 34), .indexAddr 22 (.tmp 8) (.tmp 33), none, 0⟩,
  ⟨(some 35), .load 5 (.tmp 34), none, 0⟩,
  ⟨(some 36), .call { callee := .value (.func 38), args := #[.tmp 35], argTypes := #[5] }, none, 0⟩,
  ⟨(some 37), .indexAddr 22 (.tmp 8) (.tmp 32), none, 0⟩,
  ⟨none, .store 5 (.tmp 37) (.tmp 36), none, 0⟩]
def L50r12 : List AOp := [
  ⟨(some 38), .binOp .add 3 (.tmp 29) (.const (.int .i64 1)) 3, none, 0⟩,
  ⟨(some 29), .move (.tmp 38), none, 0⟩]
def L50r13 : List AOp := [
  ⟨(some 39), .load 22 (.tmp 8), none, 0⟩,
  ⟨(some 40), .call { callee := .value (.func 23), args := #[.tmp 39], argTypes := #[22] }, none, 0⟩,
  ⟨none, .store 22 (.tmp 8) (.tmp 40), none, 0⟩]
def L50r14 : List AOp := [
  ⟨(some 41), .move (.tmp 9), none, 0⟩,
  ⟨(some 42), .binOp .lss 3 (.tmp 41) (.const (.int .i64 14)) 3, none, 0⟩]
def L50r15 : List AOp := [
  ⟨(some 43), .load 22 (.tmp 8), none, 0⟩,
  ⟨(some 44), .call { callee := .value (.func 36), args := #[.tmp 43], argTypes := #[22] }, none, 0⟩,
  ⟨none, .store 22 (.tmp 8) (.tmp 44), none, 0⟩]
def L50r16 : List AOp := [
  ⟨(some 45), .load 22 (.tmp 8), none, 0⟩,
  ⟨(some 46), .move (.tmp 6), none, 0⟩,
  ⟨(some 47), .move (.tmp 9), none, 0⟩,
  ⟨(some 48), .indexAddr 56 (.tmp 46) (.tmp 47), none, 6⟩,
  ⟨(some 49), .load 22 (.tmp 48), none, 14⟩,
  ⟨(some 50), .call { callee := .value (.func 69), args := #[.tmp 45, .tmp 49], argTypes := #[22, 22] }, none, 1267650600228229401496703205407⟩,
  ⟨none, .store 22 (.tmp 8) (.tmp 50), none, 1267650600228229401496703205439⟩]
def L50r7 : List AOp := [
  ⟨(some 27), .move (.tmp 9), none, 0⟩,
  ⟨(some 28), .binOp .add 3 (.tmp 27) (.const (.int .i64 1)) 3, none, 0⟩,
  ⟨(some 9), .assign (.tmp 28), none, 0⟩]
def L50r17 : List AOp := [
  ⟨(some 51), .load 22 (.tmp 8), none, 0⟩,
  ⟨none, .store 22 (.tmp 4) (.tmp 51), none, 0⟩,
  ⟨(some 5), .assign (.const .nilIface), none, 0⟩]
def L50 : LC := (.seq (.region L50r0) (.seq (.region L50r1) (.seq (.seq (.region L50r2) (.cond (.tmp 17) (.seq (.region L50r3) .ret) .skip)) (.seq (.regionD L50r4) (.seq (.seq (.region L50r5) (.block 0 (.loop (.seq (.seq (.region L50r6) (.cond (.tmp 26) .skip (.exit 0))) (.seq (.block 1 (.seq (.seq (.region L50r8) (.block 2 (.loop (.seq (.region L50r9) (.seq (.cond (.tmp 30) .skip (.exit 2)) (.seq (.block 3 (.seq (.region L50r10) (.region L50r11))) (.region L50r12))))))) (.seq (.region L50r13) (.seq (.seq (.region L50r14) (.cond (.tmp 42) (.region L50r15) .skip)) (.regionD L50r16))))) (.region L50r7)))))) (.seq (.region L50r17) .ret))))))
theorem nt50 : Try.f50.ntmps = 52 := by kernel_rfl
theorem rs50 : Try.f50.results.toList = [.cell 4 22, .tmp 5] := by kernel_rfl
theorem lite50 : Try.f50.body.map (lite okDraw) = some L50 := by kernel_rfl
def L51r0 : List AOp := [
  ⟨(some 5), .box 22 (.tmp 2), none, 0⟩,
  ⟨(some 6), .alloc 22, none, 0⟩]
def L51r1 : List AOp := [
  ⟨(some 12), .move (.tmp 0), none, 0⟩,
  ⟨(some 13), .move (.tmp 1), none, 0⟩,
  ⟨(some 14), .call { callee := .value (.func 48), args := #[.tmp 12, .tmp 13], argTypes := #[27, 27] }, none, 0⟩,
  ⟨(some 7), .assign (.tmp 14), none, 0⟩]
def L51r2 : List AOp := [
  ⟨(some 15), .load 22 (.tmp 5), none, 0⟩,
  ⟨(some 8), .alloc 22, none, 0⟩,
  ⟨none, .store 22 (.tmp 8) (.tmp 15), none, 0⟩]
def L51r3 : List AOp := [
  ⟨(some 9), .assign (.const (.int .i64 0)), none, 0⟩]
def L51r4 : List AOp := [
  ⟨(some 16), .move (.tmp 9), none, 0⟩,
  ⟨(some 17), .binOp .lss 3 (.tmp 16) (.const (.int .i64 15)) 3, none, 0⟩]
def L51r6 : List AOp := [
  ⟨(some 20), .move (.tmp 9), none, 0⟩,
  ⟨(some 21), .binOp .gtr 3 (.tmp 20) (.const (.int .i64 0)) 3, none, 0⟩]
def L51r7 : List AOp := [
  ⟨(some 10), .assign (.const (.int .i64 0)), none, 0⟩]
def L51r8 : List AOp := [
  ⟨(some 22), .move (.tmp 10), none, 0⟩,
  ⟨(some 23), .binOp .lss 3 (.tmp 22) (.const (.int .i64 16)) 3, none, 0⟩]
def L51r10 : List AOp := [
  ⟨(some 26), .move (.tmp 10), none, 0⟩,
  ⟨(some 27), .move (.tmp 0), none, 0⟩,
  ⟨(some 28), .move (.tmp 10), none, 0⟩,
  ⟨(some 29), .indexAddr 22 (.tmp 8) (.tmp 28), none, 0⟩,
  ⟨(some 30), .load 5 (.tmp 29), none, 0⟩,
  ⟨(some 31), .indexAddr 27 (.tmp 27) (.tmp 30), none, 0⟩,
  ⟨(some 32), .load 5 (.tmp 31), none, 0⟩,
  ⟨(some 33), .indexAddr 22 (.tmp 8) (.tmp 26), none, 0⟩,
  ⟨none, .store 5 (.tmp 33) (.tmp 32), none, 0⟩]
def L51r9 : List AOp := [
  ⟨(some 24), .move (.tmp 10), none, 0⟩,
  ⟨(some 25), .binOp .add 3 (.tmp 24) (.const (.int .i64 1)) 3, none, 0⟩,
  ⟨(some 10), .assign (.tmp 25), none, 0⟩]
def L51r11 : List AOp := [
  ⟨(some 34), .load 22 (.tmp 8), none, 0⟩,
  ⟨(some 35), .call { callee := .value (.func 24), args := #[.tmp 34], argTypes := #[22] }, none, 0⟩,
  ⟨none, .store 22 (.tmp 8) (.tmp 35), none, 0⟩]
def L51r12 : List AOp := [
  ⟨(some 36), .move (.tmp 9), none, 0⟩,
  ⟨(some 37), .binOp .lss 3 (.tmp 36) (.const (.int .i64 14)) 3, none, 0⟩]
def L51r13 : List AOp := [
  ⟨(some 38), .load 22 (.tmp 8), none, 0⟩,
  ⟨(some 39), .call { callee := .value (.func 37), args := #[.tmp 38], argTypes := #[22] }, none, 0⟩,
  ⟨none, .store 22 (.tmp 8) (.tmp 39), none, 0⟩]
def L51r14 : List AOp := [
  ⟨(some 11), .assign (.const (.int .i64 0)), none, 0⟩]
def L51r15 : List AOp := [
  ⟨(some 40), .move (.tmp 11), none, 0⟩,
  ⟨(some 41), .binOp .lss 3 (.tmp 40) (.const (.int .i64 16)) 3, none, 0⟩]
def L51r17 : List AOp := [
  ⟨(some 44), .move (.tmp 11), none, 0⟩,
  ⟨(some 45), .move (.tmp 11), none, 0⟩,
  ⟨(some 46), .indexAddr 22 (.tmp 8) (.tmp 45), none, 2⟩,
  ⟨(some 47), .load 5 (.tmp 46), none, 6⟩,
  ⟨(some 48), .move (.tmp 7), none, 0⟩,
  ⟨(some 49), .move (.tmp 9), none, 0⟩,
  ⟨(some 50), .move (.tmp 11), none, 0⟩,
  ⟨(some 51), .indexAddr 56 (.tmp 48) (.tmp 49), none, 48⟩,
  ⟨(some 52), .indexAddr 22 (.tmp 51) (.tmp 50), none, 240⟩,
  ⟨(some 53), .load 5 (.tmp 52), none, 496⟩,
  ⟨(some 54), .binOp .xor 5 (.tmp 47) (.tmp 53) 5, none, 1022⟩,
  ⟨(some 55), .indexAddr 22 (.tmp 8) (.tmp 44), none, 1267650600228229401496703207423⟩,
  ⟨none, .store 5 (.tmp 55) (.tmp 54), none, 1267650600228229401496703209471⟩]
def L51r16 : List AOp := [
  ⟨(some 42), .move (.tmp 11), none, 0⟩,
  ⟨(some 43), .binOp .add 3 (.tmp 42) (.const (.int .i64 1)) 3, none, 0⟩,
  ⟨(some 11), .assign (.tmp 43), none, 0⟩]
def L51r5 : List AOp := [
  ⟨(some 18), .move (.tmp 9), none, 0⟩,
  ⟨(some 19), .binOp .add 3 (.tmp 18) (.const (.int .i64 1)) 3, none, 0⟩,
  ⟨(some 9), .assign (.tmp 19), none, 0⟩]
def L51r18 : List AOp := [
  ⟨(some 56), .load 22 (.tmp 8), none, 0⟩,
  ⟨none, .store 22 (.tmp 6) (.tmp 56), none, 0⟩]
def L51 : LC := (.seq (.region L51r0) (.seq (.region L51r1) (.seq (.region L51r2) (.seq (.seq (.region L51r3) (.block 0 (.loop (.seq (.seq (.region L51r4) (.cond (.tmp 17) .skip (.exit 0))) (.seq (.block 1 (.seq (.seq (.region L51r6) (.cond (.tmp 21) (.seq (.seq (.region L51r7) (.block 2 (.loop (.seq (.seq (.region L51r8) (.cond (.tmp 23) .skip (.exit 2))) (.seq (.block 3 (.region L51r10)) (.region L51r9)))))) (.seq (.region L51r11) (.seq (.region L51r12) (.cond (.tmp 37) (.region L51r13) .skip)))) .skip)) (.seq (.region L51r14) (.block 4 (.loop (.seq (.seq (.region L51r15) (.cond (.tmp 41) .skip (.exit 4))) (.seq (.block 5 (.regionD L51r17)) (.region L51r16)))))))) (.region L51r5)))))) (.seq (.region L51r18) .ret)))))
theorem nt51 : Try.f51.ntmps = 57 := by kernel_rfl
theorem rs51 : Try.f51.results.toList = [.cell 6 22] := by kernel_rfl
theorem lite51 : Try.f51.body.map (lite okDraw) = some L51 := by kernel_rfl
def L52r0 : List AOp := [
  ⟨(some 0), .assign (.const (.bool false)), none, 0⟩]
def L52r1 : List AOp := [
  ⟨(some 4), .makeSlice 27 (.const (.int .i64 32)) (.const (.int .i64 32)), none, 0⟩,
  ⟨(some 5), .makeSlice 27 (.const (.int .i64 12)) (.const (.int .i64 12)), none, 0⟩,
  ⟨(some 6), .call { callee := .value (.func 54), args := #[.tmp 4, .tmp 5, .const (.slice none 0 0), .const (.slice none 0 0)], argTypes := #[27, 27, 27, 27] }, none, 1267650600228229401496703205379⟩,
  ⟨(some 3), .move (.tmp 6), none, 1267650600228229401496703205383⟩,
  ⟨(some 7), .extract (.tmp 3) 0, none, 15⟩,
  ⟨(some 8), .extract (.tmp 3) 1, none, 15⟩,
  ⟨(some 1), .assign (.tmp 7), none, 31⟩,
  ⟨(some 2), .assign (.tmp 8), none, 1267650600228229401496703205503⟩]
def L52r2 : List AOp := [
  ⟨(some 9), .move (.tmp 2), none, 0⟩,
  ⟨(some 10), .binOp .eql 38 (.tmp 9) (.const .nilIface) 38, none, 0⟩,
  ⟨(some 11), .move (.tmp 10), none, 0⟩,
  ⟨(some 12), .move (.tmp 1), (some (11, true)), 0⟩,
  ⟨(some 13), .call { callee := .builtin .len, args := #[.tmp 12], argTypes := #[27] }, (some (11, true)), 0⟩,
  ⟨(some 14), .binOp .eql 3 (.tmp 13) (.const (.int .i64 16)) 3, (some (11, true)), 0⟩,
  ⟨(some 15), .pick (.tmp 11) (.tmp 14) (.const (.bool false)), none, 0⟩,
  ⟨(some 16), .move (.tmp 15), none, 0⟩,
  ⟨(some 17), .move (.tmp 1), (some (16, true)), 0⟩,
  ⟨(some 18), .indexAddr 27 (.tmp 17) (.const (.int .i64 0)), (some (16, true)), 0⟩,
  ⟨(some 19), .load 5 (.tmp 18), (some (16, true)), 0⟩,
  ⟨(some 20), .binOp .eql 5 (.tmp 19) (.const (.int .u8 83)) 5, (some (16, true)), 0⟩,
  ⟨(some 21), .pick (.tmp 16) (.tmp 20) (.const (.bool false)), none, 0⟩,
  ⟨(some 22), .move (.tmp 21), none, 0⟩,
  ⟨(some 23), .move (.tmp 1), (some (22, true)), 0⟩,
  ⟨(some 24), .indexAddr 27 (.tmp 23) (.const (.int .i64 15)), (some (22, true)), 0⟩,
  ⟨(some 25), .load 5 (.tmp 24), (some (22, true)), 0⟩,
  ⟨(some 26), .binOp .eql 5 (.tmp 25) (.const (.int .u8 139)) 5, (some (22, true)), 0⟩,
  ⟨(some 27), .pick (.tmp 22) (.tmp 26) (.const (.bool false)), none, 0⟩,
  ⟨(some 0), .assign (.tmp 27), none, 0⟩]
def L52 : LC := (.seq (.region L52r0) (.seq (.regionD L52r1) (.seq (.region L52r2) .ret)))
theorem nt52 : Try.f52.ntmps = 28 := by kernel_rfl
theorem rs52 : Try.f52.results.toList = [.tmp 0] := by kernel_rfl
theorem lite52 : Try.f52.body.map (lite okDraw) = some L52 := by kernel_rfl
def L53r0 : List AOp := [
  ⟨(some 4), .assign (.const (.slice none 0 0)), none, 0⟩]
def L53r1 : List AOp := [
  ⟨(some 5), .move (.tmp 0), none, 0⟩,
  ⟨(some 6), .call { callee := .builtin .len, args := #[.tmp 5], argTypes := #[27] }, none, 0⟩,
  ⟨(some 7), .move (.tmp 1), none, 0⟩,
  ⟨(some 8), .binOp .gtr 3 (.tmp 6) (.tmp 7) 3, none, 0⟩]
def L53r2 : List AOp := [
  ⟨(some 9), .move (.tmp 0), none, 0⟩,
  ⟨(some 10), .move (.tmp 1), none, 0⟩,
  ⟨(some 11), .slice 27 (.tmp 9) none (some (.tmp 10)) none, none, 0⟩,
  ⟨(some 4), .assign (.tmp 11), none, 0⟩]
def L53r3 : List AOp := [
  ⟨(some 12), .move (.tmp 0), none, 0⟩,
  ⟨(some 4), .assign (.tmp 12), none, 0⟩]
def L53 : LC := (.seq (.region L53r0) (.seq (.seq (.region L53r1) (.cond (.tmp 8) (.seq (.region L53r2) .ret) .skip)) (.seq (.region L53r3) .ret)))
theorem nt53 : Try.f53.ntmps = 13 := by kernel_rfl
theorem rs53 : Try.f53.results.toList = [.tmp 4] := by kernel_rfl
theorem lite53 : Try.f53.body.map (lite okDraw) = some L53 := by kernel_rfl
def L54r0 : List AOp := [
  ⟨(some 8), .assign (.const (.slice none 0 0)), none, 0⟩,
  ⟨(some 9), .assign (.const .nilIface), none, 0⟩]
def L54r1 : List AOp := [
  ⟨(some 14), .move (.tmp 0), none, 0⟩,
  ⟨(some 15), .move (.tmp 1), none, 0⟩,
  ⟨(some 16), .move (.tmp 2), none, 0⟩,
  ⟨(some 17), .move (.tmp 3), none, 0⟩,
  ⟨(some 18), .call { callee := .value (.func 70), args := #[.tmp 14, .tmp 15, .tmp 16, .tmp 17, .const (.int .i64 16777216)], argTypes := #[27, 27, 27, 27, 3] }, none, 0⟩,
  ⟨(some 13), .move (.tmp 18), none, 0⟩,
  ⟨(some 19), .extract (.tmp 13) 0, none, 0⟩,
  ⟨(some 20), .extract (.tmp 13) 1, none, 0⟩,
  ⟨(some 10), .alloc 91, none, 0⟩,
  ⟨none, .store 91 (.tmp 10) (.tmp 19), none, 0⟩,
  ⟨(some 11), .assign (.tmp 20), none, 0⟩]
def L54r2 : List AOp := [
  ⟨(some 21), .move (.tmp 11), none, 0⟩,
  ⟨(some 22), .binOp .neq 38 (.tmp 21) (.const .nilIface) 38, none, 0⟩]
def L54r3 : List AOp := [
  ⟨(some 23), .move (.tmp 11), none, 0⟩,
  ⟨(some 8), .assign (.const (.slice none 0 0)), none, 0⟩,
  ⟨(some 9), .assign (.tmp 23), none, 0⟩]
def L54r4 : List AOp := [
  ⟨(some 24), .load 91 (.tmp 10), none, 0⟩,
  ⟨(some 25), .move (.tmp 3), none, 0⟩,
  ⟨(some 26), .call { callee := .value (.func 71), args := #[.tmp 24, .tmp 25], argTypes := #[91, 27] }, none, 0⟩,
  ⟨(some 12), .assign (.tmp 26), none, 0⟩]
def L54r5 : List AOp := [
  ⟨(some 27), .move (.tmp 12), none, 0⟩,
  ⟨(some 28), .load 91 (.tmp 10), none, 0⟩,
  ⟨(some 29), .move (.tmp 2), none, 0⟩,
  ⟨(some 30), .move (.tmp 12), none, 0⟩,
  ⟨(some 31), .call { callee := .value (.func 72), args := #[.tmp 28, .tmp 29, .tmp 30], argTypes := #[91, 27, 27] }, none, 0⟩,
  ⟨(some 32), .call { callee := .builtin .append, args := #[.tmp 27, .tmp 31], argTypes := #[27, 27] }, none, 0⟩,
  ⟨(some 8), .assign (.tmp 32), none, 0⟩,
  ⟨(some 9), .assign (.const .nilIface), none, 0⟩]
def L54 : LC := (.seq (.region L54r0) (.seq (.region L54r1) (.seq (.seq (.region L54r2) (.cond (.tmp 22) (.seq (.region L54r3) .ret) .skip)) (.seq (.region L54r4) (.seq (.region L54r5) .ret)))))
theorem nt54 : Try.f54.ntmps = 33 := by kernel_rfl
theorem rs54 : Try.f54.results.toList = [.tmp 8, .tmp 9] := by kernel_rfl
theorem lite54 : Try.f54.body.map (lite okDraw) = some L54 := by kernel_rfl
def L55r0 : List AOp := [
  ⟨(some 8), .assign (.const (.slice none 0 0)), none, 0⟩]
def L55r1 : List AOp := [
  ⟨(some 12), .move (.tmp 3), none, 0⟩,
  ⟨(some 13), .call { callee := .builtin .len, args := #[.tmp 12], argTypes := #[27] }, none, 0⟩,
  ⟨(some 14), .makeSlice 27 (.tmp 13) (.tmp 13), none, 0⟩,
  ⟨(some 9), .assign (.tmp 14), none, 0⟩]
def L55r2 : List AOp := [
  ⟨(some 10), .alloc 22, none, 0⟩]
def L55r3 : List AOp := [
  ⟨(some 11), .assign (.const (.int .i64 0)), none, 0⟩]
def L55r4 : List AOp := [
  ⟨(some 15), .move (.tmp 11), none, 0⟩,
  ⟨(some 16), .move (.tmp 3), none, 0⟩,
  ⟨(some 17), .call { callee := .builtin .len, args := #[.tmp 16], argTypes := #[27] }, none, 0⟩,
  ⟨(some 18), .binOp .lss 3 (.tmp 15) (.tmp 17) 3, none, 0⟩]
def L55r6 : List AOp := [
  ⟨(some 21), .move (.tmp 11), none, 0⟩,
  ⟨(some 22), .binOp .rem 3 (.tmp 21) (.const (.int .i64 16)) 3, none, 0⟩,
  ⟨(some 23), .binOp .eql 3 (.tmp 22) (.const (.int .i64 0)) 3, none, 0⟩]
def L55r7 : List AOp := [
  ⟨(some 24), .move (.tmp 0), none, 0⟩,
  ⟨(some 25), .move (.tmp 1), none, 0⟩,
  ⟨(some 26), .move (.tmp 2), none, 0⟩,
  ⟨(some 27), .move (.tmp 11), none, 0⟩,
  ⟨(some 28), .binOp .quo 3 (.tmp 27) (.const (.int .i64 16)) 3, none, 0⟩,
  ⟨(some 29), .binOp .add 3 (.const (.int .i64 2)) (.tmp 28) 3, none, 0⟩,
  ⟨(some 30), .call { callee := .value (.func 73), args := #[.tmp 26, .tmp 29], argTypes := #[27, 3] }, none, 0⟩,
  ⟨(some 31), .call { callee := .value (.func 51), args := #[.tmp 24, .tmp 25, .tmp 30], argTypes := #[27, 27, 22] }, none, 0⟩,
  ⟨none, .store 22 (.tmp 10) (.tmp 31), none, 0⟩]
def L55r8 : List AOp := [
  ⟨(some 32), .move (.tmp 9), none, 0⟩,
  ⟨(some 33), .move (.tmp 11), none, 0⟩,
  ⟨(some 34), .move (.tmp 3), none, 0⟩,
  ⟨(some 35), .move (.tmp 11), none, 0⟩,
  ⟨(some 36), .indexAddr 27 (.tmp 34) (.tmp 35), none, 12⟩,
  ⟨(some 37), .load 5 (.tmp 36), none, 28⟩,
  ⟨(some 38), .move (.tmp 11), none, 0⟩,
  ⟨(some 39), .binOp .rem 3 (.tmp 38) (.const (.int .i64 16)) 3, none, 64⟩,
  ⟨(some 40), .indexAddr 22 (.tmp 10) (.tmp 39), none, 192⟩,
  ⟨(some 41), .load 5 (.tmp 40), none, 448⟩,
  ⟨(some 42), .binOp .xor 5 (.tmp 37) (.tmp 41) 5, none, 1020⟩,
  ⟨(some 43), .indexAddr 27 (.tmp 32) (.tmp 33), none, 1267650600228229401496703207423⟩,
  ⟨none, .store 5 (.tmp 43) (.tmp 42), none, 1267650600228229401496703209471⟩]
def L55r5 : List AOp := [
  ⟨(some 19), .move (.tmp 11), none, 0⟩,
  ⟨(some 20), .binOp .add 3 (.tmp 19) (.const (.int .i64 1)) 3, none, 0⟩,
  ⟨(some 11), .assign (.tmp 20), none, 0⟩]
def L55r9 : List AOp := [
  ⟨(some 44), .move (.tmp 9), none, 0⟩,
  ⟨(some 8), .assign (.tmp 44), none, 0⟩]
def L55 : LC := (.seq (.region L55r0) (.seq (.region L55r1) (.seq (.region L55r2) (.seq (.seq (.region L55r3) (.block 0 (.loop (.seq (.seq (.region L55r4) (.cond (.tmp 18) .skip (.exit 0))) (.seq (.block 1 (.seq (.seq (.region L55r6) (.cond (.tmp 23) (.region L55r7) .skip)) (.regionD L55r8))) (.region L55r5)))))) (.seq (.region L55r9) .ret)))))
theorem nt55 : Try.f55.ntmps = 45 := by kernel_rfl
theorem rs55 : Try.f55.results.toList = [.tmp 8] := by kernel_rfl
theorem lite55 : Try.f55.body.map (lite okDraw) = some L55 := by kernel_rfl
def L56r0 : List AOp := [
  ⟨(some 10), .assign (.const (.slice none 0 0)), none, 0⟩]
def L56r1 : List AOp := [
  ⟨(some 15), .move (.tmp 0), none, 0⟩,
  ⟨(some 16), .move (.tmp 1), none, 0⟩,
  ⟨(some 17), .build 22 #[], none, 0⟩,
  ⟨(some 18), .call { callee := .value (.func 51), args := #[.tmp 15, .tmp 16, .tmp 17], argTypes := #[27, 27, 22] }, none, 0⟩,
  ⟨(some 19), .move (.tmp 3), none, 0⟩,
  ⟨(some 20), .move (.tmp 4), none, 0⟩,
  ⟨(some 21), .call { callee := .value (.func 46), args := #[.tmp 18, .tmp 19, .tmp 20], argTypes := #[22, 27, 27] }, none, 0⟩,
  ⟨(some 11), .alloc 22, none, 0⟩,
  ⟨none, .store 22 (.tmp 11) (.tmp 21), none, 0⟩]
def L56r2 : List AOp := [
  ⟨(some 22), .move (.tmp 0), none, 0⟩,
  ⟨(some 23), .move (.tmp 1), none, 0⟩,
  ⟨(some 24), .move (.tmp 2), none, 0⟩,
  ⟨(some 25), .call { callee := .value (.func 73), args := #[.tmp 24, .const (.int .i64 1)], argTypes := #[27, 3] }, none, 0⟩,
  ⟨(some 26), .call { callee := .value (.func 51), args := #[.tmp 22, .tmp 23, .tmp 25], argTypes := #[27, 27, 22] }, none, 0⟩,
  ⟨(some 12), .alloc 22, none, 0⟩,
  ⟨none, .store 22 (.tmp 12) (.tmp 26), none, 0⟩]
def L56r3 : List AOp := [
  ⟨(some 13), .assign (.const (.slice none 0 0)), none, 0⟩]
def L56r4 : List AOp := [
  ⟨(some 14), .assign (.const (.int .i64 0)), none, 0⟩]
def L56r5 : List AOp := [
  ⟨(some 27), .move (.tmp 14), none, 0⟩,
  ⟨(some 28), .binOp .lss 3 (.tmp 27) (.const (.int .i64 16)) 3, none, 0⟩]
def L56r7 : List AOp := [
  ⟨(some 31), .move (.tmp 13), none, 0⟩,
  ⟨(some 32), .move (.tmp 14), none, 0⟩,
  ⟨(some 33), .indexAddr 22 (.tmp 11) (.tmp 32), none, 2⟩,
  ⟨(some 34), .load 5 (.tmp 33), none, 6⟩,
  ⟨(some 35), .move (.tmp 14), none, 0⟩,
  ⟨(some 36), .indexAddr 22 (.tmp 12) (.tmp 35), none, 16⟩,
  ⟨(some 37), .load 5 (.tmp 36), none, 48⟩,
  ⟨(some 38), .binOp .xor 5 (.tmp 34) (.tmp 37) 5, none, 126⟩,
  ⟨(some 39), .buildSlice 27 1 #[(0, .tmp 38)], none, 254⟩,
  ⟨(some 40), .call { callee := .builtin .append, args := #[.tmp 31, .tmp 39], argTypes := #[27, 27] }, none, 1267650600228229401496703205887⟩,
  ⟨(some 13), .assign (.tmp 40), none, 1267650600228229401496703206399⟩]
def L56r6 : List AOp := [
  ⟨(some 29), .move (.tmp 14), none, 0⟩,
  ⟨(some 30), .binOp .add 3 (.tmp 29) (.const (.int .i64 1)) 3, none, 0⟩,
  ⟨(some 14), .assign (.tmp 30), none, 0⟩]
def L56r8 : List AOp := [
  ⟨(some 41), .move (.tmp 13), none, 0⟩,
  ⟨(some 10), .assign (.tmp 41), none, 0⟩]
def L56 : LC := (.seq (.region L56r0) (.seq (.region L56r1) (.seq (.region L56r2) (.seq (.region L56r3) (.seq (.seq (.region L56r4) (.block 0 (.loop (.seq (.seq (.region L56r5) (.cond (.tmp 28) .skip (.exit 0))) (.seq (.block 1 (.regionD L56r7)) (.region L56r6)))))) (.seq (.region L56r8) .ret))))))
theorem nt56 : Try.f56.ntmps = 42 := by kernel_rfl
theorem rs56 : Try.f56.results.toList = [.tmp 10] := by kernel_rfl
theorem lite56 : Try.f56.body.map (lite okDraw) = some L56 := by kernel_rfl
def L57r0 : List AOp := [
  ⟨(some 8), .assign (.const (.slice none 0 0)), none, 0⟩,
  ⟨(some 9), .assign (.const .nilIface), none, 0⟩]
def L57r1 : List AOp := [
  ⟨(some 14), .move (.tmp 0), none, 0⟩,
  ⟨(some 15), .move (.tmp 1), none, 0⟩,
  ⟨(some 16), .move (.tmp 2), none, 0⟩,
  ⟨(some 17), .move (.tmp 3), none, 0⟩,
  ⟨(some 18), .call { callee := .value (.func 70), args := #[.tmp 14, .tmp 15, .tmp 16, .tmp 17, .const (.int .i64 16777232)], argTypes := #[27, 27, 27, 27, 3] }, none, 0⟩,
  ⟨(some 13), .move (.tmp 18), none, 0⟩,
  ⟨(some 19), .extract (.tmp 13) 0, none, 0⟩,
  ⟨(some 20), .extract (.tmp 13) 1, none, 0⟩,
  ⟨(some 10), .alloc 91, none, 0⟩,
  ⟨none, .store 91 (.tmp 10) (.tmp 19), none, 0⟩,
  ⟨(some 11), .assign (.tmp 20), none, 0⟩]
def L57r2 : List AOp := [
  ⟨(some 22), .move (.tmp 11), none, 0⟩,
  ⟨(some 23), .binOp .neq 38 (.tmp 22) (.const .nilIface) 38, none, 0⟩,
  ⟨(some 21), .assign (.tmp 23), none, 0⟩]
def L57r3 : List AOp := [
  ⟨(some 24), .move (.tmp 11), none, 0⟩,
  ⟨(some 8), .assign (.const (.slice none 0 0)), none, 0⟩,
  ⟨(some 9), .assign (.tmp 24), none, 0⟩]
def L57r4 : List AOp := [
  ⟨(some 26), .move (.tmp 3), none, 0⟩,
  ⟨(some 27), .call { callee := .builtin .len, args := #[.tmp 26], argTypes := #[27] }, none, 0⟩,
  ⟨(some 28), .binOp .lss 3 (.tmp 27) (.const (.int .i64 16)) 3, none, 0⟩,
  ⟨(some 25), .assign (.tmp 28), none, 0⟩]
def L57r5 : List AOp := [
  ⟨(some 29), .makeInterface 41 (.const (.int .i64 6)), none, 0⟩,
  ⟨(some 8), .assign (.const (.slice none 0 0)), none, 0⟩,
  ⟨(some 9), .assign (.tmp 29), none, 0⟩]
def L57r6 : List AOp := [
  ⟨(some 30), .move (.tmp 3), none, 0⟩,
  ⟨(some 31), .call { callee := .builtin .len, args := #[.tmp 30], argTypes := #[27] }, none, 0⟩,
  ⟨(some 32), .binOp .sub 3 (.tmp 31) (.const (.int .i64 16)) 3, none, 0⟩,
  ⟨(some 12), .assign (.tmp 32), none, 0⟩]
def L57r7 : List AOp := [
  ⟨(some 33), .load 91 (.tmp 10), none, 0⟩,
  ⟨(some 34), .move (.tmp 2), none, 0⟩,
  ⟨(some 35), .move (.tmp 3), none, 0⟩,
  ⟨(some 36), .move (.tmp 12), none, 0⟩,
  ⟨(some 37), .slice 27 (.tmp 35) none (some (.tmp 36)) none, none, 12⟩,
  ⟨(some 38), .call { callee := .value (.func 72), args := #[.tmp 33, .tmp 34, .tmp 37], argTypes := #[91, 27, 27] }, none, 31⟩,
  ⟨(some 39), .move (.tmp 3), none, 0⟩,
  ⟨(some 40), .move (.tmp 12), none, 0⟩,
  ⟨(some 41), .slice 27 (.tmp 39) (some (.tmp 40)) none none, none, 192⟩,
  ⟨(some 42), .call { callee := .value (.func 27), args := #[.tmp 38, .tmp 41], argTypes := #[27, 27] }, none, 1267650600228229401496703205887⟩,
  ⟨(some 43), .unOp .not 4 (.tmp 42), none, 1267650600228229401496703206399⟩]
def L57r8 : List AOp := [
  ⟨(some 44), .makeInterface 41 (.const (.int .i64 5)), none, 0⟩,
  ⟨(some 8), .assign (.const (.slice none 0 0)), none, 0⟩,
  ⟨(some 9), .assign (.tmp 44), none, 0⟩]
def L57r9 : List AOp := [
  ⟨(some 45), .load 91 (.tmp 10), none, 0⟩,
  ⟨(some 46), .move (.tmp 3), none, 0⟩,
  ⟨(some 47), .move (.tmp 12), none, 0⟩,
  ⟨(some 48), .slice 27 (.tmp 46) none (some (.tmp 47)) none, none, 6⟩,
  ⟨(some 49), .call { callee := .value (.func 71), args := #[.tmp 45, .tmp 48], argTypes := #[91, 27] }, none, 1267650600228229401496703205391⟩,
  ⟨(some 8), .assign (.tmp 49), none, 1267650600228229401496703205407⟩,
  ⟨(some 9), .assign (.const .nilIface), none, 1267650600228229401496703205439⟩]
def L57 : LC := (.seq (.region L57r0) (.seq (.region L57r1) (.seq (.block 0 (.seq (.region L57r2) (.cond (.tmp 21) (.seq (.region L57r3) .ret) (.seq (.region L57r4) (.cond (.tmp 25) (.seq (.region L57r5) .ret) .skip))))) (.seq (.region L57r6) (.seq (.seq (.regionD L57r7) (.cond (.tmp 43) (.seq (.region L57r8) .ret) .skip)) (.seq (.regionD L57r9) .ret))))))
theorem nt57 : Try.f57.ntmps = 50 := by kernel_rfl
theorem rs57 : Try.f57.results.toList = [.tmp 8, .tmp 9] := by kernel_rfl
theorem lite57 : Try.f57.body.map (lite okDraw) = some L57 := by kernel_rfl
def L60r0 : List AOp := [
  ⟨(some 1), .box 22 (.tmp 0), none, 0⟩,
  ⟨(some 2), .assign (.const (.slice none 0 0)), none, 0⟩]
def L60r1 : List AOp := [
  ⟨(some 3), .assign (.const (.slice none 0 0)), none, 0⟩]
def L60r2 : List AOp := [
  ⟨(some 4), .assign (.const (.int .i64 0)), none, 0⟩]
def L60r3 : List AOp := [
  ⟨(some 5), .move (.tmp 4), none, 0⟩,
  ⟨(some 6), .binOp .lss 3 (.tmp 5) (.const (.int .i64 128)) 3, none, 0⟩]
def L60r5 : List AOp := [
  ⟨(some 9), .move (.tmp 3), none, 0⟩,
  ⟨(some 10), .move (.tmp 4), none, 0⟩,
  ⟨(some 11), .binOp .quo 3 (.tmp 10) (.const (.int .i64 8)) 3, none, 0⟩,
  ⟨(some 12), .indexAddr 22 (.tmp 1) (.tmp 11), none, 0⟩,
  ⟨(some 13), .load 5 (.tmp 12), none, 0⟩,
  ⟨(some 14), .convert 5 3 (.tmp 13), none, 0⟩,
  ⟨(some 15), .move (.tmp 4), none, 0⟩,
  ⟨(some 16), .binOp .rem 3 (.tmp 15) (.const (.int .i64 8)) 3, none, 0⟩,
  ⟨(some 17), .binOp .sub 3 (.const (.int .i64 7)) (.tmp 16) 3, none, 0⟩,
  ⟨(some 18), .binOp .shr 3 (.tmp 14) (.tmp 17) 3, none, 0⟩,
  ⟨(some 19), .binOp .rem 3 (.tmp 18) (.const (.int .i64 2)) 3, none, 0⟩,
  ⟨(some 20), .buildSlice 78 1 #[(0, .tmp 19)], none, 0⟩,
  ⟨(some 21), .call { callee := .builtin .append, args := #[.tmp 9, .tmp 20], argTypes := #[78, 78] }, none, 0⟩,
  ⟨(some 3), .assign (.tmp 21), none, 0⟩]
def L60r4 : List AOp := [
  ⟨(some 7), .move (.tmp 4), none, 0⟩,
  ⟨(some 8), .binOp .add 3 (.tmp 7) (.const (.int .i64 1)) 3, none, 0⟩,
  ⟨(some 4), .assign (.tmp 8), none, 0⟩]
def L60r6 : List AOp := [
  ⟨(some 22), .move (.tmp 3), none, 0⟩,
  ⟨(some 2), .assign (.tmp 22), none, 0⟩]
def L60 : LC := (.seq (.region L60r0) (.seq (.region L60r1) (.seq (.seq (.region L60r2) (.block 0 (.loop (.seq (.seq (.region L60r3) (.cond (.tmp 6) .skip (.exit 0))) (.seq (.block 1 (.region L60r5)) (.region L60r4)))))) (.seq (.region L60r6) .ret))))
theorem nt60 : Try.f60.ntmps = 23 := by kernel_rfl
theorem rs60 : Try.f60.results.toList = [.tmp 2] := by kernel_rfl
theorem lite60 : Try.f60.body.map (lite okDraw) = some L60 := by kernel_rfl
def L64r0 : List AOp := [
  ⟨(some 5), .assign (.const (.int .u8 0)), none, 0⟩]
def L64r1 : List AOp := [
  ⟨(some 6), .load 3 (.tmp 2), none, 0⟩,
  ⟨(some 7), .binOp .mul 3 (.const (.int .i64 4)) (.tmp 6) 3, none, 0⟩,
  ⟨(some 8), .load 3 (.tmp 3), none, 0⟩,
  ⟨(some 9), .move (.tmp 0), none, 0⟩,
  ⟨(some 10), .binOp .add 3 (.tmp 8) (.tmp 9) 3, none, 0⟩,
  ⟨(some 11), .binOp .rem 3 (.tmp 10) (.const (.int .i64 4)) 3, none, 0⟩,
  ⟨(some 12), .binOp .add 3 (.tmp 7) (.tmp 11) 3, none, 0⟩,
  ⟨(some 13), .indexAddr 22 (.tmp 1) (.tmp 12), none, 0⟩,
  ⟨(some 14), .load 5 (.tmp 13), none, 0⟩,
  ⟨(some 5), .assign (.tmp 14), none, 0⟩]
def L64 : LC := (.seq (.region L64r0) (.seq (.region L64r1) .ret))
theorem nt64 : Try.f64.ntmps = 15 := by kernel_rfl
theorem rs64 : Try.f64.results.toList = [.tmp 5] := by kernel_rfl
theorem lite64 : Try.f64.body.map (lite okDraw) = some L64 := by kernel_rfl
def L65r0 : List AOp := [
  ⟨(some 4), .assign (.const (.int .u8 0)), none, 0⟩]
def L65r1 : List AOp := [
  ⟨(some 6), .move (.tmp 1), none, 0⟩,
  ⟨(some 7), .convert 3 76 (.tmp 6), none, 0⟩,
  ⟨(some 8), .binOp .and 76 (.tmp 7) (.const (.int .u64 7)) 76, none, 0⟩,
  ⟨(some 5), .assign (.tmp 8), none, 0⟩]
def L65r2 : List AOp := [
  ⟨(some 9), .move (.tmp 0), none, 0⟩,
  ⟨(some 10), .move (.tmp 5), none, 0⟩,
  ⟨(some 11), .binOp .shl 5 (.tmp 9) (.tmp 10) 76, none, 0⟩,
  ⟨(some 12), .move (.tmp 0), none, 0⟩,
  ⟨(some 13), .move (.tmp 5), none, 0⟩,
  ⟨(some 14), .binOp .sub 76 (.const (.int .u64 8)) (.tmp 13) 76, none, 0⟩,
  ⟨(some 15), .binOp .shr 5 (.tmp 12) (.tmp 14) 76, none, 0⟩,
  ⟨(some 16), .binOp .or 5 (.tmp 11) (.tmp 15) 5, none, 0⟩,
  ⟨(some 4), .assign (.tmp 16), none, 0⟩]
def L65 : LC := (.seq (.region L65r0) (.seq (.region L65r1) (.seq (.region L65r2) .ret)))
theorem nt65 : Try.f65.ntmps = 17 := by kernel_rfl
theorem rs65 : Try.f65.results.toList = [.tmp 4] := by kernel_rfl
theorem lite65 : Try.f65.body.map (lite okDraw) = some L65 := by kernel_rfl
def L66r0 : List AOp := [
  ⟨(some 3), .box 22 (.tmp 0), none, 0⟩,
  ⟨(some 4), .box 22 (.tmp 1), none, 0⟩,
  ⟨(some 6), .alloc 22, none, 0⟩]
def L66r1 : List AOp := [
  ⟨(some 9), .move (.tmp 2), none, 0⟩,
  ⟨(some 10), .call { callee := .builtin .len, args := #[.tmp 9], argTypes := #[27] }, none, 0⟩,
  ⟨(some 11), .binOp .gtr 3 (.tmp 10) (.const (.int .i64 0)) 3, none, 0⟩]
def L66r2 : List AOp := [
  ⟨(some 12), .move (.tmp 2), none, 0⟩,
  ⟨(some 13), .call { callee := .builtin .len, args := #[.tmp 12], argTypes := #[27] }, none, 0⟩,
  ⟨(some 14), .call { callee := .builtin .min, args := #[.tmp 13, .const (.int .i64 16)], argTypes := #[3, 3] }, none, 0⟩,
  ⟨(some 7), .assign (.tmp 14), none, 0⟩]
def L66r3 : List AOp := [
  ⟨(some 15), .move (.tmp 7), none, 0⟩,
  ⟨(some 16), .move (.const (.int .i64 0)), none, 0⟩]
def L66r4 : List AOp := [
  ⟨(some 17), .binOp .lss 3 (.tmp 16) (.tmp 15) 3, none, 0⟩]
def L66r5 : List AOp := [
  ⟨(some 18), .move (.tmp 16), none, 0⟩,
  ⟨(some 8), .assign (.tmp 18), none, 0⟩]
def L66r6 : List AOp := [
  ⟨(some 19), .move (.tmp 8), none, 0⟩,
  ⟨(some 20), .indexAddr 22 (.tmp 3) (.tmp 19), none, 1⟩,
  ⟨(some 21), .load 5 (.tmp 20), none, 3⟩,
  ⟨(some 22), .move (.tmp 2), none, 0⟩,
  ⟨(some 23), .move (.tmp 8), none, 0⟩,
  ⟨(some 24), .indexAddr 27 (.tmp 22) (.tmp 23), none, 24⟩,
  ⟨(some 25), .load 5 (.tmp 24), none, 56⟩,
  ⟨(some 26), .binOp .xor 5 (.tmp 21) (.tmp 25) 5, none, 1267650600228229401496703205503⟩,
  ⟨(some 27), .indexAddr 22 (.tmp 3) (.tmp 19), none, 1267650600228229401496703205631⟩,
  ⟨none, .store 5 (.tmp 27) (.tmp 26), none, 1267650600228229401496703205887⟩]
def L66r7 : List AOp := [
  ⟨(some 28), .binOp .add 3 (.tmp 16) (.const (.int .i64 1)) 3, none, 0⟩,
  ⟨(some 16), .move (.tmp 28), none, 0⟩]
def L66r8 : List AOp := [
  ⟨(some 29), .load 22 (.tmp 3), none, 0⟩,
  ⟨(some 30), .load 22 (.tmp 4), none, 0⟩,
  ⟨(some 31), .call { callee := .value (.func 30), args := #[.tmp 29, .tmp 30], argTypes := #[22, 22] }, none, 0⟩,
  ⟨none, .store 22 (.tmp 3) (.tmp 31), none, 0⟩]
def L66r9 : List AOp := [
  ⟨(some 32), .move (.tmp 2), none, 0⟩,
  ⟨(some 33), .move (.tmp 7), none, 0⟩,
  ⟨(some 34), .slice 27 (.tmp 32) (some (.tmp 33)) none none, none, 0⟩,
  ⟨(some 2), .assign (.tmp 34), none, 0⟩]
def L66r10 : List AOp := [
  ⟨(some 35), .load 22 (.tmp 3), none, 0⟩,
  ⟨none, .store 22 (.tmp 6) (.tmp 35), none, 0⟩]
def L66 : LC := (.seq (.region L66r0) (.seq (.block 0 (.loop (.seq (.seq (.region L66r1) (.cond (.tmp 11) .skip (.exit 0))) (.block 1 (.seq (.region L66r2) (.seq (.seq (.region L66r3) (.block 2 (.loop (.seq (.region L66r4) (.seq (.cond (.tmp 17) .skip (.exit 2)) (.seq (.block 3 (.seq (.region L66r5) (.regionD L66r6))) (.region L66r7))))))) (.seq (.region L66r8) (.region L66r9)))))))) (.seq (.region L66r10) .ret)))
theorem nt66 : Try.f66.ntmps = 36 := by kernel_rfl
theorem rs66 : Try.f66.results.toList = [.cell 6 22] := by kernel_rfl
theorem lite66 : Try.f66.body.map (lite okDraw) = some L66 := by kernel_rfl
def L67r0 : List AOp := [
  ⟨(some 2), .assign (.const (.slice none 0 0)), none, 0⟩]
def L67r1 : List AOp := [
  ⟨(some 4), .buildSlice 27 0 #[], none, 0⟩,
  ⟨(some 5), .move (.tmp 0), none, 0⟩,
  ⟨(some 6), .call { callee := .builtin .append, args := #[.tmp 4, .tmp 5], argTypes := #[27, 27] }, none, 0⟩,
  ⟨(some 3), .assign (.tmp 6), none, 0⟩]
def L67r2 : List AOp := [
  ⟨(some 7), .move (.tmp 3), none, 0⟩,
  ⟨(some 8), .call { callee := .builtin .len, args := #[.tmp 7], argTypes := #[27] }, none, 0⟩,
  ⟨(some 9), .binOp .rem 3 (.tmp 8) (.const (.int .i64 16)) 3, none, 0⟩,
  ⟨(some 10), .binOp .neq 3 (.tmp 9) (.const (.int .i64 0)) 3, none, 0⟩]
def L67r3 : List AOp := [
  ⟨(some 11), .move (.tmp 3), none, 0⟩,
  ⟨(some 12), .buildSlice 27 1 #[(0, .const (.int .u8 0))], none, 0⟩,
  ⟨(some 13), .call { callee := .builtin .append, args := #[.tmp 11, .tmp 12], argTypes := #[27, 27] }, none, 0⟩,
  ⟨(some 3), .assign (.tmp 13), none, 0⟩]
def L67r4 : List AOp := [
  ⟨(some 14), .move (.tmp 3), none, 0⟩,
  ⟨(some 2), .assign (.tmp 14), none, 0⟩]
def L67 : LC := (.seq (.region L67r0) (.seq (.region L67r1) (.seq (.block 0 (.loop (.seq (.seq (.region L67r2) (.cond (.tmp 10) .skip (.exit 0))) (.block 1 (.region L67r3))))) (.seq (.region L67r4) .ret))))
theorem nt67 : Try.f67.ntmps = 15 := by kernel_rfl
theorem rs67 : Try.f67.results.toList = [.tmp 2] := by kernel_rfl
theorem lite67 : Try.f67.body.map (lite okDraw) = some L67 := by kernel_rfl
def L68r0 : List AOp := [
  ⟨(some 2), .assign (.const (.slice none 0 0)), none, 0⟩]
def L68r1 : List AOp := [
  ⟨(some 5), .makeSlice 27 (.const (.int .i64 8)) (.const (.int .i64 8)), none, 0⟩,
  ⟨(some 3), .assign (.tmp 5), none, 0⟩]
def L68r2 : List AOp := [
  ⟨(some 6), .move (.tmp 0), none, 0⟩,
  ⟨(some 7), .binOp .mul 3 (.const (.int .i64 8)) (.tmp 6) 3, none, 0⟩,
  ⟨(some 0), .assign (.tmp 7), none, 0⟩]
def L68r3 : List AOp := [
  ⟨(some 4), .assign (.const (.int .i64 7)), none, 0⟩]
def L68r4 : List AOp := [
  ⟨(some 8), .move (.tmp 4), none, 0⟩,
  ⟨(some 9), .binOp .geq 3 (.tmp 8) (.const (.int .i64 0)) 3, none, 0⟩]
def L68r6 : List AOp := [
  ⟨(some 12), .move (.tmp 3), none, 0⟩,
  ⟨(some 13), .move (.tmp 4), none, 0⟩,
  ⟨(some 14), .move (.tmp 0), none, 0⟩,
  ⟨(some 15), .binOp .rem 3 (.tmp 14) (.const (.int .i64 256)) 3, none, 0⟩,
  ⟨(some 16), .convert 3 5 (.tmp 15), none, 0⟩,
  ⟨(some 17), .indexAddr 27 (.tmp 12) (.tmp 13), none, 0⟩,
  ⟨none, .store 5 (.tmp 17) (.tmp 16), none, 0⟩]
def L68r7 : List AOp := [
  ⟨(some 18), .move (.tmp 0), none, 0⟩,
  ⟨(some 19), .binOp .quo 3 (.tmp 18) (.const (.int .i64 256)) 3, none, 0⟩,
  ⟨(some 0), .assign (.tmp 19), none, 0⟩]
def L68r5 : List AOp := [
  ⟨(some 10), .move (.tmp 4), none, 0⟩,
  ⟨(some 11), .binOp .sub 3 (.tmp 10) (.const (.int .i64 1)) 3, none, 0⟩,
  ⟨(some 4), .assign (.tmp 11), none, 0⟩]
def L68r8 : List AOp := [
  ⟨(some 20), .move (.tmp 3), none, 0⟩,
  ⟨(some 2), .assign (.tmp 20), none, 0⟩]
def L68 : LC := (.seq (.region L68r0) (.seq (.region L68r1) (.seq (.region L68r2) (.seq (.seq (.region L68r3) (.block 0 (.loop (.seq (.seq (.region L68r4) (.cond (.tmp 9) .skip (.exit 0))) (.seq (.block 1 (.seq (.region L68r6) (.region L68r7))) (.region L68r5)))))) (.seq (.region L68r8) .ret)))))
theorem nt68 : Try.f68.ntmps = 21 := by kernel_rfl
theorem rs68 : Try.f68.results.toList = [.tmp 2] := by kernel_rfl
theorem lite68 : Try.f68.body.map (lite okDraw) = some L68 := by kernel_rfl
def L69r0 : List AOp := [
  ⟨(some 2), .box 22 (.tmp 0), none, 0⟩,
  ⟨(some 3), .box 22 (.tmp 1), none, 0⟩,
  ⟨(some 4), .alloc 22, none, 0⟩]
def L69r1 : List AOp := [
  ⟨(some 6), .move (.const (.int .i64 0)), none, 0⟩]
def L69r2 : List AOp := [
  ⟨(some 7), .binOp .lss 3 (.tmp 6) (.const (.int .i64 16)) 3, none, 0⟩]
def L69r3 : List AOp := [
  ⟨(some 8), .move (.tmp 6), none, 0⟩,
  ⟨(some 5), .assign (.tmp 8), none, 0⟩]
def L69r4 : List AOp := [
  ⟨(some 9), .move (.tmp 5), none, 0⟩,
  ⟨(some 10), .indexAddr 22 (.tmp 2) (.tmp 9), none, 1⟩,
  ⟨(some 11), .load 5 (.tmp 10), none, 3⟩,
  ⟨(some 12), .move (.tmp 5), none, 0⟩,
  ⟨(some 13), .indexAddr 22 (.tmp 3) (.tmp 12), none, 8⟩,
  ⟨(some 14), .load 5 (.tmp 13), none, 24⟩,
  ⟨(some 15), .binOp .xor 5 (.tmp 11) (.tmp 14) 5, none, 1267650600228229401496703205439⟩,
  ⟨(some 16), .indexAddr 22 (.tmp 2) (.tmp 9), none, 1267650600228229401496703205503⟩,
  ⟨none, .store 5 (.tmp 16) (.tmp 15), none, 1267650600228229401496703205631⟩]
def L69r5 : List AOp := [
  ⟨(some 17), .binOp .add 3 (.tmp 6) (.const (.int .i64 1)) 3, none, 0⟩,
  ⟨(some 6), .move (.tmp 17), none, 0⟩]
def L69r6 : List AOp := [
  ⟨(some 18), .load 22 (.tmp 2), none, 0⟩,
  ⟨none, .store 22 (.tmp 4) (.tmp 18), none, 0⟩]
def L69 : LC := (.seq (.region L69r0) (.seq (.seq (.region L69r1) (.block 0 (.loop (.seq (.region L69r2) (.seq (.cond (.tmp 7) .skip (.exit 0)) (.seq (.block 1 (.seq (.region L69r3) (.regionD L69r4))) (.region L69r5))))))) (.seq (.region L69r6) .ret)))
theorem nt69 : Try.f69.ntmps = 19 := by kernel_rfl
theorem rs69 : Try.f69.results.toList = [.cell 4 22] := by kernel_rfl
theorem lite69 : Try.f69.body.map (lite okDraw) = some L69 := by kernel_rfl
def L70r0 : List AOp := [
  ⟨(some 10), .alloc 91, none, 0⟩,
  ⟨(some 11), .assign (.const .nilIface), none, 0⟩]
def L70r1 : List AOp := [
  ⟨(some 13), .move (.tmp 0), none, 0⟩,
  ⟨(some 14), .call { callee := .builtin .len, args := #[.tmp 13], argTypes := #[27] }, none, 0⟩,
  ⟨(some 15), .binOp .neq 3 (.tmp 14) (.const (.int .i64 32)) 3, none, 0⟩,
  ⟨(some 16), .move (.tmp 15), none, 0⟩,
  ⟨(some 17), .move (.tmp 1), (some (16, false)), 0⟩,
  ⟨(some 18), .call { callee := .builtin .len, args := #[.tmp 17], argTypes := #[27] }, (some (16, false)), 0⟩,
  ⟨(some 19), .binOp .neq 3 (.tmp 18) (.const (.int .i64 12)) 3, (some (16, false)), 0⟩,
  ⟨(some 20), .pick (.tmp 16) (.const (.bool true)) (.tmp 19), none, 0⟩,
  ⟨(some 12), .assign (.tmp 20), none, 0⟩]
def L70r2 : List AOp := [
  ⟨(some 21), .build 91 #[], none, 0⟩,
  ⟨(some 22), .makeInterface 41 (.const (.int .i64 1)), none, 0⟩,
  ⟨none, .store 91 (.tmp 10) (.tmp 21), none, 0⟩,
  ⟨(some 11), .assign (.tmp 22), none, 0⟩]
def L70r3 : List AOp := [
  ⟨(some 24), .move (.tmp 2), none, 0⟩,
  ⟨(some 25), .call { callee := .builtin .len, args := #[.tmp 24], argTypes := #[27] }, none, 0⟩,
  ⟨(some 26), .binOp .gtr 3 (.tmp 25) (.const (.int .i64 16777232)) 3, none, 0⟩,
  ⟨(some 27), .move (.tmp 26), none, 0⟩,
  ⟨(some 28), .move (.tmp 3), (some (27, false)), 0⟩,
  ⟨(some 29), .call { callee := .builtin .len, args := #[.tmp 28], argTypes := #[27] }, (some (27, false)), 0⟩,
  ⟨(some 30), .move (.tmp 4), (some (27, false)), 0⟩,
  ⟨(some 31), .binOp .gtr 3 (.tmp 29) (.tmp 30) 3, (some (27, false)), 0⟩,
  ⟨(some 32), .pick (.tmp 27) (.const (.bool true)) (.tmp 31), none, 0⟩,
  ⟨(some 23), .assign (.tmp 32), none, 0⟩]
def L70r4 : List AOp := [
  ⟨(some 33), .build 91 #[], none, 0⟩,
  ⟨(some 34), .makeInterface 41 (.const (.int .i64 2)), none, 0⟩,
  ⟨none, .store 91 (.tmp 10) (.tmp 33), none, 0⟩,
  ⟨(some 11), .assign (.tmp 34), none, 0⟩]
def L70r5 : List AOp := [
  ⟨(some 35), .move (.tmp 0), none, 0⟩,
  ⟨(some 36), .move (.tmp 1), none, 0⟩,
  ⟨(some 37), .build 91 #[(0, .tmp 35), (1, .tmp 36)], none, 0⟩,
  ⟨none, .store 91 (.tmp 10) (.tmp 37), none, 0⟩,
  ⟨(some 11), .assign (.const .nilIface), none, 0⟩]
def L70 : LC := (.seq (.region L70r0) (.seq (.block 0 (.seq (.region L70r1) (.cond (.tmp 12) (.seq (.region L70r2) .ret) (.seq (.region L70r3) (.cond (.tmp 23) (.seq (.region L70r4) .ret) .skip))))) (.seq (.region L70r5) .ret)))
theorem nt70 : Try.f70.ntmps = 38 := by kernel_rfl
theorem rs70 : Try.f70.results.toList = [.cell 10 91, .tmp 11] := by kernel_rfl
theorem lite70 : Try.f70.body.map (lite okDraw) = some L70 := by kernel_rfl
def L71r0 : List AOp := [
  ⟨(some 2), .box 91 (.tmp 0), none, 0⟩,
  ⟨(some 4), .assign (.const (.slice none 0 0)), none, 0⟩]
def L71r1 : List AOp := [
  ⟨(some 9), .move (.tmp 1), none, 0⟩,
  ⟨(some 10), .call { callee := .builtin .len, args := #[.tmp 9], argTypes := #[27] }, none, 0⟩,
  ⟨(some 11), .makeSlice 27 (.tmp 10) (.tmp 10), none, 0⟩,
  ⟨(some 5), .assign (.tmp 11), none, 0⟩]
def L71r2 : List AOp := [
  ⟨(some 6), .assign (.const (.int .i64 0)), none, 0⟩]
def L71r3 : List AOp := [
  ⟨(some 12), .move (.tmp 6), none, 0⟩,
  ⟨(some 13), .move (.tmp 1), none, 0⟩,
  ⟨(some 14), .call { callee := .builtin .len, args := #[.tmp 13], argTypes := #[27] }, none, 0⟩,
  ⟨(some 15), .binOp .lss 3 (.tmp 12) (.tmp 14) 3, none, 0⟩]
def L71r5 : List AOp := [
  ⟨(some 18), .load 91 (.tmp 2), none, 0⟩,
  ⟨(some 19), .move (.tmp 6), none, 0⟩,
  ⟨(some 20), .binOp .quo 3 (.tmp 19) (.const (.int .i64 16)) 3, none, 0⟩,
  ⟨(some 21), .binOp .add 3 (.const (.int .i64 2)) (.tmp 20) 3, none, 0⟩,
  ⟨(some 22), .convert 3 99 (.tmp 21), none, 0⟩,
  ⟨(some 23), .call { callee := .value (.func 76), args := #[.tmp 18, .tmp 22], argTypes := #[91, 99] }, none, 0⟩,
  ⟨(some 7), .alloc 22, none, 0⟩,
  ⟨none, .store 22 (.tmp 7) (.tmp 23), none, 0⟩]
def L71r6 : List AOp := [
  ⟨(some 24), .move (.tmp 6), none, 0⟩,
  ⟨(some 8), .assign (.tmp 24), none, 0⟩]
def L71r7 : List AOp := [
  ⟨(some 25), .move (.tmp 8), none, 0⟩,
  ⟨(some 26), .move (.tmp 6), none, 0⟩,
  ⟨(some 27), .binOp .add 3 (.tmp 26) (.const (.int .i64 16)) 3, none, 0⟩,
  ⟨(some 28), .move (.tmp 1), none, 0⟩,
  ⟨(some 29), .call { callee := .builtin .len, args := #[.tmp 28], argTypes := #[27] }, none, 0⟩,
  ⟨(some 30), .call { callee := .builtin .min, args := #[.tmp 27, .tmp 29], argTypes := #[3, 3] }, none, 0⟩,
  ⟨(some 31), .binOp .lss 3 (.tmp 25) (.tmp 30) 3, none, 0⟩]
def L71r9 : List AOp := [
  ⟨(some 34), .move (.tmp 5), none, 0⟩,
  ⟨(some 35), .move (.tmp 8), none, 0⟩,
  ⟨(some 36), .move (.tmp 1), none, 0⟩,
  ⟨(some 37), .move (.tmp 8), none, 0⟩,
  ⟨(some 38), .indexAddr 27 (.tmp 36) (.tmp 37), none, 12⟩,
  ⟨(some 39), .load 5 (.tmp 38), none, 28⟩,
  ⟨(some 40), .move (.tmp 8), none, 0⟩,
  ⟨(some 41), .move (.tmp 6), none, 0⟩,
  ⟨(some 42), .binOp .sub 3 (.tmp 40) (.tmp 41) 3, none, 192⟩,
  ⟨(some 43), .indexAddr 22 (.tmp 7) (.tmp 42), none, 448⟩,
  ⟨(some 44), .load 5 (.tmp 43), none, 960⟩,
  ⟨(some 45), .binOp .xor 5 (.tmp 39) (.tmp 44) 5, none, 2044⟩,
  ⟨(some 46), .indexAddr 27 (.tmp 34) (.tmp 35), none, 1267650600228229401496703209471⟩,
  ⟨none, .store 5 (.tmp 46) (.tmp 45), none, 1267650600228229401496703213567⟩]
def L71r8 : List AOp := [
  ⟨(some 32), .move (.tmp 8), none, 0⟩,
  ⟨(some 33), .binOp .add 3 (.tmp 32) (.const (.int .i64 1)) 3, none, 0⟩,
  ⟨(some 8), .assign (.tmp 33), none, 0⟩]
def L71r4 : List AOp := [
  ⟨(some 16), .move (.tmp 6), none, 0⟩,
  ⟨(some 17), .binOp .add 3 (.tmp 16) (.const (.int .i64 16)) 3, none, 0⟩,
  ⟨(some 6), .assign (.tmp 17), none, 0⟩]
def L71r10 : List AOp := [
  ⟨(some 47), .move (.tmp 5), none, 0⟩,
  ⟨(some 4), .assign (.tmp 47), none, 0⟩]
def L71 : LC := (.seq (.region L71r0) (.seq (.region L71r1) (.seq (.seq (.region L71r2) (.block 0 (.loop (.seq (.seq (.region L71r3) (.cond (.tmp 15) .skip (.exit 0))) (.seq (.block 1 (.seq (.region L71r5) (.seq (.region L71r6) (.block 2 (.loop (.seq (.seq (.region L71r7) (.cond (.tmp 31) .skip (.exit 2))) (.seq (.block 3 (.regionD L71r9)) (.region L71r8)))))))) (.region L71r4)))))) (.seq (.region L71r10) .ret))))
theorem nt71 : Try.f71.ntmps = 48 := by kernel_rfl
theorem rs71 : Try.f71.results.toList = [.tmp 4] := by kernel_rfl
theorem lite71 : Try.f71.body.map (lite okDraw) = some L71 := by kernel_rfl
def L72r0 : List AOp := [
  ⟨(some 3), .box 91 (.tmp 0), none, 0⟩,
  ⟨(some 6), .assign (.const (.slice none 0 0)), none, 0⟩]
def L72r1 : List AOp := [
  ⟨(some 10), .load 91 (.tmp 3), none, 0⟩,
  ⟨(some 11), .build 22 #[], none, 0⟩,
  ⟨(some 12), .call { callee := .value (.func 77), args := #[.tmp 10, .tmp 11], argTypes := #[91, 22] }, none, 0⟩,
  ⟨(some 13), .move (.tmp 1), none, 0⟩,
  ⟨(some 14), .move (.tmp 2), none, 0⟩,
  ⟨(some 15), .call { callee := .value (.func 45), args := #[.tmp 12, .tmp 13, .tmp 14], argTypes := #[22, 27, 27] }, none, 0⟩,
  ⟨(some 7), .alloc 22, none, 0⟩,
  ⟨none, .store 22 (.tmp 7) (.tmp 15), none, 0⟩]
def L72r2 : List AOp := [
  ⟨(some 16), .load 91 (.tmp 3), none, 0⟩,
  ⟨(some 17), .call { callee := .value (.func 76), args := #[.tmp 16, .const (.int .u32 1)], argTypes := #[91, 99] }, none, 0⟩,
  ⟨(some 8), .alloc 22, none, 0⟩,
  ⟨none, .store 22 (.tmp 8) (.tmp 17), none, 0⟩]
def L72r3 : List AOp := [
  ⟨(some 18), .move (.const (.int .i64 0)), none, 0⟩]
def L72r4 : List AOp := [
  ⟨(some 19), .binOp .lss 3 (.tmp 18) (.const (.int .i64 16)) 3, none, 0⟩]
def L72r5 : List AOp := [
  ⟨(some 20), .move (.tmp 18), none, 0⟩,
  ⟨(some 9), .assign (.tmp 20), none, 0⟩]
def L72r6 : List AOp := [
  ⟨(some 21), .move (.tmp 9), none, 0⟩,
  ⟨(some 22), .indexAddr 22 (.tmp 7) (.tmp 21), none, 1⟩,
  ⟨(some 23), .load 5 (.tmp 22), none, 3⟩,
  ⟨(some 24), .move (.tmp 9), none, 0⟩,
  ⟨(some 25), .indexAddr 22 (.tmp 8) (.tmp 24), none, 8⟩,
  ⟨(some 26), .load 5 (.tmp 25), none, 24⟩,
  ⟨(some 27), .binOp .xor 5 (.tmp 23) (.tmp 26) 5, none, 1267650600228229401496703205439⟩,
  ⟨(some 28), .indexAddr 22 (.tmp 7) (.tmp 21), none, 1267650600228229401496703205503⟩,
  ⟨none, .store 5 (.tmp 28) (.tmp 27), none, 1267650600228229401496703205631⟩]
def L72r7 : List AOp := [
  ⟨(some 29), .binOp .add 3 (.tmp 18) (.const (.int .i64 1)) 3, none, 0⟩,
  ⟨(some 18), .move (.tmp 29), none, 0⟩]
def L72r8 : List AOp := [
  ⟨(some 30), .slice 22 (.tmp 7) none none none, none, 0⟩,
  ⟨(some 6), .assign (.tmp 30), none, 0⟩]
def L72 : LC := (.seq (.region L72r0) (.seq (.region L72r1) (.seq (.region L72r2) (.seq (.seq (.region L72r3) (.block 0 (.loop (.seq (.region L72r4) (.seq (.cond (.tmp 19) .skip (.exit 0)) (.seq (.block 1 (.seq (.region L72r5) (.regionD L72r6))) (.region L72r7))))))) (.seq (.region L72r8) .ret)))))
theorem nt72 : Try.f72.ntmps = 31 := by kernel_rfl
theorem rs72 : Try.f72.results.toList = [.tmp 6] := by kernel_rfl
theorem lite72 : Try.f72.body.map (lite okDraw) = some L72 := by kernel_rfl
def L73r0 : List AOp := [
  ⟨(some 4), .alloc 22, none, 0⟩]
def L73r1 : List AOp := [
  ⟨(some 5), .alloc 22, none, 0⟩]
def L73r2 : List AOp := [
  ⟨(some 6), .assign (.const (.int .i64 0)), none, 0⟩]
def L73r3 : List AOp := [
  ⟨(some 8), .move (.tmp 6), none, 0⟩,
  ⟨(some 9), .binOp .lss 3 (.tmp 8) (.const (.int .i64 12)) 3, none, 0⟩]
def L73r5 : List AOp := [
  ⟨(some 12), .move (.tmp 6), none, 0⟩,
  ⟨(some 13), .move (.tmp 0), none, 0⟩,
  ⟨(some 14), .move (.tmp 6), none, 0⟩,
  ⟨(some 15), .indexAddr 27 (.tmp 13) (.tmp 14), none, 0⟩,
  ⟨(some 16), .load 5 (.tmp 15), none, 0⟩,
  ⟨(some 17), .indexAddr 22 (.tmp 5) (.tmp 12), none, 0⟩,
  ⟨none, .store 5 (.tmp 17) (.tmp 16), none, 0⟩]
def L73r4 : List AOp := [
  ⟨(some 10), .move (.tmp 6), none, 0⟩,
  ⟨(some 11), .binOp .add 3 (.tmp 10) (.const (.int .i64 1)) 3, none, 0⟩,
  ⟨(some 6), .assign (.tmp 11), none, 0⟩]
def L73r6 : List AOp := [
  ⟨(some 7), .assign (.const (.int .i64 15)), none, 0⟩]
def L73r7 : List AOp := [
  ⟨(some 18), .move (.tmp 7), none, 0⟩,
  ⟨(some 19), .binOp .geq 3 (.tmp 18) (.const (.int .i64 12)) 3, none, 0⟩]
def L73r9 : List AOp := [
  ⟨(some 22), .move (.tmp 7), none, 0⟩,
  ⟨(some 23), .move (.tmp 1), none, 0⟩,
  ⟨(some 24), .binOp .rem 3 (.tmp 23) (.const (.int .i64 256)) 3, none, 0⟩,
  ⟨(some 25), .convert 3 5 (.tmp 24), none, 0⟩,
  ⟨(some 26), .indexAddr 22 (.tmp 5) (.tmp 22), none, 0⟩,
  ⟨none, .store 5 (.tmp 26) (.tmp 25), none, 0⟩]
def L73r10 : List AOp := [
  ⟨(some 27), .move (.tmp 1), none, 0⟩,
  ⟨(some 28), .binOp .quo 3 (.tmp 27) (.const (.int .i64 256)) 3, none, 0⟩,
  ⟨(some 1), .assign (.tmp 28), none, 0⟩]
def L73r8 : List AOp := [
  ⟨(some 20), .move (.tmp 7), none, 0⟩,
  ⟨(some 21), .binOp .sub 3 (.tmp 20) (.const (.int .i64 1)) 3, none, 0⟩,
  ⟨(some 7), .assign (.tmp 21), none, 0⟩]
def L73r11 : List AOp := [
  ⟨(some 29), .load 22 (.tmp 5), none, 0⟩,
  ⟨none, .store 22 (.tmp 4) (.tmp 29), none, 0⟩]
def L73 : LC := (.seq (.region L73r0) (.seq (.region L73r1) (.seq (.seq (.region L73r2) (.block 0 (.loop (.seq (.seq (.region L73r3) (.cond (.tmp 9) .skip (.exit 0))) (.seq (.block 1 (.region L73r5)) (.region L73r4)))))) (.seq (.seq (.region L73r6) (.block 2 (.loop (.seq (.seq (.region L73r7) (.cond (.tmp 19) .skip (.exit 2))) (.seq (.block 3 (.seq (.region L73r9) (.region L73r10))) (.region L73r8)))))) (.seq (.region L73r11) .ret)))))
theorem nt73 : Try.f73.ntmps = 30 := by kernel_rfl
theorem rs73 : Try.f73.results.toList = [.cell 4 22] := by kernel_rfl
theorem lite73 : Try.f73.body.map (lite okDraw) = some L73 := by kernel_rfl
def L76r0 : List AOp := [
  ⟨(some 2), .box 91 (.tmp 0), none, 0⟩,
  ⟨(some 4), .alloc 22, none, 0⟩]
def L76r1 : List AOp := [
  ⟨(some 5), .alloc 22, none, 0⟩]
def L76r2 : List AOp := [
  ⟨(some 7), .slice 22 (.tmp 5) none none none, none, 0⟩,
  ⟨(some 8), .fieldAddr 91 (.tmp 2) 1, none, 0⟩,
  ⟨(some 9), .load 27 (.tmp 8), none, 2⟩,
  ⟨(some 10), .call { callee := .builtin .copy, args := #[.tmp 7, .tmp 9], argTypes := #[27, 27] }, none, 1267650600228229401496703205383⟩]
def L76r3 : List AOp := [
  ⟨(some 11), .move (.const (.int .i64 0)), none, 0⟩]
def L76r4 : List AOp := [
  ⟨(some 12), .binOp .lss 3 (.tmp 11) (.const (.int .i64 4)) 3, none, 0⟩]
def L76r5 : List AOp := [
  ⟨(some 13), .move (.tmp 11), none, 0⟩,
  ⟨(some 6), .assign (.tmp 13), none, 0⟩]
def L76r6 : List AOp := [
  ⟨(some 14), .move (.tmp 6), none, 0⟩,
  ⟨(some 15), .binOp .sub 3 (.const (.int .i64 15)) (.tmp 14) 3, none, 0⟩,
  ⟨(some 16), .move (.tmp 1), none, 0⟩,
  ⟨(some 17), .move (.tmp 6), none, 0⟩,
  ⟨(some 18), .binOp .mul 3 (.const (.int .i64 8)) (.tmp 17) 3, none, 0⟩,
  ⟨(some 19), .binOp .shr 99 (.tmp 16) (.tmp 18) 3, none, 0⟩,
  ⟨(some 20), .convert 99 5 (.tmp 19), none, 0⟩,
  ⟨(some 21), .indexAddr 22 (.tmp 5) (.tmp 15), none, 0⟩,
  ⟨none, .store 5 (.tmp 21) (.tmp 20), none, 0⟩]
def L76r7 : List AOp := [
  ⟨(some 22), .binOp .add 3 (.tmp 11) (.const (.int .i64 1)) 3, none, 0⟩,
  ⟨(some 11), .move (.tmp 22), none, 0⟩]
def L76r8 : List AOp := [
  ⟨(some 23), .load 91 (.tmp 2), none, 0⟩,
  ⟨(some 24), .load 22 (.tmp 5), none, 0⟩,
  ⟨(some 25), .call { callee := .value (.func 77), args := #[.tmp 23, .tmp 24], argTypes := #[91, 22] }, none, 0⟩,
  ⟨none, .store 22 (.tmp 4) (.tmp 25), none, 0⟩]
def L76 : LC := (.seq (.region L76r0) (.seq (.region L76r1) (.seq (.regionD L76r2) (.seq (.seq (.region L76r3) (.block 0 (.loop (.seq (.region L76r4) (.seq (.cond (.tmp 12) .skip (.exit 0)) (.seq (.block 1 (.seq (.region L76r5) (.region L76r6))) (.region L76r7))))))) (.seq (.region L76r8) .ret)))))
theorem nt76 : Try.f76.ntmps = 26 := by kernel_rfl
theorem rs76 : Try.f76.results.toList = [.cell 4 22] := by kernel_rfl
theorem lite76 : Try.f76.body.map (lite okDraw) = some L76 := by kernel_rfl
def L77r0 : List AOp := [
  ⟨(some 2), .box 91 (.tmp 0), none, 0⟩,
  ⟨(some 3), .box 22 (.tmp 1), none, 0⟩,
  ⟨(some 4), .alloc 22, none, 0⟩]
def L77r1 : List AOp := [
  ⟨(some 8), .fieldAddr 91 (.tmp 2) 0, none, 0⟩,
  ⟨(some 9), .load 27 (.tmp 8), none, 0⟩,
  ⟨(some 10), .load 22 (.tmp 3), none, 0⟩,
  ⟨(some 11), .call { callee := .value (.func 50), args := #[.tmp 9, .tmp 10], argTypes := #[27, 22] }, none, 0⟩,
  ⟨(some 7), .move (.tmp 11), none, 0⟩,
  ⟨(some 12), .extract (.tmp 7) 0, none, 0⟩,
  ⟨(some 13), .extract (.tmp 7) 1, none, 0⟩,
  ⟨(some 5), .alloc 22, none, 0⟩,
  ⟨none, .store 22 (.tmp 5) (.tmp 12), none, 0⟩,
  ⟨(some 6), .assign (.tmp 13), none, 0⟩]
def L77r2 : List AOp := [
  ⟨(some 14), .move (.tmp 6), none, 0⟩,
  ⟨(some 15), .binOp .neq 38 (.tmp 14) (.const .nilIface) 38, none, 0⟩]
def L77r3 : List AOp := [
  ⟨(some 16), .build 22 #[], none, 0⟩,
  ⟨none, .store 22 (.tmp 4) (.tmp 16), none, 0⟩]
def L77r4 : List AOp := [
  ⟨(some 17), .load 22 (.tmp 5), none, 0⟩,
  ⟨none, .store 22 (.tmp 4) (.tmp 17), none, 0⟩]
def L77 : LC := (.seq (.region L77r0) (.seq (.region L77r1) (.seq (.seq (.region L77r2) (.cond (.tmp 15) (.seq (.region L77r3) .ret) .skip)) (.seq (.region L77r4) .ret))))
theorem nt77 : Try.f77.ntmps = 18 := by kernel_rfl
theorem rs77 : Try.f77.results.toList = [.cell 4 22] := by kernel_rfl
theorem lite77 : Try.f77.body.map (lite okDraw) = some L77 := by kernel_rfl
end Eng


namespace Eng
open Go Go.Proofs Go.ChangeShapes Go.WideShapes Go.ChangeAt Go.RowKit
def B16 (a : List Int) : Prop := a.length = 16 ∧ ∀ x ∈ a, 0 ≤ x ∧ x < 256
def U8 (n : Int) : Prop := 0 ≤ n ∧ n < 256
theorem B16.at {a : List Int} (h : B16 a) (j : Nat) : U8 (a.getD j 0) := by
  rcases Nat.lt_or_ge j a.length with hj | hj
  · rw [List.getD_eq_getElem?_getD, List.getElem?_eq_getElem hj, Option.getD_some]
    exact h.2 _ (List.getElem_mem hj)
  · rw [List.getD_eq_getElem?_getD, List.getElem?_eq_none hj]
    exact ⟨by decide, by decide⟩
theorem own : ownKnob Try.prog.godebug = none := by kernel_rfl
theorem laidOut : laidOutB Try.prog = true := by kernel_rfl
theorem U8_of {x : Int} (h : IntKind.u8.min ≤ x ∧ x ≤ IntKind.u8.max) : U8 x := by
  have h0 : IntKind.u8.min = 0 := by decide
  have h1 : IntKind.u8.max = 255 := by decide
  unfold U8; omega
theorem U8L_of {xs : List Int} (h : ∀ x ∈ xs, IntKind.u8.min ≤ x ∧ x ≤ IntKind.u8.max) : U8L xs := fun x hx => U8_of (h x hx)
theorem len_of {n : Nat} (h : n ≤ maxLen) : n ≤ 9223372036854775807 := by
  have : maxLen = 9223372036854775807 := by decide
  omega
theorem co5 : Try.prog.cellsOf 5 = 1 := by kernel_rfl
end Eng


namespace Eng
open Go
/- Bytes as bit vectors. -/
theorem w8_nat (v : BitVec 8) : IntKind.u8.wrap (v.toNat : Int) = (v.toNat : Int) := wrap_u8 (by omega) (by have := v.isLt; omega)
theorem ofInt8_toNat {x : Int} (h0 : 0 ≤ x) (h1 : x < 256) : (BitVec.ofInt 8 x).toNat = x.toNat := ofInt_toNat h0 (by omega)
theorem ofInt8_bv (v : BitVec 8) : BitVec.ofInt 8 (v.toNat : Int) = v := by
  apply BitVec.eq_of_toNat_eq
  rw [ofInt8_toNat (by omega) (by have := v.isLt; omega)]; simp
theorem bv8_ofInt {x : Int} (h0 : 0 ≤ x) (h1 : x < 256) : ((BitVec.ofInt 8 x).toNat : Int) = x := by
  rw [ofInt8_toNat h0 h1]; omega
theorem andZ_u8 (a b : Int) : andZ .u8 a b = ((BitVec.ofInt 8 a &&& BitVec.ofInt 8 b).toNat : Int) := w8_nat _
theorem orZ_u8 (a b : Int) : orZ .u8 a b = ((BitVec.ofInt 8 a ||| BitVec.ofInt 8 b).toNat : Int) := w8_nat _
theorem xorZ_u8 (a b : Int) : xorZ .u8 a b = ((BitVec.ofInt 8 a ^^^ BitVec.ofInt 8 b).toNat : Int) := w8_nat _
theorem xorZ_u8_bv (a b : BitVec 8) : xorZ .u8 (a.toNat : Int) (b.toNat : Int) = ((a ^^^ b).toNat : Int) := by rw [xorZ_u8, ofInt8_bv, ofInt8_bv]
theorem andZ_u8_bv (a b : BitVec 8) : andZ .u8 (a.toNat : Int) (b.toNat : Int) = ((a &&& b).toNat : Int) := by rw [andZ_u8, ofInt8_bv, ofInt8_bv]
theorem negZ_u8_bv (a : BitVec 8) : IntKind.u8.wrap (0 - (a.toNat : Int)) = ((-a).toNat : Int) := by
  rw [wrap_u8_mod, BitVec.toNat_neg]
  have := a.isLt
  omega
theorem shlZ_u8_bv (a : BitVec 8) (n : Nat) (hn : n < 8) : shlZ .u8 (a.toNat : Int) (n : Int) = ((a <<< n).toNat : Int) := by
  have h : shlZ .u8 (a.toNat : Int) (n : Int) = IntKind.u8.wrap ((a.toNat : Int) * 2 ^ (min (n : Int).toNat 8)) := rfl
  rw [h, wrap_u8_mod, BitVec.toNat_shiftLeft, Nat.shiftLeft_eq, Int.toNat_natCast, Nat.min_eq_left (by omega), Int.natCast_emod, Int.natCast_mul, Int.natCast_pow]
  rfl
theorem shrZ_u8_bv (a : BitVec 8) (n : Nat) (hn : n < 8) : shrZ .u8 (a.toNat : Int) (n : Int) = ((a >>> n).toNat : Int) := by
  have h : shrZ .u8 (a.toNat : Int) (n : Int) = (a.toNat : Int).fdiv (2 ^ (min (n : Int).toNat 8)) := rfl
  rw [h, BitVec.toNat_ushiftRight, Nat.shiftRight_eq_div_pow, Int.toNat_natCast, Nat.min_eq_left (by omega), Int.fdiv_eq_ediv_of_nonneg _ (by exact Int.le_of_lt (Int.pow_pos (by decide))), Int.natCast_ediv, Int.natCast_pow]
  rfl
end Eng

