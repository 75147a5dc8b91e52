/- Contracts of the program's functions, and laws over them. There is no further condition. -/
import Derived.Test.YtmpebojnnlghiaaDoorED
import Derived.Test.YtmpebojnnlghiaaDoorChecked
import Derived.KernelRfl
import Derived.Test.YtmpebojnnlghiaaDoorRows
import Derived.Laws.Externs
import Derived.Test.YtmpebojnnlghiaaDoorEC
set_option linter.unusedVariables false
set_option linter.unusedSimpArgs false
set_option exponentiation.threshold 2000
namespace Eng
open Go Go.Proofs
theorem ty3 : tyOf Tryd.prog 3 = some ⟨.int .i64, 1, 8, [.int .i64 0], false, true, true⟩ := by kernel_rfl
theorem ty4 : tyOf Tryd.prog 4 = some ⟨.bool, 1, 1, [.bool false], false, true, true⟩ := by kernel_rfl
theorem ty5 : tyOf Tryd.prog 5 = some ⟨.int .u8, 1, 1, [.int .u8 0], false, true, true⟩ := by kernel_rfl
theorem ty9 : tyOf Tryd.prog 9 = some ⟨.string, 1, 16, [.str ⟨#[]⟩], false, true, true⟩ := by kernel_rfl
theorem ty22 : tyOf Tryd.prog 22 = some ⟨.int .u64, 1, 8, [.int .u64 0], false, true, true⟩ := by kernel_rfl
theorem ty23 : tyOf Tryd.prog 23 = some ⟨.array 6 22, 6, 48, ints .u64 (List.replicate 6 0), true, true, true⟩ := by kernel_rfl
theorem ty24 : tyOf Tryd.prog 24 = some ⟨.array 6 22, 6, 48, ints .u64 (List.replicate 6 0), true, true, true⟩ := by kernel_rfl
theorem ty27 : tyOf Tryd.prog 27 = some ⟨.slice 22, 1, 24, [.nils], false, true, false⟩ := by kernel_rfl
theorem ty28 : tyOf Tryd.prog 28 = some ⟨.slice 22, 1, 24, [.nils], false, true, false⟩ := by kernel_rfl
theorem ty38 : tyOf Tryd.prog 38 = some ⟨.slice 5, 1, 24, [.nils], false, true, false⟩ := by kernel_rfl
theorem ty39 : tyOf Tryd.prog 39 = some ⟨.interface #[("Error", 78)], 1, 16, [.nili], false, true, true⟩ := by kernel_rfl
theorem ty40 : tyOf Tryd.prog 40 = some ⟨.interface #[("Error", 78)], 1, 16, [.nili], false, true, true⟩ := by kernel_rfl
theorem ty43 : tyOf Tryd.prog 43 = some ⟨.int .i64, 1, 8, [.int .i64 0], false, true, true⟩ := by kernel_rfl
theorem ty52 : tyOf Tryd.prog 52 = some ⟨.struct #[⟨ "M", 24, 0, false, "", "", 0⟩, ⟨ "Inv", 22, 6, false, "", "", 48⟩, ⟨ "Two", 24, 7, false, "", "", 56⟩], 13, 104, ints .u64 (List.replicate 13 0), true, true, true⟩ := by kernel_rfl
theorem ty59 : tyOf Tryd.prog 59 = some ⟨.int .u64, 1, 8, [.int .u64 0], false, true, true⟩ := by kernel_rfl
theorem ty74 : tyOf Tryd.prog 74 = some ⟨.array 12 22, 12, 96, ints .u64 (List.replicate 12 0), true, true, true⟩ := by kernel_rfl
theorem ty75 : tyOf Tryd.prog 75 = some ⟨.array 12 22, 12, 96, ints .u64 (List.replicate 12 0), true, true, true⟩ := by kernel_rfl
end Eng


namespace Eng
open Go Go.Proofs
theorem hM0 : Tryd.prog.follows .mixedOrders = true := by kernel_rfl
theorem eq24 : eqArr Tryd.prog 24 = true := by kernel_rfl
def L7r0 : List AOp := [
  ⟨(some 2), .assign (.const (.bool false)), none, 0⟩]
def L7r1 : List AOp := [
  ⟨(some 10), .move (.tmp 0), none, 0⟩,
  ⟨(some 11), .call { callee := .value (.func 38), args := #[.tmp 10], argTypes := #[38] }, none, 0⟩,
  ⟨(some 9), .move (.tmp 11), none, 0⟩,
  ⟨(some 12), .extract (.tmp 9) 0, none, 0⟩,
  ⟨(some 13), .extract (.tmp 9) 1, none, 0⟩,
  ⟨(some 3), .alloc 24, none, 0⟩,
  ⟨none, .store 24 (.tmp 3) (.tmp 12), none, 0⟩,
  ⟨(some 4), .assign (.tmp 13), none, 0⟩]
def L7r2 : List AOp := [
  ⟨(some 15), .move (.tmp 0), none, 0⟩,
  ⟨(some 16), .call { callee := .value (.func 39), args := #[.tmp 15], argTypes := #[38] }, none, 0⟩,
  ⟨(some 14), .move (.tmp 16), none, 0⟩,
  ⟨(some 17), .extract (.tmp 14) 0, none, 0⟩,
  ⟨(some 18), .extract (.tmp 14) 1, none, 0⟩,
  ⟨(some 5), .alloc 24, none, 0⟩,
  ⟨none, .store 24 (.tmp 5) (.tmp 17), none, 0⟩,
  ⟨(some 6), .assign (.tmp 18), none, 0⟩]
def L7r3 : List AOp := [
  ⟨(some 19), .move (.tmp 0), none, 0⟩,
  ⟨(some 20), .call { callee := .builtin .len, args := #[.tmp 19], argTypes := #[38] }, none, 0⟩,
  ⟨(some 21), .binOp .lss 3 (.tmp 20) (.const (.int .i64 48)) 3, none, 0⟩]
def L7r4 : List AOp := [
  ⟨(some 22), .call { callee := .value (.func 28), args := #[], argTypes := #[] }, none, 0⟩,
  ⟨(some 23), .move (.tmp 22), none, 0⟩,
  ⟨(some 24), .move (.tmp 4), (some (23, true)), 0⟩,
  ⟨(some 25), .makeInterface 43 (.const (.int .i64 6)), (some (23, true)), 0⟩,
  ⟨(some 26), .binOp .eql 40 (.tmp 24) (.tmp 25) 40, (some (23, true)), 0⟩,
  ⟨(some 27), .pick (.tmp 23) (.tmp 26) (.const (.bool false)), none, 0⟩,
  ⟨(some 28), .move (.tmp 27), none, 0⟩,
  ⟨(some 29), .load 24 (.tmp 3), (some (28, true)), 0⟩,
  ⟨(some 30), .build 24 #[], (some (28, true)), 0⟩,
  ⟨(some 31), .binOp .eql 24 (.tmp 29) (.tmp 30) 24, (some (28, true)), 0⟩,
  ⟨(some 32), .pick (.tmp 28) (.tmp 31) (.const (.bool false)), none, 0⟩,
  ⟨(some 33), .move (.tmp 32), none, 0⟩,
  ⟨(some 34), .move (.tmp 6), (some (33, true)), 0⟩,
  ⟨(some 35), .makeInterface 43 (.const (.int .i64 6)), (some (33, true)), 0⟩,
  ⟨(some 36), .binOp .eql 40 (.tmp 34) (.tmp 35) 40, (some (33, true)), 0⟩,
  ⟨(some 37), .pick (.tmp 33) (.tmp 36) (.const (.bool false)), none, 0⟩,
  ⟨(some 38), .move (.tmp 37), none, 0⟩,
  ⟨(some 39), .load 24 (.tmp 5), (some (38, true)), 0⟩,
  ⟨(some 40), .build 24 #[], (some (38, true)), 0⟩,
  ⟨(some 41), .binOp .eql 24 (.tmp 39) (.tmp 40) 24, (some (38, true)), 0⟩,
  ⟨(some 42), .pick (.tmp 38) (.tmp 41) (.const (.bool false)), none, 0⟩,
  ⟨(some 2), .assign (.tmp 42), none, 0⟩]
def L7r5 : List AOp := [
  ⟨(some 43), .move (.tmp 0), none, 0⟩,
  ⟨(some 44), .call { callee := .builtin .len, args := #[.tmp 43], argTypes := #[38] }, none, 0⟩,
  ⟨(some 45), .binOp .gtr 3 (.tmp 44) (.const (.int .i64 48)) 3, none, 0⟩]
def L7r6 : List AOp := [
  ⟨(some 46), .call { callee := .value (.func 28), args := #[], argTypes := #[] }, none, 0⟩,
  ⟨(some 47), .move (.tmp 46), none, 0⟩,
  ⟨(some 48), .move (.tmp 4), (some (47, true)), 0⟩,
  ⟨(some 49), .makeInterface 43 (.const (.int .i64 8)), (some (47, true)), 0⟩,
  ⟨(some 50), .binOp .eql 40 (.tmp 48) (.tmp 49) 40, (some (47, true)), 0⟩,
  ⟨(some 51), .pick (.tmp 47) (.tmp 50) (.const (.bool false)), none, 0⟩,
  ⟨(some 52), .move (.tmp 51), none, 0⟩,
  ⟨(some 53), .load 24 (.tmp 3), (some (52, true)), 0⟩,
  ⟨(some 54), .build 24 #[], (some (52, true)), 0⟩,
  ⟨(some 55), .binOp .eql 24 (.tmp 53) (.tmp 54) 24, (some (52, true)), 0⟩,
  ⟨(some 56), .pick (.tmp 52) (.tmp 55) (.const (.bool false)), none, 0⟩,
  ⟨(some 57), .move (.tmp 56), none, 0⟩,
  ⟨(some 58), .move (.tmp 6), (some (57, true)), 0⟩,
  ⟨(some 59), .makeInterface 43 (.const (.int .i64 8)), (some (57, true)), 0⟩,
  ⟨(some 60), .binOp .eql 40 (.tmp 58) (.tmp 59) 40, (some (57, true)), 0⟩,
  ⟨(some 61), .pick (.tmp 57) (.tmp 60) (.const (.bool false)), none, 0⟩,
  ⟨(some 62), .move (.tmp 61), none, 0⟩,
  ⟨(some 63), .load 24 (.tmp 5), (some (62, true)), 0⟩,
  ⟨(some 64), .build 24 #[], (some (62, true)), 0⟩,
  ⟨(some 65), .binOp .eql 24 (.tmp 63) (.tmp 64) 24, (some (62, true)), 0⟩,
  ⟨(some 66), .pick (.tmp 62) (.tmp 65) (.const (.bool false)), none, 0⟩,
  ⟨(some 2), .assign (.tmp 66), none, 0⟩]
def L7r7 : List AOp := [
  ⟨(some 67), .move (.tmp 0), none, 0⟩,
  ⟨(some 68), .call { callee := .value (.func 36), args := #[.tmp 67], argTypes := #[38] }, none, 0⟩,
  ⟨(some 7), .assign (.tmp 68), none, 0⟩]
def L7r8 : List AOp := [
  ⟨(some 69), .load 24 (.tmp 5), none, 0⟩,
  ⟨(some 70), .move (.tmp 7), none, 0⟩,
  ⟨(some 71), .call { callee := .value (.func 24), args := #[.tmp 70], argTypes := #[28] }, none, 2⟩,
  ⟨(some 72), .call { callee := .value (.func 20), args := #[.tmp 69, .tmp 71], argTypes := #[24, 28] }, none, 1267650600228229401496703205383⟩,
  ⟨(some 8), .assign (.tmp 72), none, 1267650600228229401496703205391⟩]
def L7r9 : List AOp := [
  ⟨(some 73), .move (.tmp 6), none, 0⟩,
  ⟨(some 74), .binOp .neq 40 (.tmp 73) (.const .nilIface) 40, none, 0⟩,
  ⟨(some 75), .move (.tmp 74), none, 0⟩,
  ⟨(some 76), .move (.tmp 8), (some (75, false)), 0⟩,
  ⟨(some 77), .unOp .not 4 (.tmp 76), (some (75, false)), 0⟩,
  ⟨(some 78), .pick (.tmp 75) (.const (.bool true)) (.tmp 77), none, 0⟩]
def L7r10 : List AOp := [
  ⟨(some 2), .assign (.const (.bool false)), none, 0⟩]
def L7r11 : List AOp := [
  ⟨(some 79), .move (.tmp 7), none, 0⟩,
  ⟨(some 80), .call { callee := .builtin .len, args := #[.tmp 79], argTypes := #[28] }, none, 0⟩,
  ⟨(some 81), .binOp .eql 3 (.tmp 80) (.const (.int .i64 0)) 3, none, 0⟩,
  ⟨(some 82), .move (.tmp 81), none, 0⟩,
  ⟨(some 83), .move (.tmp 7), (some (82, false)), 0⟩,
  ⟨(some 84), .call { callee := .value (.func 22), args := #[], argTypes := #[] }, (some (82, false)), 0⟩,
  ⟨(some 85), .call { callee := .value (.func 37), args := #[.tmp 83, .tmp 84], argTypes := #[28, 28] }, (some (82, false)), 0⟩,
  ⟨(some 86), .binOp .geq 3 (.tmp 85) (.const (.int .i64 0)) 3, (some (82, false)), 0⟩,
  ⟨(some 87), .pick (.tmp 82) (.const (.bool true)) (.tmp 86), none, 0⟩]
def L7r12 : List AOp := [
  ⟨(some 88), .call { callee := .value (.func 28), args := #[], argTypes := #[] }, none, 0⟩,
  ⟨(some 89), .move (.tmp 88), none, 0⟩,
  ⟨(some 90), .move (.tmp 4), (some (89, true)), 0⟩,
  ⟨(some 91), .makeInterface 43 (.const (.int .i64 3)), (some (89, true)), 0⟩,
  ⟨(some 92), .binOp .eql 40 (.tmp 90) (.tmp 91) 40, (some (89, true)), 0⟩,
  ⟨(some 93), .pick (.tmp 89) (.tmp 92) (.const (.bool false)), none, 0⟩,
  ⟨(some 94), .move (.tmp 93), none, 0⟩,
  ⟨(some 95), .load 24 (.tmp 3), (some (94, true)), 0⟩,
  ⟨(some 96), .build 24 #[], (some (94, true)), 0⟩,
  ⟨(some 97), .binOp .eql 24 (.tmp 95) (.tmp 96) 24, (some (94, true)), 0⟩,
  ⟨(some 98), .pick (.tmp 94) (.tmp 97) (.const (.bool false)), none, 0⟩,
  ⟨(some 2), .assign (.tmp 98), none, 0⟩]
def L7r13 : List AOp := [
  ⟨(some 99), .call { callee := .value (.func 28), args := #[], argTypes := #[] }, none, 0⟩,
  ⟨(some 100), .move (.tmp 99), none, 0⟩,
  ⟨(some 101), .move (.tmp 4), (some (100, true)), 0⟩,
  ⟨(some 102), .binOp .eql 40 (.tmp 101) (.const .nilIface) 40, (some (100, true)), 0⟩,
  ⟨(some 103), .pick (.tmp 100) (.tmp 102) (.const (.bool false)), none, 0⟩,
  ⟨(some 104), .move (.tmp 103), none, 0⟩,
  ⟨(some 105), .load 24 (.tmp 3), (some (104, true)), 0⟩,
  ⟨(some 106), .move (.tmp 7), (some (104, true)), 0⟩,
  ⟨(some 107), .call { callee := .value (.func 20), args := #[.tmp 105, .tmp 106], argTypes := #[24, 28] }, (some (104, true)), 0⟩,
  ⟨(some 108), .pick (.tmp 104) (.tmp 107) (.const (.bool false)), none, 0⟩,
  ⟨(some 2), .assign (.tmp 108), none, 0⟩]
def L7 : LC := (.seq (.region L7r0) (.seq (.region L7r1) (.seq (.region L7r2) (.seq (.seq (.region L7r3) (.cond (.tmp 21) (.seq (.region L7r4) .ret) .skip)) (.seq (.seq (.region L7r5) (.cond (.tmp 45) (.seq (.region L7r6) .ret) .skip)) (.seq (.region L7r7) (.seq (.regionD L7r8) (.seq (.seq (.region L7r9) (.cond (.tmp 78) (.seq (.region L7r10) .ret) .skip)) (.seq (.seq (.region L7r11) (.cond (.tmp 87) (.seq (.region L7r12) .ret) .skip)) (.seq (.region L7r13) .ret))))))))))
theorem nt7 : Tryd.f7.ntmps = 109 := by kernel_rfl
theorem rs7 : Tryd.f7.results.toList = [.tmp 2] := by kernel_rfl
theorem lite7 : Tryd.f7.body.map (lite okDraw) = some L7 := by kernel_rfl
def L20r0 : List AOp := [
  ⟨(some 2), .box 24 (.tmp 0), none, 0⟩,
  ⟨(some 4), .assign (.const (.bool false)), none, 0⟩]
def L20r1 : List AOp := [
  ⟨(some 5), .load 24 (.tmp 2), none, 0⟩,
  ⟨(some 6), .move (.tmp 1), none, 0⟩,
  ⟨(some 7), .call { callee := .value (.func 48), args := #[.tmp 6], argTypes := #[28] }, none, 2⟩,
  ⟨(some 8), .binOp .eql 24 (.tmp 5) (.tmp 7) 24, none, 1267650600228229401496703205383⟩,
  ⟨(some 4), .assign (.tmp 8), none, 1267650600228229401496703205391⟩]
def L20 : LC := (.seq (.region L20r0) (.seq (.regionD L20r1) .ret))
theorem nt20 : Tryd.f20.ntmps = 9 := by kernel_rfl
theorem rs20 : Tryd.f20.results.toList = [.tmp 4] := by kernel_rfl
theorem lite20 : Tryd.f20.body.map (lite okDraw) = some L20 := by kernel_rfl
def L21r0 : List AOp := [
  ⟨(some 0), .alloc 24, none, 0⟩]
def L21r1 : List AOp := [
  ⟨(some 1), .fieldAddr 52 (.global 1) 0, none, 0⟩,
  ⟨(some 2), .load 24 (.tmp 1), none, 0⟩,
  ⟨none, .store 24 (.tmp 0) (.tmp 2), none, 0⟩]
def L21 : LC := (.seq (.region L21r0) (.seq (.region L21r1) .ret))
theorem nt21 : Tryd.f21.ntmps = 3 := by kernel_rfl
theorem rs21 : Tryd.f21.results.toList = [.cell 0 24] := by kernel_rfl
theorem lite21 : Tryd.f21.body.map (lite okDraw) = some L21 := by kernel_rfl
def L22r0 : List AOp := [
  ⟨(some 0), .assign (.const (.slice none 0 0)), none, 0⟩]
def L22r1 : List AOp := [
  ⟨(some 1), .buildSlice 28 12 #[(0, .const (.int .u64 3435473267)), (1, .const (.int .u64 3974895978)), (2, .const (.int .u64 1219536762)), (3, .const (.int .u64 1478102450)), (4, .const (.int .u64 4097256927)), (5, .const (.int .u64 3345173889)), (6, .const (.int .u64 4294967295)), (7, .const (.int .u64 4294967295)), (8, .const (.int .u64 4294967295)), (9, .const (.int .u64 4294967295)), (10, .const (.int .u64 4294967295)), (11, .const (.int .u64 4294967295))], none, 0⟩,
  ⟨(some 0), .assign (.tmp 1), none, 0⟩]
def L22 : LC := (.seq (.region L22r0) (.seq (.region L22r1) .ret))
theorem nt22 : Tryd.f22.ntmps = 2 := by kernel_rfl
theorem rs22 : Tryd.f22.results.toList = [.tmp 0] := by kernel_rfl
theorem lite22 : Tryd.f22.body.map (lite okDraw) = some L22 := by kernel_rfl
def L23r0 : List AOp := [
  ⟨(some 1), .box 24 (.tmp 0), none, 0⟩,
  ⟨(some 2), .alloc 24, none, 0⟩]
def L23r1 : List AOp := [
  ⟨(some 3), .load 24 (.tmp 1), none, 0⟩,
  ⟨(some 4), .build 24 #[], none, 0⟩,
  ⟨(some 5), .load 52 (.global 1), none, 0⟩,
  ⟨(some 6), .call { callee := .value (.func 49), args := #[.tmp 3, .tmp 4, .tmp 5], argTypes := #[24, 24, 52] }, none, 0⟩,
  ⟨none, .store 24 (.tmp 2) (.tmp 6), none, 0⟩]
def L23 : LC := (.seq (.region L23r0) (.seq (.region L23r1) .ret))
theorem nt23 : Tryd.f23.ntmps = 7 := by kernel_rfl
theorem rs23 : Tryd.f23.results.toList = [.cell 2 24] := by kernel_rfl
theorem lite23 : Tryd.f23.body.map (lite okDraw) = some L23 := by kernel_rfl
def L24r0 : List AOp := [
  ⟨(some 2), .assign (.const (.slice none 0 0)), none, 0⟩]
def L24r1 : List AOp := [
  ⟨(some 3), .move (.tmp 0), none, 0⟩,
  ⟨(some 4), .call { callee := .value (.func 22), args := #[], argTypes := #[] }, none, 0⟩,
  ⟨(some 5), .call { callee := .value (.func 50), args := #[.tmp 3, .tmp 4], argTypes := #[28, 28] }, none, 0⟩,
  ⟨(some 2), .assign (.tmp 5), none, 0⟩]
def L24 : LC := (.seq (.region L24r0) (.seq (.region L24r1) .ret))
theorem nt24 : Tryd.f24.ntmps = 6 := by kernel_rfl
theorem rs24 : Tryd.f24.results.toList = [.tmp 2] := by kernel_rfl
theorem lite24 : Tryd.f24.body.map (lite okDraw) = some L24 := by kernel_rfl
def L26r0 : List AOp := [
  ⟨(some 2), .box 24 (.tmp 0), none, 0⟩,
  ⟨(some 3), .box 24 (.tmp 1), none, 0⟩,
  ⟨(some 4), .alloc 24, none, 0⟩]
def L26r1 : List AOp := [
  ⟨(some 5), .load 24 (.tmp 2), none, 0⟩,
  ⟨(some 6), .load 24 (.tmp 3), none, 0⟩,
  ⟨(some 7), .load 52 (.global 1), none, 0⟩,
  ⟨(some 8), .call { callee := .value (.func 49), args := #[.tmp 5, .tmp 6, .tmp 7], argTypes := #[24, 24, 52] }, none, 0⟩,
  ⟨none, .store 24 (.tmp 4) (.tmp 8), none, 0⟩]
def L26 : LC := (.seq (.region L26r0) (.seq (.region L26r1) .ret))
theorem nt26 : Tryd.f26.ntmps = 9 := by kernel_rfl
theorem rs26 : Tryd.f26.results.toList = [.cell 4 24] := by kernel_rfl
theorem lite26 : Tryd.f26.body.map (lite okDraw) = some L26 := by kernel_rfl
def L27r0 : List AOp := [
  ⟨(some 4), .assign (.const (.slice none 0 0)), none, 0⟩]
def L27r1 : List AOp := [
  ⟨(some 5), .assign (.const (.slice none 0 0)), none, 0⟩]
def L27r2 : List AOp := [
  ⟨(some 6), .assign (.const (.int .u64 0)), none, 0⟩]
def L27r3 : List AOp := [
  ⟨(some 7), .assign (.const (.int .i64 0)), none, 0⟩]
def L27r4 : List AOp := [
  ⟨(some 9), .move (.tmp 7), none, 0⟩,
  ⟨(some 10), .move (.tmp 0), none, 0⟩,
  ⟨(some 11), .call { callee := .builtin .len, args := #[.tmp 10], argTypes := #[28] }, none, 0⟩,
  ⟨(some 12), .binOp .lss 3 (.tmp 9) (.tmp 11) 3, none, 0⟩,
  ⟨(some 13), .move (.tmp 12), none, 0⟩,
  ⟨(some 14), .move (.tmp 7), (some (13, false)), 0⟩,
  ⟨(some 15), .move (.tmp 1), (some (13, false)), 0⟩,
  ⟨(some 16), .call { callee := .builtin .len, args := #[.tmp 15], argTypes := #[28] }, (some (13, false)), 0⟩,
  ⟨(some 17), .binOp .lss 3 (.tmp 14) (.tmp 16) 3, (some (13, false)), 0⟩,
  ⟨(some 18), .pick (.tmp 13) (.const (.bool true)) (.tmp 17), none, 0⟩,
  ⟨(some 19), .move (.tmp 18), none, 0⟩,
  ⟨(some 20), .move (.tmp 6), (some (19, false)), 0⟩,
  ⟨(some 21), .binOp .gtr 22 (.tmp 20) (.const (.int .u64 0)) 22, (some (19, false)), 0⟩,
  ⟨(some 22), .pick (.tmp 19) (.const (.bool true)) (.tmp 21), none, 0⟩]
def L27r6 : List AOp := [
  ⟨(some 25), .move (.tmp 0), none, 0⟩,
  ⟨(some 26), .move (.tmp 7), none, 0⟩,
  ⟨(some 27), .call { callee := .value (.func 52), args := #[.tmp 25, .tmp 26], argTypes := #[28, 3] }, none, 0⟩,
  ⟨(some 28), .move (.tmp 1), none, 0⟩,
  ⟨(some 29), .move (.tmp 7), none, 0⟩,
  ⟨(some 30), .call { callee := .value (.func 52), args := #[.tmp 28, .tmp 29], argTypes := #[28, 3] }, none, 0⟩,
  ⟨(some 31), .binOp .add 22 (.tmp 27) (.tmp 30) 22, none, 0⟩,
  ⟨(some 32), .move (.tmp 6), none, 0⟩,
  ⟨(some 33), .binOp .add 22 (.tmp 31) (.tmp 32) 22, none, 0⟩,
  ⟨(some 8), .assign (.tmp 33), none, 0⟩]
def L27r7 : List AOp := [
  ⟨(some 34), .move (.tmp 5), none, 0⟩,
  ⟨(some 35), .move (.tmp 8), none, 0⟩,
  ⟨(some 36), .binOp .rem 22 (.tmp 35) (.const (.int .u64 4294967296)) 22, none, 0⟩,
  ⟨(some 37), .buildSlice 28 1 #[(0, .tmp 36)], none, 0⟩,
  ⟨(some 38), .call { callee := .builtin .append, args := #[.tmp 34, .tmp 37], argTypes := #[28, 28] }, none, 0⟩,
  ⟨(some 5), .assign (.tmp 38), none, 0⟩]
def L27r8 : List AOp := [
  ⟨(some 39), .move (.tmp 8), none, 0⟩,
  ⟨(some 40), .binOp .quo 22 (.tmp 39) (.const (.int .u64 4294967296)) 22, none, 0⟩,
  ⟨(some 6), .assign (.tmp 40), none, 0⟩]
def L27r5 : List AOp := [
  ⟨(some 23), .move (.tmp 7), none, 0⟩,
  ⟨(some 24), .binOp .add 3 (.tmp 23) (.const (.int .i64 1)) 3, none, 0⟩,
  ⟨(some 7), .assign (.tmp 24), none, 0⟩]
def L27r9 : List AOp := [
  ⟨(some 41), .move (.tmp 5), none, 0⟩,
  ⟨(some 42), .call { callee := .value (.func 53), args := #[.tmp 41], argTypes := #[28] }, none, 0⟩,
  ⟨(some 4), .assign (.tmp 42), none, 0⟩]
def L27 : LC := (.seq (.region L27r0) (.seq (.region L27r1) (.seq (.region L27r2) (.seq (.seq (.region L27r3) (.block 0 (.loop (.seq (.seq (.region L27r4) (.cond (.tmp 22) .skip (.exit 0))) (.seq (.block 1 (.seq (.region L27r6) (.seq (.region L27r7) (.region L27r8)))) (.region L27r5)))))) (.seq (.region L27r9) .ret)))))
theorem nt27 : Tryd.f27.ntmps = 43 := by kernel_rfl
theorem rs27 : Tryd.f27.results.toList = [.tmp 4] := by kernel_rfl
theorem lite27 : Tryd.f27.body.map (lite okDraw) = some L27 := by kernel_rfl
def L28r0 : List AOp := [
  ⟨(some 0), .assign (.const (.bool false)), none, 0⟩]
def L28r1 : List AOp := [
  ⟨(some 1), .call { callee := .value (.func 21), args := #[], argTypes := #[] }, none, 0⟩,
  ⟨(some 2), .build 24 #[(0, .const (.int .u64 5))], none, 0⟩,
  ⟨(some 3), .call { callee := .value (.func 26), args := #[.tmp 1, .tmp 2], argTypes := #[24, 24] }, none, 0⟩,
  ⟨(some 4), .build 24 #[(0, .const (.int .u64 5))], none, 0⟩,
  ⟨(some 5), .binOp .eql 24 (.tmp 3) (.tmp 4) 24, none, 0⟩,
  ⟨(some 0), .assign (.tmp 5), none, 0⟩]
def L28 : LC := (.seq (.region L28r0) (.seq (.region L28r1) .ret))
theorem nt28 : Tryd.f28.ntmps = 6 := by kernel_rfl
theorem rs28 : Tryd.f28.results.toList = [.tmp 0] := by kernel_rfl
theorem lite28 : Tryd.f28.body.map (lite okDraw) = some L28 := by kernel_rfl
def L36r0 : List AOp := [
  ⟨(some 2), .assign (.const (.slice none 0 0)), none, 0⟩]
def L36r1 : List AOp := [
  ⟨(some 8), .move (.tmp 0), none, 0⟩,
  ⟨(some 9), .call { callee := .builtin .len, args := #[.tmp 8], argTypes := #[38] }, none, 0⟩,
  ⟨(some 10), .binOp .quo 3 (.tmp 9) (.const (.int .i64 4)) 3, none, 0⟩,
  ⟨(some 11), .binOp .add 3 (.tmp 10) (.const (.int .i64 1)) 3, none, 0⟩,
  ⟨(some 12), .makeSlice 28 (.tmp 11) (.tmp 11), none, 0⟩,
  ⟨(some 3), .assign (.tmp 12), none, 0⟩]
def L36r2 : List AOp := [
  ⟨(some 4), .assign (.const (.int .i64 0)), none, 0⟩]
def L36r3 : List AOp := [
  ⟨(some 13), .move (.tmp 4), none, 0⟩,
  ⟨(some 14), .move (.tmp 0), none, 0⟩,
  ⟨(some 15), .call { callee := .builtin .len, args := #[.tmp 14], argTypes := #[38] }, none, 0⟩,
  ⟨(some 16), .binOp .lss 3 (.tmp 13) (.tmp 15) 3, none, 0⟩]
def L36r5 : List AOp := [
  ⟨(some 19), .move (.tmp 0), none, 0⟩,
  ⟨(some 20), .call { callee := .builtin .len, args := #[.tmp 19], argTypes := #[38] }, none, 0⟩,
  ⟨(some 21), .binOp .sub 3 (.tmp 20) (.const (.int .i64 1)) 3, none, 0⟩,
  ⟨(some 22), .move (.tmp 4), none, 0⟩,
  ⟨(some 23), .binOp .sub 3 (.tmp 21) (.tmp 22) 3, none, 0⟩,
  ⟨(some 5), .assign (.tmp 23), none, 0⟩]
def L36r6 : List AOp := [
  ⟨(some 24), .move (.tmp 0), none, 0⟩,
  ⟨(some 25), .move (.tmp 5), none, 0⟩,
  ⟨(some 26), .indexAddr 38 (.tmp 24) (.tmp 25), none, 0⟩,
  ⟨(some 27), .load 5 (.tmp 26), none, 0⟩,
  ⟨(some 28), .convert 5 22 (.tmp 27), none, 0⟩,
  ⟨(some 6), .assign (.tmp 28), none, 0⟩]
def L36r7 : List AOp := [
  ⟨(some 7), .assign (.const (.int .i64 0)), none, 0⟩]
def L36r8 : List AOp := [
  ⟨(some 29), .move (.tmp 7), none, 0⟩,
  ⟨(some 30), .move (.tmp 4), none, 0⟩,
  ⟨(some 31), .binOp .rem 3 (.tmp 30) (.const (.int .i64 4)) 3, none, 0⟩,
  ⟨(some 32), .binOp .lss 3 (.tmp 29) (.tmp 31) 3, none, 0⟩]
def L36r10 : List AOp := [
  ⟨(some 35), .move (.tmp 6), none, 0⟩,
  ⟨(some 36), .binOp .mul 22 (.tmp 35) (.const (.int .u64 256)) 22, none, 0⟩,
  ⟨(some 6), .assign (.tmp 36), none, 0⟩]
def L36r9 : List AOp := [
  ⟨(some 33), .move (.tmp 7), none, 0⟩,
  ⟨(some 34), .binOp .add 3 (.tmp 33) (.const (.int .i64 1)) 3, none, 0⟩,
  ⟨(some 7), .assign (.tmp 34), none, 0⟩]
def L36r11 : List AOp := [
  ⟨(some 37), .move (.tmp 3), none, 0⟩,
  ⟨(some 38), .move (.tmp 4), none, 0⟩,
  ⟨(some 39), .binOp .quo 3 (.tmp 38) (.const (.int .i64 4)) 3, none, 0⟩,
  ⟨(some 40), .move (.tmp 3), none, 0⟩,
  ⟨(some 41), .move (.tmp 4), none, 0⟩,
  ⟨(some 42), .binOp .quo 3 (.tmp 41) (.const (.int .i64 4)) 3, none, 0⟩,
  ⟨(some 43), .indexAddr 28 (.tmp 40) (.tmp 42), none, 0⟩,
  ⟨(some 44), .load 22 (.tmp 43), none, 0⟩,
  ⟨(some 45), .move (.tmp 6), none, 0⟩,
  ⟨(some 46), .binOp .add 22 (.tmp 44) (.tmp 45) 22, none, 0⟩,
  ⟨(some 47), .indexAddr 28 (.tmp 37) (.tmp 39), none, 0⟩,
  ⟨none, .store 22 (.tmp 47) (.tmp 46), none, 0⟩]
def L36r4 : List AOp := [
  ⟨(some 17), .move (.tmp 4), none, 0⟩,
  ⟨(some 18), .binOp .add 3 (.tmp 17) (.const (.int .i64 1)) 3, none, 0⟩,
  ⟨(some 4), .assign (.tmp 18), none, 0⟩]
def L36r12 : List AOp := [
  ⟨(some 48), .move (.tmp 3), none, 0⟩,
  ⟨(some 49), .call { callee := .value (.func 53), args := #[.tmp 48], argTypes := #[28] }, none, 0⟩,
  ⟨(some 2), .assign (.tmp 49), none, 0⟩]
def L36 : LC := (.seq (.region L36r0) (.seq (.region L36r1) (.seq (.seq (.region L36r2) (.block 0 (.loop (.seq (.seq (.region L36r3) (.cond (.tmp 16) .skip (.exit 0))) (.seq (.block 1 (.seq (.region L36r5) (.seq (.region L36r6) (.seq (.seq (.region L36r7) (.block 2 (.loop (.seq (.seq (.region L36r8) (.cond (.tmp 32) .skip (.exit 2))) (.seq (.block 3 (.region L36r10)) (.region L36r9)))))) (.region L36r11))))) (.region L36r4)))))) (.seq (.region L36r12) .ret))))
theorem nt36 : Tryd.f36.ntmps = 50 := by kernel_rfl
theorem rs36 : Tryd.f36.results.toList = [.tmp 2] := by kernel_rfl
theorem lite36 : Tryd.f36.body.map (lite okDraw) = some L36 := by kernel_rfl
def L37r0 : List AOp := [
  ⟨(some 4), .assign (.const (.int .i64 0)), none, 0⟩]
def L37r1 : List AOp := [
  ⟨(some 6), .move (.tmp 0), none, 0⟩,
  ⟨(some 7), .call { callee := .builtin .len, args := #[.tmp 6], argTypes := #[28] }, none, 0⟩,
  ⟨(some 8), .move (.tmp 1), none, 0⟩,
  ⟨(some 9), .call { callee := .builtin .len, args := #[.tmp 8], argTypes := #[28] }, none, 0⟩,
  ⟨(some 10), .binOp .neq 3 (.tmp 7) (.tmp 9) 3, none, 0⟩]
def L37r2 : List AOp := [
  ⟨(some 11), .move (.tmp 0), none, 0⟩,
  ⟨(some 12), .call { callee := .builtin .len, args := #[.tmp 11], argTypes := #[28] }, none, 0⟩,
  ⟨(some 13), .move (.tmp 1), none, 0⟩,
  ⟨(some 14), .call { callee := .builtin .len, args := #[.tmp 13], argTypes := #[28] }, none, 0⟩,
  ⟨(some 15), .binOp .lss 3 (.tmp 12) (.tmp 14) 3, none, 0⟩]
def L37r3 : List AOp := [
  ⟨(some 4), .assign (.const (.int .i64 (-1))), none, 0⟩]
def L37r4 : List AOp := [
  ⟨(some 4), .assign (.const (.int .i64 1)), none, 0⟩]
def L37r5 : List AOp := [
  ⟨(some 16), .move (.tmp 0), none, 0⟩,
  ⟨(some 17), .call { callee := .builtin .len, args := #[.tmp 16], argTypes := #[28] }, none, 0⟩,
  ⟨(some 18), .binOp .sub 3 (.tmp 17) (.const (.int .i64 1)) 3, none, 0⟩,
  ⟨(some 5), .assign (.tmp 18), none, 0⟩]
def L37r6 : List AOp := [
  ⟨(some 19), .move (.tmp 5), none, 0⟩,
  ⟨(some 20), .binOp .geq 3 (.tmp 19) (.const (.int .i64 0)) 3, none, 0⟩]
def L37r8 : List AOp := [
  ⟨(some 23), .move (.tmp 0), none, 0⟩,
  ⟨(some 24), .move (.tmp 5), none, 0⟩,
  ⟨(some 25), .indexAddr 28 (.tmp 23) (.tmp 24), none, 3⟩,
  ⟨(some 26), .load 22 (.tmp 25), none, 7⟩,
  ⟨(some 27), .move (.tmp 1), none, 0⟩,
  ⟨(some 28), .move (.tmp 5), none, 0⟩,
  ⟨(some 29), .indexAddr 28 (.tmp 27) (.tmp 28), none, 48⟩,
  ⟨(some 30), .load 22 (.tmp 29), none, 112⟩,
  ⟨(some 31), .binOp .lss 22 (.tmp 26) (.tmp 30) 22, none, 1267650600228229401496703205631⟩]
def L37r9 : List AOp := [
  ⟨(some 4), .assign (.const (.int .i64 (-1))), none, 0⟩]
def L37r10 : List AOp := [
  ⟨(some 32), .move (.tmp 0), none, 0⟩,
  ⟨(some 33), .move (.tmp 5), none, 0⟩,
  ⟨(some 34), .indexAddr 28 (.tmp 32) (.tmp 33), none, 3⟩,
  ⟨(some 35), .load 22 (.tmp 34), none, 7⟩,
  ⟨(some 36), .move (.tmp 1), none, 0⟩,
  ⟨(some 37), .move (.tmp 5), none, 0⟩,
  ⟨(some 38), .indexAddr 28 (.tmp 36) (.tmp 37), none, 48⟩,
  ⟨(some 39), .load 22 (.tmp 38), none, 112⟩,
  ⟨(some 40), .binOp .gtr 22 (.tmp 35) (.tmp 39) 22, none, 1267650600228229401496703205631⟩]
def L37r11 : List AOp := [
  ⟨(some 4), .assign (.const (.int .i64 1)), none, 0⟩]
def L37r7 : List AOp := [
  ⟨(some 21), .move (.tmp 5), none, 0⟩,
  ⟨(some 22), .binOp .sub 3 (.tmp 21) (.const (.int .i64 1)) 3, none, 0⟩,
  ⟨(some 5), .assign (.tmp 22), none, 0⟩]
def L37r12 : List AOp := [
  ⟨(some 4), .assign (.const (.int .i64 0)), none, 0⟩]
def L37 : LC := (.seq (.region L37r0) (.seq (.seq (.region L37r1) (.cond (.tmp 10) (.seq (.seq (.region L37r2) (.cond (.tmp 15) (.seq (.region L37r3) .ret) .skip)) (.seq (.region L37r4) .ret)) .skip)) (.seq (.seq (.region L37r5) (.block 0 (.loop (.seq (.seq (.region L37r6) (.cond (.tmp 20) .skip (.exit 0))) (.seq (.block 1 (.seq (.seq (.regionD L37r8) (.cond (.tmp 31) (.seq (.region L37r9) .ret) .skip)) (.seq (.regionD L37r10) (.cond (.tmp 40) (.seq (.region L37r11) .ret) .skip)))) (.region L37r7)))))) (.seq (.region L37r12) .ret))))
theorem nt37 : Tryd.f37.ntmps = 41 := by kernel_rfl
theorem rs37 : Tryd.f37.results.toList = [.tmp 4] := by kernel_rfl
theorem lite37 : Tryd.f37.body.map (lite okDraw) = some L37 := by kernel_rfl
def L38r0 : List AOp := [
  ⟨(some 2), .alloc 24, none, 0⟩,
  ⟨(some 3), .assign (.const .nilIface), none, 0⟩]
def L38r1 : List AOp := [
  ⟨(some 7), .move (.tmp 0), none, 0⟩,
  ⟨(some 8), .call { callee := .value (.func 56), args := #[.tmp 7], argTypes := #[38] }, none, 0⟩,
  ⟨(some 6), .move (.tmp 8), none, 0⟩,
  ⟨(some 9), .extract (.tmp 6) 0, none, 0⟩,
  ⟨(some 10), .extract (.tmp 6) 1, none, 0⟩,
  ⟨(some 4), .alloc 24, none, 0⟩,
  ⟨none, .store 24 (.tmp 4) (.tmp 9), none, 0⟩,
  ⟨(some 5), .assign (.tmp 10), none, 0⟩]
def L38r2 : List AOp := [
  ⟨(some 12), .move (.tmp 5), none, 0⟩,
  ⟨(some 13), .binOp .neq 40 (.tmp 12) (.const .nilIface) 40, none, 0⟩,
  ⟨(some 11), .assign (.tmp 13), none, 0⟩]
def L38r3 : List AOp := [
  ⟨(some 14), .build 24 #[], none, 0⟩,
  ⟨(some 15), .move (.tmp 5), none, 0⟩,
  ⟨none, .store 24 (.tmp 2) (.tmp 14), none, 0⟩,
  ⟨(some 3), .assign (.tmp 15), none, 0⟩]
def L38r4 : List AOp := [
  ⟨(some 17), .load 24 (.tmp 4), none, 0⟩,
  ⟨(some 18), .build 24 #[], none, 0⟩,
  ⟨(some 19), .binOp .eql 24 (.tmp 17) (.tmp 18) 24, none, 0⟩,
  ⟨(some 20), .move (.tmp 19), none, 0⟩,
  ⟨(some 21), .load 24 (.tmp 4), (some (20, false)), 0⟩,
  ⟨(some 22), .fieldAddr 52 (.global 1) 0, (some (20, false)), 0⟩,
  ⟨(some 23), .load 24 (.tmp 22), (some (20, false)), 0⟩,
  ⟨(some 24), .call { callee := .value (.func 57), args := #[.tmp 21, .tmp 23], argTypes := #[24, 24] }, (some (20, false)), 0⟩,
  ⟨(some 25), .binOp .eql 22 (.tmp 24) (.const (.int .u64 0)) 22, (some (20, false)), 0⟩,
  ⟨(some 26), .pick (.tmp 20) (.const (.bool true)) (.tmp 25), none, 0⟩,
  ⟨(some 16), .assign (.tmp 26), none, 0⟩]
def L38r5 : List AOp := [
  ⟨(some 27), .build 24 #[], none, 0⟩,
  ⟨(some 28), .makeInterface 43 (.const (.int .i64 3)), none, 0⟩,
  ⟨none, .store 24 (.tmp 2) (.tmp 27), none, 0⟩,
  ⟨(some 3), .assign (.tmp 28), none, 0⟩]
def L38r6 : List AOp := [
  ⟨(some 29), .load 24 (.tmp 4), none, 0⟩,
  ⟨none, .store 24 (.tmp 2) (.tmp 29), none, 0⟩,
  ⟨(some 3), .assign (.const .nilIface), none, 0⟩]
def L38 : LC := (.seq (.region L38r0) (.seq (.region L38r1) (.seq (.block 0 (.seq (.region L38r2) (.cond (.tmp 11) (.seq (.region L38r3) .ret) (.seq (.region L38r4) (.cond (.tmp 16) (.seq (.region L38r5) .ret) .skip))))) (.seq (.region L38r6) .ret))))
theorem nt38 : Tryd.f38.ntmps = 30 := by kernel_rfl
theorem rs38 : Tryd.f38.results.toList = [.cell 2 24, .tmp 3] := by kernel_rfl
theorem lite38 : Tryd.f38.body.map (lite okDraw) = some L38 := by kernel_rfl
def L39r0 : List AOp := [
  ⟨(some 2), .alloc 24, none, 0⟩,
  ⟨(some 3), .assign (.const .nilIface), none, 0⟩]
def L39r1 : List AOp := [
  ⟨(some 7), .move (.tmp 0), none, 0⟩,
  ⟨(some 8), .call { callee := .value (.func 56), args := #[.tmp 7], argTypes := #[38] }, none, 0⟩,
  ⟨(some 6), .move (.tmp 8), none, 0⟩,
  ⟨(some 9), .extract (.tmp 6) 0, none, 0⟩,
  ⟨(some 10), .extract (.tmp 6) 1, none, 0⟩,
  ⟨(some 4), .alloc 24, none, 0⟩,
  ⟨none, .store 24 (.tmp 4) (.tmp 9), none, 0⟩,
  ⟨(some 5), .assign (.tmp 10), none, 0⟩]
def L39r2 : List AOp := [
  ⟨(some 11), .move (.tmp 5), none, 0⟩,
  ⟨(some 12), .binOp .neq 40 (.tmp 11) (.const .nilIface) 40, none, 0⟩]
def L39r3 : List AOp := [
  ⟨(some 13), .build 24 #[], none, 0⟩,
  ⟨(some 14), .move (.tmp 5), none, 0⟩,
  ⟨none, .store 24 (.tmp 2) (.tmp 13), none, 0⟩,
  ⟨(some 3), .assign (.tmp 14), none, 0⟩]
def L39r4 : List AOp := [
  ⟨(some 15), .load 24 (.tmp 4), none, 0⟩,
  ⟨(some 16), .call { callee := .value (.func 23), args := #[.tmp 15], argTypes := #[24] }, none, 0⟩,
  ⟨none, .store 24 (.tmp 2) (.tmp 16), none, 0⟩,
  ⟨(some 3), .assign (.const .nilIface), none, 0⟩]
def L39 : LC := (.seq (.region L39r0) (.seq (.region L39r1) (.seq (.seq (.region L39r2) (.cond (.tmp 12) (.seq (.region L39r3) .ret) .skip)) (.seq (.region L39r4) .ret))))
theorem nt39 : Tryd.f39.ntmps = 17 := by kernel_rfl
theorem rs39 : Tryd.f39.results.toList = [.cell 2 24, .tmp 3] := by kernel_rfl
theorem lite39 : Tryd.f39.body.map (lite okDraw) = some L39 := by kernel_rfl
def L48r0 : List AOp := [
  ⟨(some 2), .alloc 23, none, 0⟩]
def L48r1 : List AOp := [
  ⟨(some 3), .alloc 23, none, 0⟩]
def L48r2 : List AOp := [
  ⟨(some 4), .assign (.const (.int .i64 0)), none, 0⟩]
def L48r3 : List AOp := [
  ⟨(some 5), .move (.tmp 4), none, 0⟩,
  ⟨(some 6), .binOp .lss 3 (.tmp 5) (.const (.int .i64 12)) 3, none, 0⟩,
  ⟨(some 7), .move (.tmp 6), none, 0⟩,
  ⟨(some 8), .move (.tmp 4), (some (7, true)), 0⟩,
  ⟨(some 9), .move (.tmp 0), (some (7, true)), 0⟩,
  ⟨(some 10), .call { callee := .builtin .len, args := #[.tmp 9], argTypes := #[28] }, (some (7, true)), 0⟩,
  ⟨(some 11), .binOp .lss 3 (.tmp 8) (.tmp 10) 3, (some (7, true)), 0⟩,
  ⟨(some 12), .pick (.tmp 7) (.tmp 11) (.const (.bool false)), none, 0⟩]
def L48r5 : List AOp := [
  ⟨(some 15), .move (.tmp 4), none, 0⟩,
  ⟨(some 16), .binOp .rem 3 (.tmp 15) (.const (.int .i64 2)) 3, none, 0⟩,
  ⟨(some 17), .binOp .eql 3 (.tmp 16) (.const (.int .i64 0)) 3, none, 0⟩]
def L48r6 : List AOp := [
  ⟨(some 18), .move (.tmp 4), none, 0⟩,
  ⟨(some 19), .binOp .quo 3 (.tmp 18) (.const (.int .i64 2)) 3, none, 0⟩,
  ⟨(some 20), .move (.tmp 0), none, 0⟩,
  ⟨(some 21), .move (.tmp 4), none, 0⟩,
  ⟨(some 22), .indexAddr 28 (.tmp 20) (.tmp 21), none, 0⟩,
  ⟨(some 23), .load 22 (.tmp 22), none, 0⟩,
  ⟨(some 24), .indexAddr 23 (.tmp 3) (.tmp 19), none, 0⟩,
  ⟨none, .store 22 (.tmp 24) (.tmp 23), none, 0⟩]
def L48r7 : List AOp := [
  ⟨(some 25), .move (.tmp 4), none, 0⟩,
  ⟨(some 26), .binOp .quo 3 (.tmp 25) (.const (.int .i64 2)) 3, none, 1⟩,
  ⟨(some 27), .move (.tmp 4), none, 0⟩,
  ⟨(some 28), .binOp .quo 3 (.tmp 27) (.const (.int .i64 2)) 3, none, 4⟩,
  ⟨(some 29), .indexAddr 23 (.tmp 3) (.tmp 28), none, 12⟩,
  ⟨(some 30), .load 22 (.tmp 29), none, 28⟩,
  ⟨(some 31), .move (.tmp 0), none, 0⟩,
  ⟨(some 32), .move (.tmp 4), none, 0⟩,
  ⟨(some 33), .indexAddr 28 (.tmp 31) (.tmp 32), none, 192⟩,
  ⟨(some 34), .load 22 (.tmp 33), none, 448⟩,
  ⟨(some 35), .binOp .mul 22 (.tmp 34) (.const (.int .u64 4294967296)) 22, none, 960⟩,
  ⟨(some 36), .binOp .add 22 (.tmp 30) (.tmp 35) 22, none, 2044⟩,
  ⟨(some 37), .indexAddr 23 (.tmp 3) (.tmp 26), none, 1267650600228229401496703209471⟩,
  ⟨none, .store 22 (.tmp 37) (.tmp 36), none, 1267650600228229401496703213567⟩]
def L48r4 : List AOp := [
  ⟨(some 13), .move (.tmp 4), none, 0⟩,
  ⟨(some 14), .binOp .add 3 (.tmp 13) (.const (.int .i64 1)) 3, none, 0⟩,
  ⟨(some 4), .assign (.tmp 14), none, 0⟩]
def L48r8 : List AOp := [
  ⟨(some 38), .load 23 (.tmp 3), none, 0⟩,
  ⟨none, .store 23 (.tmp 2) (.tmp 38), none, 0⟩]
def L48 : LC := (.seq (.region L48r0) (.seq (.region L48r1) (.seq (.seq (.region L48r2) (.block 0 (.loop (.seq (.seq (.region L48r3) (.cond (.tmp 12) .skip (.exit 0))) (.seq (.block 1 (.seq (.region L48r5) (.cond (.tmp 17) (.region L48r6) (.regionD L48r7)))) (.region L48r4)))))) (.seq (.region L48r8) .ret))))
theorem nt48 : Tryd.f48.ntmps = 39 := by kernel_rfl
theorem rs48 : Tryd.f48.results.toList = [.cell 2 23] := by kernel_rfl
theorem lite48 : Tryd.f48.body.map (lite okDraw) = some L48 := by kernel_rfl
def L49r0 : List AOp := [
  ⟨(some 3), .box 24 (.tmp 0), none, 0⟩,
  ⟨(some 4), .box 24 (.tmp 1), none, 0⟩,
  ⟨(some 5), .box 52 (.tmp 2), none, 0⟩,
  ⟨(some 6), .alloc 24, none, 0⟩]
def L49r1 : List AOp := [
  ⟨(some 10), .load 24 (.tmp 3), none, 0⟩,
  ⟨(some 11), .load 52 (.tmp 5), none, 0⟩,
  ⟨(some 12), .call { callee := .value (.func 68), args := #[.tmp 10, .tmp 11], argTypes := #[24, 52] }, none, 3⟩,
  ⟨(some 13), .load 24 (.tmp 4), none, 0⟩,
  ⟨(some 14), .load 52 (.tmp 5), none, 0⟩,
  ⟨(some 15), .call { callee := .value (.func 68), args := #[.tmp 13, .tmp 14], argTypes := #[24, 52] }, none, 31⟩,
  ⟨(some 16), .call { callee := .value (.func 62), args := #[.tmp 12, .tmp 15], argTypes := #[24, 24] }, none, 63⟩,
  ⟨(some 9), .move (.tmp 16), none, 127⟩,
  ⟨(some 17), .extract (.tmp 9) 0, none, 255⟩,
  ⟨(some 18), .extract (.tmp 9) 1, none, 255⟩,
  ⟨(some 7), .alloc 24, none, 0⟩,
  ⟨none, .store 24 (.tmp 7) (.tmp 17), none, 1535⟩,
  ⟨(some 8), .assign (.tmp 18), none, 1267650600228229401496703209471⟩]
def L49r2 : List AOp := [
  ⟨(some 19), .load 24 (.tmp 7), none, 0⟩,
  ⟨(some 20), .move (.tmp 8), none, 0⟩,
  ⟨(some 21), .fieldAddr 52 (.tmp 5) 0, none, 0⟩,
  ⟨(some 22), .load 24 (.tmp 21), none, 0⟩,
  ⟨(some 23), .call { callee := .value (.func 69), args := #[.tmp 19, .tmp 20, .tmp 22], argTypes := #[24, 22, 24] }, none, 0⟩,
  ⟨none, .store 24 (.tmp 6) (.tmp 23), none, 0⟩]
def L49 : LC := (.seq (.region L49r0) (.seq (.regionD L49r1) (.seq (.region L49r2) .ret)))
theorem nt49 : Tryd.f49.ntmps = 24 := by kernel_rfl
theorem rs49 : Tryd.f49.results.toList = [.cell 6 24] := by kernel_rfl
theorem lite49 : Tryd.f49.body.map (lite okDraw) = some L49 := by kernel_rfl
def L50r0 : List AOp := [
  ⟨(some 4), .assign (.const (.slice none 0 0)), none, 0⟩]
def L50r1 : List AOp := [
  ⟨(some 8), .call { callee := .value (.func 70), args := #[], argTypes := #[] }, none, 0⟩,
  ⟨(some 9), .move (.tmp 1), none, 0⟩,
  ⟨(some 10), .call { callee := .value (.func 55), args := #[.tmp 8, .tmp 9], argTypes := #[28, 28] }, none, 0⟩,
  ⟨(some 5), .assign (.tmp 10), none, 0⟩]
def L50r2 : List AOp := [
  ⟨(some 12), .move (.tmp 0), none, 0⟩,
  ⟨(some 13), .call { callee := .value (.func 71), args := #[.tmp 12], argTypes := #[28] }, none, 0⟩,
  ⟨(some 11), .move (.tmp 13), none, 0⟩,
  ⟨(some 14), .extract (.tmp 11) 0, none, 0⟩,
  ⟨(some 15), .extract (.tmp 11) 1, none, 0⟩,
  ⟨(some 6), .assign (.tmp 14), none, 0⟩,
  ⟨(some 7), .assign (.tmp 15), none, 0⟩]
def L50r3 : List AOp := [
  ⟨(some 16), .move (.tmp 7), none, 0⟩,
  ⟨(some 17), .call { callee := .builtin .len, args := #[.tmp 16], argTypes := #[28] }, none, 0⟩,
  ⟨(some 18), .binOp .gtr 3 (.tmp 17) (.const (.int .i64 0)) 3, none, 0⟩]
def L50r4 : List AOp := [
  ⟨(some 20), .move (.tmp 6), none, 0⟩,
  ⟨(some 21), .move (.tmp 7), none, 0⟩,
  ⟨(some 22), .move (.tmp 5), none, 0⟩,
  ⟨(some 23), .call { callee := .value (.func 59), args := #[.tmp 21, .tmp 22], argTypes := #[28, 28] }, none, 0⟩,
  ⟨(some 24), .call { callee := .value (.func 27), args := #[.tmp 20, .tmp 23], argTypes := #[28, 28] }, none, 0⟩,
  ⟨(some 25), .call { callee := .value (.func 71), args := #[.tmp 24], argTypes := #[28] }, none, 0⟩,
  ⟨(some 19), .move (.tmp 25), none, 0⟩,
  ⟨(some 26), .extract (.tmp 19) 0, none, 0⟩,
  ⟨(some 27), .extract (.tmp 19) 1, none, 0⟩,
  ⟨(some 6), .assign (.tmp 26), none, 0⟩,
  ⟨(some 7), .assign (.tmp 27), none, 0⟩]
def L50r5 : List AOp := [
  ⟨(some 28), .move (.tmp 6), none, 0⟩,
  ⟨(some 29), .move (.tmp 1), none, 0⟩,
  ⟨(some 30), .call { callee := .value (.func 37), args := #[.tmp 28, .tmp 29], argTypes := #[28, 28] }, none, 0⟩,
  ⟨(some 31), .binOp .geq 3 (.tmp 30) (.const (.int .i64 0)) 3, none, 0⟩]
def L50r6 : List AOp := [
  ⟨(some 32), .move (.tmp 6), none, 0⟩,
  ⟨(some 33), .move (.tmp 1), none, 0⟩,
  ⟨(some 34), .call { callee := .value (.func 55), args := #[.tmp 32, .tmp 33], argTypes := #[28, 28] }, none, 0⟩,
  ⟨(some 6), .assign (.tmp 34), none, 0⟩]
def L50r7 : List AOp := [
  ⟨(some 35), .move (.tmp 6), none, 0⟩,
  ⟨(some 4), .assign (.tmp 35), none, 0⟩]
def L50 : LC := (.seq (.region L50r0) (.seq (.region L50r1) (.seq (.region L50r2) (.seq (.block 0 (.loop (.seq (.seq (.region L50r3) (.cond (.tmp 18) .skip (.exit 0))) (.block 1 (.region L50r4))))) (.seq (.block 2 (.loop (.seq (.seq (.region L50r5) (.cond (.tmp 31) .skip (.exit 2))) (.block 3 (.region L50r6))))) (.seq (.region L50r7) .ret))))))
theorem nt50 : Tryd.f50.ntmps = 36 := by kernel_rfl
theorem rs50 : Tryd.f50.results.toList = [.tmp 4] := by kernel_rfl
theorem lite50 : Tryd.f50.body.map (lite okDraw) = some L50 := by kernel_rfl
def L52r0 : List AOp := [
  ⟨(some 4), .assign (.const (.int .u64 0)), none, 0⟩]
def L52r1 : List AOp := [
  ⟨(some 5), .move (.tmp 1), none, 0⟩,
  ⟨(some 6), .move (.tmp 0), none, 0⟩,
  ⟨(some 7), .call { callee := .builtin .len, args := #[.tmp 6], argTypes := #[28] }, none, 0⟩,
  ⟨(some 8), .binOp .lss 3 (.tmp 5) (.tmp 7) 3, none, 0⟩]
def L52r2 : List AOp := [
  ⟨(some 9), .move (.tmp 0), none, 0⟩,
  ⟨(some 10), .move (.tmp 1), none, 0⟩,
  ⟨(some 11), .indexAddr 28 (.tmp 9) (.tmp 10), none, 0⟩,
  ⟨(some 12), .load 22 (.tmp 11), none, 0⟩,
  ⟨(some 4), .assign (.tmp 12), none, 0⟩]
def L52r3 : List AOp := [
  ⟨(some 4), .assign (.const (.int .u64 0)), none, 0⟩]
def L52 : LC := (.seq (.region L52r0) (.seq (.seq (.region L52r1) (.cond (.tmp 8) (.seq (.region L52r2) .ret) .skip)) (.seq (.region L52r3) .ret)))
theorem nt52 : Tryd.f52.ntmps = 13 := by kernel_rfl
theorem rs52 : Tryd.f52.results.toList = [.tmp 4] := by kernel_rfl
theorem lite52 : Tryd.f52.body.map (lite okDraw) = some L52 := by kernel_rfl
def L53r0 : List AOp := [
  ⟨(some 2), .assign (.const (.slice none 0 0)), none, 0⟩]
def L53r1 : List AOp := [
  ⟨(some 4), .move (.tmp 0), none, 0⟩,
  ⟨(some 5), .call { callee := .builtin .len, args := #[.tmp 4], argTypes := #[28] }, none, 0⟩,
  ⟨(some 3), .assign (.tmp 5), none, 0⟩]
def L53r2 : List AOp := [
  ⟨(some 6), .move (.tmp 3), none, 0⟩,
  ⟨(some 7), .binOp .gtr 3 (.tmp 6) (.const (.int .i64 0)) 3, none, 0⟩,
  ⟨(some 8), .move (.tmp 7), none, 0⟩,
  ⟨(some 9), .move (.tmp 0), (some (8, true)), 0⟩,
  ⟨(some 10), .move (.tmp 3), (some (8, true)), 0⟩,
  ⟨(some 11), .binOp .sub 3 (.tmp 10) (.const (.int .i64 1)) 3, (some (8, true)), 0⟩,
  ⟨(some 12), .indexAddr 28 (.tmp 9) (.tmp 11), (some (8, true)), 0⟩,
  ⟨(some 13), .load 22 (.tmp 12), (some (8, true)), 0⟩,
  ⟨(some 14), .binOp .eql 22 (.tmp 13) (.const (.int .u64 0)) 22, (some (8, true)), 0⟩,
  ⟨(some 15), .pick (.tmp 8) (.tmp 14) (.const (.bool false)), none, 0⟩]
def L53r3 : List AOp := [
  ⟨(some 16), .move (.tmp 3), none, 0⟩,
  ⟨(some 17), .binOp .sub 3 (.tmp 16) (.const (.int .i64 1)) 3, none, 0⟩,
  ⟨(some 3), .assign (.tmp 17), none, 0⟩]
def L53r4 : List AOp := [
  ⟨(some 18), .move (.tmp 0), none, 0⟩,
  ⟨(some 19), .move (.tmp 3), none, 0⟩,
  ⟨(some 20), .slice 28 (.tmp 18) none (some (.tmp 19)) none, none, 0⟩,
  ⟨(some 2), .assign (.tmp 20), none, 0⟩]
def L53 : LC := (.seq (.region L53r0) (.seq (.region L53r1) (.seq (.block 0 (.loop (.seq (.seq (.region L53r2) (.cond (.tmp 15) .skip (.exit 0))) (.block 1 (.region L53r3))))) (.seq (.region L53r4) .ret))))
theorem nt53 : Tryd.f53.ntmps = 21 := by kernel_rfl
theorem rs53 : Tryd.f53.results.toList = [.tmp 2] := by kernel_rfl
theorem lite53 : Tryd.f53.body.map (lite okDraw) = some L53 := by kernel_rfl
def L55r0 : List AOp := [
  ⟨(some 4), .assign (.const (.slice none 0 0)), none, 0⟩]
def L55r1 : List AOp := [
  ⟨(some 5), .assign (.const (.slice none 0 0)), none, 0⟩]
def L55r2 : List AOp := [
  ⟨(some 6), .assign (.const (.int .u64 0)), none, 0⟩]
def L55r3 : List AOp := [
  ⟨(some 7), .assign (.const (.int .i64 0)), none, 0⟩]
def L55r4 : List AOp := [
  ⟨(some 9), .move (.tmp 7), none, 0⟩,
  ⟨(some 10), .move (.tmp 0), none, 0⟩,
  ⟨(some 11), .call { callee := .builtin .len, args := #[.tmp 10], argTypes := #[28] }, none, 0⟩,
  ⟨(some 12), .binOp .lss 3 (.tmp 9) (.tmp 11) 3, none, 0⟩]
def L55r6 : List AOp := [
  ⟨(some 15), .move (.tmp 0), none, 0⟩,
  ⟨(some 16), .move (.tmp 7), none, 0⟩,
  ⟨(some 17), .call { callee := .value (.func 52), args := #[.tmp 15, .tmp 16], argTypes := #[28, 3] }, none, 0⟩,
  ⟨(some 18), .binOp .add 22 (.tmp 17) (.const (.int .u64 4294967296)) 22, none, 0⟩,
  ⟨(some 19), .move (.tmp 1), none, 0⟩,
  ⟨(some 20), .move (.tmp 7), none, 0⟩,
  ⟨(some 21), .call { callee := .value (.func 52), args := #[.tmp 19, .tmp 20], argTypes := #[28, 3] }, none, 0⟩,
  ⟨(some 22), .binOp .sub 22 (.tmp 18) (.tmp 21) 22, none, 0⟩,
  ⟨(some 23), .move (.tmp 6), none, 0⟩,
  ⟨(some 24), .binOp .sub 22 (.tmp 22) (.tmp 23) 22, none, 0⟩,
  ⟨(some 8), .assign (.tmp 24), none, 0⟩]
def L55r7 : List AOp := [
  ⟨(some 25), .move (.tmp 5), none, 0⟩,
  ⟨(some 26), .move (.tmp 8), none, 0⟩,
  ⟨(some 27), .binOp .rem 22 (.tmp 26) (.const (.int .u64 4294967296)) 22, none, 0⟩,
  ⟨(some 28), .buildSlice 28 1 #[(0, .tmp 27)], none, 0⟩,
  ⟨(some 29), .call { callee := .builtin .append, args := #[.tmp 25, .tmp 28], argTypes := #[28, 28] }, none, 0⟩,
  ⟨(some 5), .assign (.tmp 29), none, 0⟩]
def L55r8 : List AOp := [
  ⟨(some 30), .move (.tmp 8), none, 0⟩,
  ⟨(some 31), .binOp .quo 22 (.tmp 30) (.const (.int .u64 4294967296)) 22, none, 0⟩,
  ⟨(some 32), .binOp .sub 22 (.const (.int .u64 1)) (.tmp 31) 22, none, 0⟩,
  ⟨(some 6), .assign (.tmp 32), none, 0⟩]
def L55r5 : List AOp := [
  ⟨(some 13), .move (.tmp 7), none, 0⟩,
  ⟨(some 14), .binOp .add 3 (.tmp 13) (.const (.int .i64 1)) 3, none, 0⟩,
  ⟨(some 7), .assign (.tmp 14), none, 0⟩]
def L55r9 : List AOp := [
  ⟨(some 33), .move (.tmp 5), none, 0⟩,
  ⟨(some 34), .call { callee := .value (.func 53), args := #[.tmp 33], argTypes := #[28] }, none, 0⟩,
  ⟨(some 4), .assign (.tmp 34), none, 0⟩]
def L55 : LC := (.seq (.region L55r0) (.seq (.region L55r1) (.seq (.region L55r2) (.seq (.seq (.region L55r3) (.block 0 (.loop (.seq (.seq (.region L55r4) (.cond (.tmp 12) .skip (.exit 0))) (.seq (.block 1 (.seq (.region L55r6) (.seq (.region L55r7) (.region L55r8)))) (.region L55r5)))))) (.seq (.region L55r9) .ret)))))
theorem nt55 : Tryd.f55.ntmps = 35 := by kernel_rfl
theorem rs55 : Tryd.f55.results.toList = [.tmp 4] := by kernel_rfl
theorem lite55 : Tryd.f55.body.map (lite okDraw) = some L55 := by kernel_rfl
def L56r0 : List AOp := [
  ⟨(some 2), .alloc 24, none, 0⟩,
  ⟨(some 3), .assign (.const .nilIface), none, 0⟩]
def L56r1 : List AOp := [
  ⟨(some 4), .alloc 24, none, 0⟩]
def L56r2 : List AOp := [
  ⟨(some 7), .move (.tmp 0), none, 0⟩,
  ⟨(some 8), .call { callee := .builtin .len, args := #[.tmp 7], argTypes := #[38] }, none, 0⟩,
  ⟨(some 9), .binOp .lss 3 (.tmp 8) (.const (.int .i64 48)) 3, none, 0⟩,
  ⟨(some 6), .assign (.tmp 9), none, 0⟩]
def L56r3 : List AOp := [
  ⟨(some 10), .load 24 (.tmp 4), none, 0⟩,
  ⟨(some 11), .makeInterface 43 (.const (.int .i64 6)), none, 0⟩,
  ⟨none, .store 24 (.tmp 2) (.tmp 10), none, 0⟩,
  ⟨(some 3), .assign (.tmp 11), none, 0⟩]
def L56r4 : List AOp := [
  ⟨(some 13), .move (.tmp 0), none, 0⟩,
  ⟨(some 14), .call { callee := .builtin .len, args := #[.tmp 13], argTypes := #[38] }, none, 0⟩,
  ⟨(some 15), .binOp .gtr 3 (.tmp 14) (.const (.int .i64 48)) 3, none, 0⟩,
  ⟨(some 12), .assign (.tmp 15), none, 0⟩]
def L56r5 : List AOp := [
  ⟨(some 16), .load 24 (.tmp 4), none, 0⟩,
  ⟨(some 17), .makeInterface 43 (.const (.int .i64 8)), none, 0⟩,
  ⟨none, .store 24 (.tmp 2) (.tmp 16), none, 0⟩,
  ⟨(some 3), .assign (.tmp 17), none, 0⟩]
def L56r6 : List AOp := [
  ⟨(some 18), .move (.const (.int .i64 0)), none, 0⟩]
def L56r7 : List AOp := [
  ⟨(some 19), .binOp .lss 3 (.tmp 18) (.const (.int .i64 48)) 3, none, 0⟩]
def L56r8 : List AOp := [
  ⟨(some 20), .move (.tmp 18), none, 0⟩,
  ⟨(some 5), .assign (.tmp 20), none, 0⟩]
def L56r9 : List AOp := [
  ⟨(some 21), .move (.tmp 5), none, 0⟩,
  ⟨(some 22), .binOp .quo 3 (.tmp 21) (.const (.int .i64 8)) 3, none, 1⟩,
  ⟨(some 23), .indexAddr 24 (.tmp 4) (.tmp 22), none, 3⟩,
  ⟨(some 24), .load 22 (.tmp 23), none, 7⟩,
  ⟨(some 25), .move (.tmp 0), none, 0⟩,
  ⟨(some 26), .move (.tmp 5), none, 0⟩,
  ⟨(some 27), .binOp .sub 3 (.const (.int .i64 47)) (.tmp 26) 3, none, 32⟩,
  ⟨(some 28), .indexAddr 38 (.tmp 25) (.tmp 27), none, 112⟩,
  ⟨(some 29), .load 5 (.tmp 28), none, 240⟩,
  ⟨(some 30), .convert 5 22 (.tmp 29), none, 496⟩,
  ⟨(some 31), .move (.tmp 5), none, 0⟩,
  ⟨(some 32), .binOp .rem 3 (.tmp 31) (.const (.int .i64 8)) 3, none, 1024⟩,
  ⟨(some 33), .binOp .mul 3 (.const (.int .i64 8)) (.tmp 32) 3, none, 3072⟩,
  ⟨(some 34), .binOp .shl 22 (.tmp 30) (.tmp 33) 3, none, 8176⟩,
  ⟨(some 35), .binOp .or 22 (.tmp 24) (.tmp 34) 22, none, 1267650600228229401496703221759⟩,
  ⟨(some 36), .indexAddr 24 (.tmp 4) (.tmp 22), none, 1267650600228229401496703238143⟩,
  ⟨none, .store 22 (.tmp 36) (.tmp 35), none, 1267650600228229401496703270911⟩]
def L56r10 : List AOp := [
  ⟨(some 37), .binOp .add 3 (.tmp 18) (.const (.int .i64 1)) 3, none, 0⟩,
  ⟨(some 18), .move (.tmp 37), none, 0⟩]
def L56r11 : List AOp := [
  ⟨(some 38), .load 24 (.tmp 4), none, 0⟩,
  ⟨none, .store 24 (.tmp 2) (.tmp 38), none, 0⟩,
  ⟨(some 3), .assign (.const .nilIface), none, 0⟩]
def L56 : LC := (.seq (.region L56r0) (.seq (.region L56r1) (.seq (.block 0 (.seq (.region L56r2) (.cond (.tmp 6) (.seq (.region L56r3) .ret) (.seq (.region L56r4) (.cond (.tmp 12) (.seq (.region L56r5) .ret) .skip))))) (.seq (.seq (.region L56r6) (.block 1 (.loop (.seq (.region L56r7) (.seq (.cond (.tmp 19) .skip (.exit 1)) (.seq (.block 2 (.seq (.region L56r8) (.regionD L56r9))) (.region L56r10))))))) (.seq (.region L56r11) .ret)))))
theorem nt56 : Tryd.f56.ntmps = 39 := by kernel_rfl
theorem rs56 : Tryd.f56.results.toList = [.cell 2 24, .tmp 3] := by kernel_rfl
theorem lite56 : Tryd.f56.body.map (lite okDraw) = some L56 := by kernel_rfl
def L57r0 : List AOp := [
  ⟨(some 2), .box 24 (.tmp 0), none, 0⟩,
  ⟨(some 3), .box 24 (.tmp 1), none, 0⟩,
  ⟨(some 4), .assign (.const (.int .u64 0)), none, 0⟩]
def L57r1 : List AOp := [
  ⟨(some 8), .load 24 (.tmp 2), none, 0⟩,
  ⟨(some 9), .load 24 (.tmp 3), none, 0⟩,
  ⟨(some 10), .call { callee := .value (.func 60), args := #[.tmp 8, .tmp 9], argTypes := #[24, 24] }, none, 0⟩,
  ⟨(some 7), .move (.tmp 10), none, 0⟩,
  ⟨(some 11), .extract (.tmp 7) 0, none, 0⟩,
  ⟨(some 12), .extract (.tmp 7) 1, none, 0⟩,
  ⟨(some 5), .alloc 24, none, 0⟩,
  ⟨none, .store 24 (.tmp 5) (.tmp 11), none, 0⟩,
  ⟨(some 6), .assign (.tmp 12), none, 0⟩]
def L57r2 : List AOp := [
  ⟨(some 13), .move (.tmp 6), none, 0⟩,
  ⟨(some 4), .assign (.tmp 13), none, 0⟩]
def L57 : LC := (.seq (.region L57r0) (.seq (.region L57r1) (.seq (.region L57r2) .ret)))
theorem nt57 : Tryd.f57.ntmps = 14 := by kernel_rfl
theorem rs57 : Tryd.f57.results.toList = [.tmp 4] := by kernel_rfl
theorem lite57 : Tryd.f57.body.map (lite okDraw) = some L57 := by kernel_rfl
def L59r0 : List AOp := [
  ⟨(some 4), .assign (.const (.slice none 0 0)), none, 0⟩]
def L59r1 : List AOp := [
  ⟨(some 10), .move (.tmp 0), none, 0⟩,
  ⟨(some 11), .call { callee := .builtin .len, args := #[.tmp 10], argTypes := #[28] }, none, 0⟩,
  ⟨(some 12), .move (.tmp 1), none, 0⟩,
  ⟨(some 13), .call { callee := .builtin .len, args := #[.tmp 12], argTypes := #[28] }, none, 0⟩,
  ⟨(some 14), .binOp .add 3 (.tmp 11) (.tmp 13) 3, none, 0⟩,
  ⟨(some 15), .binOp .add 3 (.tmp 14) (.const (.int .i64 1)) 3, none, 0⟩,
  ⟨(some 16), .makeSlice 28 (.tmp 15) (.tmp 15), none, 0⟩,
  ⟨(some 5), .assign (.tmp 16), none, 0⟩]
def L59r2 : List AOp := [
  ⟨(some 6), .assign (.const (.int .i64 0)), none, 0⟩]
def L59r3 : List AOp := [
  ⟨(some 17), .move (.tmp 6), none, 0⟩,
  ⟨(some 18), .move (.tmp 0), none, 0⟩,
  ⟨(some 19), .call { callee := .builtin .len, args := #[.tmp 18], argTypes := #[28] }, none, 0⟩,
  ⟨(some 20), .binOp .lss 3 (.tmp 17) (.tmp 19) 3, none, 0⟩]
def L59r5 : List AOp := [
  ⟨(some 7), .assign (.const (.int .u64 0)), none, 0⟩]
def L59r6 : List AOp := [
  ⟨(some 8), .assign (.const (.int .i64 0)), none, 0⟩]
def L59r7 : List AOp := [
  ⟨(some 23), .move (.tmp 8), none, 0⟩,
  ⟨(some 24), .move (.tmp 1), none, 0⟩,
  ⟨(some 25), .call { callee := .builtin .len, args := #[.tmp 24], argTypes := #[28] }, none, 0⟩,
  ⟨(some 26), .binOp .lss 3 (.tmp 23) (.tmp 25) 3, none, 0⟩,
  ⟨(some 27), .move (.tmp 26), none, 0⟩,
  ⟨(some 28), .move (.tmp 7), (some (27, false)), 0⟩,
  ⟨(some 29), .binOp .gtr 22 (.tmp 28) (.const (.int .u64 0)) 22, (some (27, false)), 0⟩,
  ⟨(some 30), .pick (.tmp 27) (.const (.bool true)) (.tmp 29), none, 0⟩]
def L59r9 : List AOp := [
  ⟨(some 33), .move (.tmp 5), none, 0⟩,
  ⟨(some 34), .move (.tmp 6), none, 0⟩,
  ⟨(some 35), .move (.tmp 8), none, 0⟩,
  ⟨(some 36), .binOp .add 3 (.tmp 34) (.tmp 35) 3, none, 6⟩,
  ⟨(some 37), .indexAddr 28 (.tmp 33) (.tmp 36), none, 15⟩,
  ⟨(some 38), .load 22 (.tmp 37), none, 31⟩,
  ⟨(some 39), .move (.tmp 0), none, 0⟩,
  ⟨(some 40), .move (.tmp 6), none, 0⟩,
  ⟨(some 41), .indexAddr 28 (.tmp 39) (.tmp 40), none, 192⟩,
  ⟨(some 42), .load 22 (.tmp 41), none, 448⟩,
  ⟨(some 43), .move (.tmp 1), none, 0⟩,
  ⟨(some 44), .move (.tmp 8), none, 0⟩,
  ⟨(some 45), .call { callee := .value (.func 52), args := #[.tmp 43, .tmp 44], argTypes := #[28, 3] }, none, 3072⟩,
  ⟨(some 46), .binOp .mul 22 (.tmp 42) (.tmp 45) 22, none, 8128⟩,
  ⟨(some 47), .binOp .add 22 (.tmp 38) (.tmp 46) 22, none, 16383⟩,
  ⟨(some 48), .move (.tmp 7), none, 0⟩,
  ⟨(some 49), .binOp .add 22 (.tmp 47) (.tmp 48) 22, none, 1267650600228229401496703270911⟩,
  ⟨(some 9), .assign (.tmp 49), none, 1267650600228229401496703336447⟩]
def L59r10 : List AOp := [
  ⟨(some 50), .move (.tmp 5), none, 0⟩,
  ⟨(some 51), .move (.tmp 6), none, 0⟩,
  ⟨(some 52), .move (.tmp 8), none, 0⟩,
  ⟨(some 53), .binOp .add 3 (.tmp 51) (.tmp 52) 3, none, 0⟩,
  ⟨(some 54), .move (.tmp 9), none, 0⟩,
  ⟨(some 55), .binOp .rem 22 (.tmp 54) (.const (.int .u64 4294967296)) 22, none, 0⟩,
  ⟨(some 56), .indexAddr 28 (.tmp 50) (.tmp 53), none, 0⟩,
  ⟨none, .store 22 (.tmp 56) (.tmp 55), none, 0⟩]
def L59r11 : List AOp := [
  ⟨(some 57), .move (.tmp 9), none, 0⟩,
  ⟨(some 58), .binOp .quo 22 (.tmp 57) (.const (.int .u64 4294967296)) 22, none, 0⟩,
  ⟨(some 7), .assign (.tmp 58), none, 0⟩]
def L59r8 : List AOp := [
  ⟨(some 31), .move (.tmp 8), none, 0⟩,
  ⟨(some 32), .binOp .add 3 (.tmp 31) (.const (.int .i64 1)) 3, none, 0⟩,
  ⟨(some 8), .assign (.tmp 32), none, 0⟩]
def L59r4 : List AOp := [
  ⟨(some 21), .move (.tmp 6), none, 0⟩,
  ⟨(some 22), .binOp .add 3 (.tmp 21) (.const (.int .i64 1)) 3, none, 0⟩,
  ⟨(some 6), .assign (.tmp 22), none, 0⟩]
def L59r12 : List AOp := [
  ⟨(some 59), .move (.tmp 5), none, 0⟩,
  ⟨(some 60), .call { callee := .value (.func 53), args := #[.tmp 59], argTypes := #[28] }, none, 0⟩,
  ⟨(some 4), .assign (.tmp 60), none, 0⟩]
def L59 : LC := (.seq (.region L59r0) (.seq (.region L59r1) (.seq (.seq (.region L59r2) (.block 0 (.loop (.seq (.seq (.region L59r3) (.cond (.tmp 20) .skip (.exit 0))) (.seq (.block 1 (.seq (.region L59r5) (.seq (.region L59r6) (.block 2 (.loop (.seq (.seq (.region L59r7) (.cond (.tmp 30) .skip (.exit 2))) (.seq (.block 3 (.seq (.regionD L59r9) (.seq (.region L59r10) (.region L59r11)))) (.region L59r8)))))))) (.region L59r4)))))) (.seq (.region L59r12) .ret))))
theorem nt59 : Tryd.f59.ntmps = 61 := by kernel_rfl
theorem rs59 : Tryd.f59.results.toList = [.tmp 4] := by kernel_rfl
theorem lite59 : Tryd.f59.body.map (lite okDraw) = some L59 := by kernel_rfl
def L60r0 : List AOp := [
  ⟨(some 2), .box 24 (.tmp 0), none, 0⟩,
  ⟨(some 3), .box 24 (.tmp 1), none, 0⟩,
  ⟨(some 4), .alloc 24, none, 0⟩,
  ⟨(some 5), .assign (.const (.int .u64 0)), none, 0⟩]
def L60r1 : List AOp := [
  ⟨(some 6), .alloc 24, none, 0⟩]
def L60r2 : List AOp := [
  ⟨(some 7), .assign (.const (.int .u64 0)), none, 0⟩]
def L60r3 : List AOp := [
  ⟨(some 9), .move (.const (.int .i64 0)), none, 0⟩]
def L60r4 : List AOp := [
  ⟨(some 10), .binOp .lss 3 (.tmp 9) (.const (.int .i64 6)) 3, none, 0⟩]
def L60r5 : List AOp := [
  ⟨(some 11), .move (.tmp 9), none, 0⟩,
  ⟨(some 8), .assign (.tmp 11), none, 0⟩]
def L60r6 : List AOp := [
  ⟨(some 13), .move (.tmp 8), none, 0⟩,
  ⟨(some 14), .move (.tmp 8), none, 0⟩,
  ⟨(some 15), .indexAddr 24 (.tmp 2) (.tmp 14), none, 2⟩,
  ⟨(some 16), .load 22 (.tmp 15), none, 6⟩,
  ⟨(some 17), .move (.tmp 8), none, 0⟩,
  ⟨(some 18), .indexAddr 24 (.tmp 3) (.tmp 17), none, 16⟩,
  ⟨(some 19), .load 22 (.tmp 18), none, 48⟩,
  ⟨(some 20), .move (.tmp 7), none, 0⟩,
  ⟨(some 21), .call { callee := .value (.func 74), args := #[.tmp 16, .tmp 19, .tmp 20], argTypes := #[22, 22, 22] }, none, 254⟩,
  ⟨(some 12), .move (.tmp 21), none, 510⟩,
  ⟨(some 22), .extract (.tmp 12) 0, none, 1022⟩,
  ⟨(some 23), .extract (.tmp 12) 1, none, 1022⟩,
  ⟨(some 24), .indexAddr 24 (.tmp 6) (.tmp 13), none, 2047⟩,
  ⟨none, .store 22 (.tmp 24) (.tmp 22), none, 6143⟩,
  ⟨(some 7), .assign (.tmp 23), none, 1267650600228229401496703221759⟩]
def L60r7 : List AOp := [
  ⟨(some 25), .binOp .add 3 (.tmp 9) (.const (.int .i64 1)) 3, none, 0⟩,
  ⟨(some 9), .move (.tmp 25), none, 0⟩]
def L60r8 : List AOp := [
  ⟨(some 26), .load 24 (.tmp 6), none, 0⟩,
  ⟨(some 27), .move (.tmp 7), none, 0⟩,
  ⟨none, .store 24 (.tmp 4) (.tmp 26), none, 0⟩,
  ⟨(some 5), .assign (.tmp 27), none, 0⟩]
def L60 : LC := (.seq (.region L60r0) (.seq (.region L60r1) (.seq (.region L60r2) (.seq (.seq (.region L60r3) (.block 0 (.loop (.seq (.region L60r4) (.seq (.cond (.tmp 10) .skip (.exit 0)) (.seq (.block 1 (.seq (.region L60r5) (.regionD L60r6))) (.region L60r7))))))) (.seq (.region L60r8) .ret)))))
theorem nt60 : Tryd.f60.ntmps = 28 := by kernel_rfl
theorem rs60 : Tryd.f60.results.toList = [.cell 4 24, .tmp 5] := by kernel_rfl
theorem lite60 : Tryd.f60.body.map (lite okDraw) = some L60 := by kernel_rfl
def L62r0 : List AOp := [
  ⟨(some 2), .box 24 (.tmp 0), none, 0⟩,
  ⟨(some 3), .box 24 (.tmp 1), none, 0⟩,
  ⟨(some 4), .alloc 24, none, 0⟩,
  ⟨(some 5), .assign (.const (.int .u64 0)), none, 0⟩]
def L62r1 : List AOp := [
  ⟨(some 6), .alloc 24, none, 0⟩]
def L62r2 : List AOp := [
  ⟨(some 7), .assign (.const (.int .u64 0)), none, 0⟩]
def L62r3 : List AOp := [
  ⟨(some 9), .move (.const (.int .i64 0)), none, 0⟩]
def L62r4 : List AOp := [
  ⟨(some 10), .binOp .lss 3 (.tmp 9) (.const (.int .i64 6)) 3, none, 0⟩]
def L62r5 : List AOp := [
  ⟨(some 11), .move (.tmp 9), none, 0⟩,
  ⟨(some 8), .assign (.tmp 11), none, 0⟩]
def L62r6 : List AOp := [
  ⟨(some 13), .move (.tmp 8), none, 0⟩,
  ⟨(some 14), .move (.tmp 8), none, 0⟩,
  ⟨(some 15), .indexAddr 24 (.tmp 2) (.tmp 14), none, 2⟩,
  ⟨(some 16), .load 22 (.tmp 15), none, 6⟩,
  ⟨(some 17), .move (.tmp 8), none, 0⟩,
  ⟨(some 18), .indexAddr 24 (.tmp 3) (.tmp 17), none, 16⟩,
  ⟨(some 19), .load 22 (.tmp 18), none, 48⟩,
  ⟨(some 20), .move (.tmp 7), none, 0⟩,
  ⟨(some 21), .call { callee := .value (.func 75), args := #[.tmp 16, .tmp 19, .tmp 20], argTypes := #[22, 22, 22] }, none, 254⟩,
  ⟨(some 12), .move (.tmp 21), none, 510⟩,
  ⟨(some 22), .extract (.tmp 12) 0, none, 1022⟩,
  ⟨(some 23), .extract (.tmp 12) 1, none, 1022⟩,
  ⟨(some 24), .indexAddr 24 (.tmp 6) (.tmp 13), none, 2047⟩,
  ⟨none, .store 22 (.tmp 24) (.tmp 22), none, 6143⟩,
  ⟨(some 7), .assign (.tmp 23), none, 1267650600228229401496703221759⟩]
def L62r7 : List AOp := [
  ⟨(some 25), .binOp .add 3 (.tmp 9) (.const (.int .i64 1)) 3, none, 0⟩,
  ⟨(some 9), .move (.tmp 25), none, 0⟩]
def L62r8 : List AOp := [
  ⟨(some 26), .load 24 (.tmp 6), none, 0⟩,
  ⟨(some 27), .move (.tmp 7), none, 0⟩,
  ⟨none, .store 24 (.tmp 4) (.tmp 26), none, 0⟩,
  ⟨(some 5), .assign (.tmp 27), none, 0⟩]
def L62 : LC := (.seq (.region L62r0) (.seq (.region L62r1) (.seq (.region L62r2) (.seq (.seq (.region L62r3) (.block 0 (.loop (.seq (.region L62r4) (.seq (.cond (.tmp 10) .skip (.exit 0)) (.seq (.block 1 (.seq (.region L62r5) (.regionD L62r6))) (.region L62r7))))))) (.seq (.region L62r8) .ret)))))
theorem nt62 : Tryd.f62.ntmps = 28 := by kernel_rfl
theorem rs62 : Tryd.f62.results.toList = [.cell 4 24, .tmp 5] := by kernel_rfl
theorem lite62 : Tryd.f62.body.map (lite okDraw) = some L62 := by kernel_rfl
def L64r0 : List AOp := [
  ⟨(some 4), .box 24 (.tmp 1), none, 0⟩,
  ⟨(some 5), .box 24 (.tmp 2), none, 0⟩,
  ⟨(some 6), .alloc 24, none, 0⟩]
def L64r1 : List AOp := [
  ⟨(some 10), .move (.tmp 0), none, 0⟩,
  ⟨(some 11), .binOp .and 22 (.tmp 10) (.const (.int .u64 1)) 22, none, 0⟩,
  ⟨(some 12), .unOp .neg 22 (.tmp 11), none, 0⟩,
  ⟨(some 7), .assign (.tmp 12), none, 0⟩]
def L64r2 : List AOp := [
  ⟨(some 8), .alloc 24, none, 0⟩]
def L64r3 : List AOp := [
  ⟨(some 13), .move (.const (.int .i64 0)), none, 0⟩]
def L64r4 : List AOp := [
  ⟨(some 14), .binOp .lss 3 (.tmp 13) (.const (.int .i64 6)) 3, none, 0⟩]
def L64r5 : List AOp := [
  ⟨(some 15), .move (.tmp 13), none, 0⟩,
  ⟨(some 9), .assign (.tmp 15), none, 0⟩]
def L64r6 : List AOp := [
  ⟨(some 16), .move (.tmp 9), none, 0⟩,
  ⟨(some 17), .move (.tmp 9), none, 0⟩,
  ⟨(some 18), .indexAddr 24 (.tmp 4) (.tmp 17), none, 2⟩,
  ⟨(some 19), .load 22 (.tmp 18), none, 6⟩,
  ⟨(some 20), .move (.tmp 7), none, 0⟩,
  ⟨(some 21), .binOp .andNot 22 (.tmp 19) (.tmp 20) 22, none, 30⟩,
  ⟨(some 22), .move (.tmp 9), none, 0⟩,
  ⟨(some 23), .indexAddr 24 (.tmp 5) (.tmp 22), none, 64⟩,
  ⟨(some 24), .load 22 (.tmp 23), none, 192⟩,
  ⟨(some 25), .move (.tmp 7), none, 0⟩,
  ⟨(some 26), .binOp .and 22 (.tmp 24) (.tmp 25) 22, none, 960⟩,
  ⟨(some 27), .binOp .or 22 (.tmp 21) (.tmp 26) 22, none, 2046⟩,
  ⟨(some 28), .indexAddr 24 (.tmp 8) (.tmp 16), none, 1267650600228229401496703209471⟩,
  ⟨none, .store 22 (.tmp 28) (.tmp 27), none, 1267650600228229401496703213567⟩]
def L64r7 : List AOp := [
  ⟨(some 29), .binOp .add 3 (.tmp 13) (.const (.int .i64 1)) 3, none, 0⟩,
  ⟨(some 13), .move (.tmp 29), none, 0⟩]
def L64r8 : List AOp := [
  ⟨(some 30), .load 24 (.tmp 8), none, 0⟩,
  ⟨none, .store 24 (.tmp 6) (.tmp 30), none, 0⟩]
def L64 : LC := (.seq (.region L64r0) (.seq (.region L64r1) (.seq (.region L64r2) (.seq (.seq (.region L64r3) (.block 0 (.loop (.seq (.region L64r4) (.seq (.cond (.tmp 14) .skip (.exit 0)) (.seq (.block 1 (.seq (.region L64r5) (.regionD L64r6))) (.region L64r7))))))) (.seq (.region L64r8) .ret)))))
theorem nt64 : Tryd.f64.ntmps = 31 := by kernel_rfl
theorem rs64 : Tryd.f64.results.toList = [.cell 6 24] := by kernel_rfl
theorem lite64 : Tryd.f64.body.map (lite okDraw) = some L64 := by kernel_rfl
def L68r0 : List AOp := [
  ⟨(some 2), .box 24 (.tmp 0), none, 0⟩,
  ⟨(some 3), .box 52 (.tmp 1), none, 0⟩,
  ⟨(some 4), .alloc 24, none, 0⟩]
def L68r1 : List AOp := [
  ⟨(some 5), .load 24 (.tmp 2), none, 0⟩,
  ⟨(some 6), .fieldAddr 52 (.tmp 3) 0, none, 0⟩,
  ⟨(some 7), .load 24 (.tmp 6), none, 0⟩,
  ⟨(some 8), .call { callee := .value (.func 69), args := #[.tmp 5, .const (.int .u64 0), .tmp 7], argTypes := #[24, 22, 24] }, none, 0⟩,
  ⟨none, .store 24 (.tmp 4) (.tmp 8), none, 0⟩]
def L68 : LC := (.seq (.region L68r0) (.seq (.region L68r1) .ret))
theorem nt68 : Tryd.f68.ntmps = 9 := by kernel_rfl
theorem rs68 : Tryd.f68.results.toList = [.cell 4 24] := by kernel_rfl
theorem lite68 : Tryd.f68.body.map (lite okDraw) = some L68 := by kernel_rfl
def L69r0 : List AOp := [
  ⟨(some 3), .box 24 (.tmp 0), none, 0⟩,
  ⟨(some 5), .box 24 (.tmp 2), none, 0⟩,
  ⟨(some 6), .alloc 24, none, 0⟩]
def L69r1 : List AOp := [
  ⟨(some 10), .load 24 (.tmp 3), none, 0⟩,
  ⟨(some 11), .load 24 (.tmp 5), none, 0⟩,
  ⟨(some 12), .call { callee := .value (.func 60), args := #[.tmp 10, .tmp 11], argTypes := #[24, 24] }, none, 0⟩,
  ⟨(some 9), .move (.tmp 12), none, 0⟩,
  ⟨(some 13), .extract (.tmp 9) 0, none, 0⟩,
  ⟨(some 14), .extract (.tmp 9) 1, none, 0⟩,
  ⟨(some 7), .alloc 24, none, 0⟩,
  ⟨none, .store 24 (.tmp 7) (.tmp 13), none, 0⟩,
  ⟨(some 8), .assign (.tmp 14), none, 0⟩]
def L69r2 : List AOp := [
  ⟨(some 15), .move (.tmp 1), none, 0⟩,
  ⟨(some 16), .move (.tmp 8), none, 0⟩,
  ⟨(some 17), .binOp .xor 22 (.const (.int .u64 1)) (.tmp 16) 22, none, 0⟩,
  ⟨(some 18), .binOp .or 22 (.tmp 15) (.tmp 17) 22, none, 0⟩,
  ⟨(some 19), .load 24 (.tmp 3), none, 0⟩,
  ⟨(some 20), .load 24 (.tmp 7), none, 0⟩,
  ⟨(some 21), .call { callee := .value (.func 64), args := #[.tmp 18, .tmp 19, .tmp 20], argTypes := #[22, 24, 24] }, none, 0⟩,
  ⟨none, .store 24 (.tmp 6) (.tmp 21), none, 0⟩]
def L69 : LC := (.seq (.region L69r0) (.seq (.region L69r1) (.seq (.region L69r2) .ret)))
theorem nt69 : Tryd.f69.ntmps = 22 := by kernel_rfl
theorem rs69 : Tryd.f69.results.toList = [.cell 6 24] := by kernel_rfl
theorem lite69 : Tryd.f69.body.map (lite okDraw) = some L69 := by kernel_rfl
def L70r0 : List AOp := [
  ⟨(some 0), .assign (.const (.slice none 0 0)), none, 0⟩]
def L70r1 : List AOp := [
  ⟨(some 1), .buildSlice 28 13 #[(0, .const (.int .u64 0)), (1, .const (.int .u64 0)), (2, .const (.int .u64 0)), (3, .const (.int .u64 0)), (4, .const (.int .u64 0)), (5, .const (.int .u64 0)), (6, .const (.int .u64 0)), (7, .const (.int .u64 0)), (8, .const (.int .u64 0)), (9, .const (.int .u64 0)), (10, .const (.int .u64 0)), (11, .const (.int .u64 0)), (12, .const (.int .u64 1))], none, 0⟩,
  ⟨(some 0), .assign (.tmp 1), none, 0⟩]
def L70 : LC := (.seq (.region L70r0) (.seq (.region L70r1) .ret))
theorem nt70 : Tryd.f70.ntmps = 2 := by kernel_rfl
theorem rs70 : Tryd.f70.results.toList = [.tmp 0] := by kernel_rfl
theorem lite70 : Tryd.f70.body.map (lite okDraw) = some L70 := by kernel_rfl
def L71r0 : List AOp := [
  ⟨(some 2), .assign (.const (.slice none 0 0)), none, 0⟩,
  ⟨(some 3), .assign (.const (.slice none 0 0)), none, 0⟩]
def L71r1 : List AOp := [
  ⟨(some 4), .move (.tmp 0), none, 0⟩,
  ⟨(some 5), .call { callee := .builtin .len, args := #[.tmp 4], argTypes := #[28] }, none, 0⟩,
  ⟨(some 6), .binOp .leq 3 (.tmp 5) (.const (.int .i64 12)) 3, none, 0⟩]
def L71r2 : List AOp := [
  ⟨(some 7), .move (.tmp 0), none, 0⟩,
  ⟨(some 2), .assign (.tmp 7), none, 0⟩,
  ⟨(some 3), .assign (.const (.slice none 0 0)), none, 0⟩]
def L71r3 : List AOp := [
  ⟨(some 8), .buildSlice 28 0 #[], none, 0⟩,
  ⟨(some 9), .move (.tmp 0), none, 0⟩,
  ⟨(some 10), .slice 28 (.tmp 9) none (some (.const (.int .i64 12))) none, none, 2⟩,
  ⟨(some 11), .call { callee := .builtin .append, args := #[.tmp 8, .tmp 10], argTypes := #[28, 28] }, none, 7⟩,
  ⟨(some 12), .call { callee := .value (.func 53), args := #[.tmp 11], argTypes := #[28] }, none, 15⟩,
  ⟨(some 13), .buildSlice 28 0 #[], none, 0⟩,
  ⟨(some 14), .move (.tmp 0), none, 0⟩,
  ⟨(some 15), .slice 28 (.tmp 14) (some (.const (.int .i64 12))) none none, none, 64⟩,
  ⟨(some 16), .call { callee := .builtin .append, args := #[.tmp 13, .tmp 15], argTypes := #[28, 28] }, none, 1267650600228229401496703205631⟩,
  ⟨(some 2), .assign (.tmp 12), none, 1267650600228229401496703205887⟩,
  ⟨(some 3), .assign (.tmp 16), none, 1267650600228229401496703206399⟩]
def L71 : LC := (.seq (.region L71r0) (.seq (.seq (.region L71r1) (.cond (.tmp 6) (.seq (.region L71r2) .ret) .skip)) (.seq (.regionD L71r3) .ret)))
theorem nt71 : Tryd.f71.ntmps = 17 := by kernel_rfl
theorem rs71 : Tryd.f71.results.toList = [.tmp 2, .tmp 3] := by kernel_rfl
theorem lite71 : Tryd.f71.body.map (lite okDraw) = some L71 := by kernel_rfl
end Eng


namespace Eng
open Go Go.Proofs Go.ChangeShapes Go.WideShapes Go.ChangeAt Go.RowKit
def U6 (a : List Int) : Prop := a.length = 6 ∧ ∀ x ∈ a, 0 ≤ x ∧ x < 18446744073709551616
def U64 (n : Int) : Prop := 0 ≤ n ∧ n < 18446744073709551616
theorem U6.at {a : List Int} (h : U6 a) (j : Nat) : U64 (a.getD j 0) := by
  rcases Nat.lt_or_ge j a.length with hj | hj
  · rw [List.getD_eq_getElem?_getD, List.getElem?_eq_getElem hj, Option.getD_some]
    exact h.2 _ (List.getElem_mem hj)
  · rw [List.getD_eq_getElem?_getD, List.getElem?_eq_none hj]
    exact ⟨by decide, by decide⟩
theorem own : ownKnob Tryd.prog.godebug = none := by kernel_rfl
theorem laidOut : laidOutB Tryd.prog = true := by kernel_rfl
end Eng


namespace Eng
open Go Go.Proofs Go.RowKit
def subEntry : Array Value → Sem Value := fun args => do
  let (x, y, b) ← Extern.MathBitsCarry.three "Sub64" args
  pure (Extern.MathBitsCarry.pair ((x + Extern.MathBitsCarry.m64 - y - b) % Extern.MathBitsCarry.m64) (if x < y + b then 1 else 0))
theorem run_sub64 {P : Program} (x y c : Int) (hx : 0 ≤ x) (hx1 : x < 18446744073709551616) (hy : 0 ≤ y) (hy1 : y < 18446744073709551616) (hc0 : 0 ≤ c) (hc : c ≤ 1) (w : World) :
    (subEntry #[.int .u64 x, .int .u64 y, .int .u64 c]).run P w =
      .ok (.tuple #[.int .u64 ((x - y - c) % 18446744073709551616), .int .u64 (if x < y + c then 1 else 0)]) w := by
  have key : ∀ k : Nat, k ≤ 1 → (subEntry #[.int .u64 x, .int .u64 y, .int .u64 (k : Int)]).run P w =
      .ok (Extern.MathBitsCarry.pair ((x.toNat + Extern.MathBitsCarry.m64 - y.toNat - k) % Extern.MathBitsCarry.m64) (if x.toNat < y.toNat + k then 1 else 0)) w := by
    intro k hk
    have : k = 0 ∨ k = 1 := by omega
    rcases this with rfl | rfl <;> rfl
  obtain ⟨k, rfl⟩ := Int.eq_ofNat_of_zero_le hc0
  rw [key k (by omega)]
  obtain ⟨X, rfl⟩ := Int.eq_ofNat_of_zero_le hx
  obtain ⟨Y, rfl⟩ := Int.eq_ofNat_of_zero_le hy
  simp only [Extern.MathBitsCarry.pair, Extern.MathBitsCarry.m64, Int.toNat_natCast]
  have e1 : Int.ofNat ((X + 2 ^ 64 - Y - k) % 2 ^ 64) = ((X : Int) - Y - k) % 18446744073709551616 := by
    simp only [Int.ofNat_eq_natCast]; omega
  have e2 : Int.ofNat (if X < Y + k then 1 else 0) = (if (X : Int) < Y + k then 1 else 0) := by
    by_cases h : X < Y + k
    · rw [if_pos h, if_pos (by omega)]; rfl
    · rw [if_neg h, if_neg (by omega)]; rfl
  rw [e1, e2]

noncomputable def subX : List AV → Option AV
  | [.int .u64 a, .int .u64 b, .int .u64 c] => @ite _ (0 ≤ a ∧ a < 18446744073709551616 ∧ 0 ≤ b ∧ b < 18446744073709551616 ∧ 0 ≤ c ∧ c ≤ 1) (Classical.propDecidable _) (some (.tup [.int .u64 ((a - b - c) % 18446744073709551616), .int .u64 (if a < b + c then 1 else 0)])) none
  | _ => none
noncomputable def addX : List AV → Option AV
  | [.int .u64 a, .int .u64 b, .int .u64 c] => @ite _ (0 ≤ a ∧ 0 ≤ b ∧ 0 ≤ c ∧ c ≤ 1) (Classical.propDecidable _) (some (.tup [.int .u64 ((a + b + c) % 18446744073709551616), .int .u64 ((a + b + c) / 18446744073709551616)])) none
  | _ => none

theorem ext_run {P : Program} {f : FuncId} {fn : Func} {e : Array Value → Sem Value} (hf : P.funcs[f]? = some fn) (hm : (fn.name == "runtime.NumGoroutine") = false) (hb : fn.body.isNone = true) (hn : (Extern.findNext fn).isNone = true)
    (he : Extern.find fn = some e) {args : Array Value} {v : Value} {w : World} (h : (e args).run P w = .ok v w) : (callFunc f args).run P w = .ok (.value v) w := by
  have h1 : fn.name ≠ "runtime.NumGoroutine" := by simpa using hm
  have h2 : Extern.findNext fn = none := by simpa using hn
  have h3 : fn.body = none := by simpa using hb
  simp [callFunc, hf, h1, h3, h2, he, h]

theorem three_of {σ : Sg} {X : Nat → Prop} {w : World} {a b c : Int} {vals : List Value} (h : RvL σ X w false [.int .u64 a, .int .u64 b, .int .u64 c] vals) : vals = [.int .u64 a, .int .u64 b, .int .u64 c] := by
  simp only [RvL, Rv] at h
  obtain ⟨_, _, rfl, rfl, _, _, rfl, rfl, _, _, rfl, rfl, rfl⟩ := h
  rfl

theorem ext74 : ExtOk Tryd.prog 74 subX := by
  intro σ X w args vals v hv hx
  unfold subX at hx
  split at hx
  · split at hx
    · rename_i a b c h
      cases hx
      rw [three_of hv]
      refine ⟨_, ext_run Tryd.func74 (by kernel_rfl) (by kernel_rfl) (by kernel_rfl) (e := subEntry) (by kernel_rfl) (run_sub64 a b c h.1 h.2.1 h.2.2.1 h.2.2.2.1 h.2.2.2.2.1 h.2.2.2.2.2 w), ?_⟩
      simp [Rv, RvL]
    · cases hx
  · cases hx
theorem ext75 : ExtOk Tryd.prog 75 addX := by
  intro σ X w args vals v hv hx
  unfold addX at hx
  split at hx
  · split at hx
    · rename_i a b c h
      cases hx
      rw [three_of hv]
      refine ⟨_, ext_run Tryd.func75 (by kernel_rfl) (by kernel_rfl) (by kernel_rfl) (e := add64Entry) (by kernel_rfl) (run_add64 a b c h.1 h.2.1 h.2.2.1 h.2.2.2 w), ?_⟩
      simp [Rv, RvL]
    · cases hx
  · cases hx
theorem subX_eq (a b c : Int) (ha : U64 a) (hb : U64 b) (hc0 : 0 ≤ c) (hc : c ≤ 1) : subX [.int .u64 a, .int .u64 b, .int .u64 c] = some (.tup [.int .u64 ((a - b - c) % 18446744073709551616), .int .u64 (if a < b + c then 1 else 0)]) := by
  simp only [subX]; rw [if_pos ⟨ha.1, ha.2, hb.1, hb.2, hc0, hc⟩]
theorem addX_eq (a b c : Int) (ha : U64 a) (hb : U64 b) (hc0 : 0 ≤ c) (hc : c ≤ 1) : addX [.int .u64 a, .int .u64 b, .int .u64 c] = some (.tup [.int .u64 ((a + b + c) % 18446744073709551616), .int .u64 ((a + b + c) / 18446744073709551616)]) := by
  simp only [addX]; rw [if_pos ⟨ha.1, hb.1, hc0, hc⟩]
end Eng


namespace Eng
open Go Go.Proofs
set_option linter.unusedSimpArgs false

def one6 : List Int := [1, 0, 0, 0, 0, 0]
@[go_sem] theorem one6_len : one6.length = 6 := by decide
theorem U6_zero : U6 (List.replicate 6 0) := ⟨rfl, by decide⟩
end Eng


namespace Eng
open Go

/-- The digits of a number, the lowest first, none a nought at the end. -/
def dig (n : Nat) : List Int := if h : n = 0 then [] else ((n % 4294967296 : Nat) : Int) :: dig (n / 4294967296)
termination_by n
decreasing_by omega

theorem dig_zero : dig 0 = [] := by rw [dig]; simp
theorem dig_pos {n : Nat} (h : n ≠ 0) : dig n = ((n % 4294967296 : Nat) : Int) :: dig (n / 4294967296) := by
  rw [dig]; simp [h]

def D32 (l : List Int) : Prop := ∀ x ∈ l, 0 ≤ x ∧ x < 4294967296
def val : List Int → Nat
  | [] => 0
  | x :: l => x.toNat + 4294967296 * val l

theorem val_dig (n : Nat) : val (dig n) = n := by
  induction n using Nat.strongRecOn with
  | ind n ih =>
    by_cases h : n = 0
    · subst h; rw [dig_zero]; rfl
    · rw [dig_pos h, val, ih _ (by omega)]
      simp only [Int.toNat_natCast]
      omega
theorem dig_inj {a b : Nat} (h : dig a = dig b) : a = b := by rw [← val_dig a, ← val_dig b, h]
theorem dig_D32 (n : Nat) : D32 (dig n) := by
  induction n using Nat.strongRecOn with
  | ind n ih =>
    by_cases h : n = 0
    · subst h; rw [dig_zero]; intro x hx; simp at hx
    · rw [dig_pos h]
      intro x hx
      rcases List.mem_cons.1 hx with rfl | hx
      · omega
      · exact ih _ (by omega) x hx
theorem dig_getD (n i : Nat) : (dig n).getD i 0 = ((n / 4294967296 ^ i % 4294967296 : Nat) : Int) := by
  induction i generalizing n with
  | zero =>
    by_cases h : n = 0
    · subst h; rw [dig_zero]; rfl
    · rw [dig_pos h]; simp
  | succ i ih =>
    by_cases h : n = 0
    · subst h; rw [dig_zero]; simp
    · rw [dig_pos h, List.getD_cons_succ, ih, Nat.div_div_eq_div_mul, Nat.pow_succ, Nat.mul_comm]
theorem dig_len_le (n k : Nat) : (dig n).length ≤ k ↔ n < 4294967296 ^ k := by
  induction k generalizing n with
  | zero =>
    by_cases h : n = 0
    · subst h; rw [dig_zero]; simp
    · rw [dig_pos h]; simp; omega
  | succ k ih =>
    by_cases h : n = 0
    · subst h; rw [dig_zero]; simp; exact Nat.pow_pos (by decide)
    · rw [dig_pos h, List.length_cons, Nat.succ_le_succ_iff, ih, Nat.pow_succ, Nat.div_lt_iff_lt_mul (by decide)]
/-- The low digits of a number, so many. -/
def low (i n : Nat) : List Int := tab i (fun j => ((n / 4294967296 ^ j % 4294967296 : Nat) : Int))
theorem low_len (i n : Nat) : (low i n).length = i := tab_len _ _
theorem low_succ (i n : Nat) : low (i + 1) n = low i n ++ [((n / 4294967296 ^ i % 4294967296 : Nat) : Int)] := by
  simp [low, tab, List.range_succ]
theorem low_D32 (i n : Nat) : D32 (low i n) := by
  intro x hx
  simp only [low, tab, List.mem_map] at hx
  obtain ⟨j, _, rfl⟩ := hx
  omega
theorem val_append (a b : List Int) : val (a ++ b) = val a + 4294967296 ^ a.length * val b := by
  induction a with
  | nil => simp [val]
  | cons x a ih =>
    simp only [List.cons_append, val, ih, List.length_cons, Nat.pow_succ]
    rw [Nat.mul_add, Nat.add_assoc, ← Nat.mul_assoc, Nat.mul_comm 4294967296 (4294967296 ^ _)]
theorem val_low (i n : Nat) : val (low i n) = n % 4294967296 ^ i := by
  induction i with
  | zero => simp [low, tab, val, Nat.mod_one]
  | succ i ih =>
    rw [low_succ, val_append, ih, low_len, Nat.mod_pow_succ]
    simp only [val, Int.toNat_natCast, Nat.mul_zero, Nat.add_zero]
theorem val_zeros (l : List Int) (h : ∀ x ∈ l, x = 0) : val l = 0 := by
  induction l with
  | nil => rfl
  | cons x l ih => simp [val, h x (by simp), ih fun y hy => h y (by simp [hy])]
/-- A list of digits whose last one is no nought is that of its number. -/
theorem dig_val : ∀ (l : List Int), D32 l → (l = [] ∨ l.getD (l.length - 1) 0 ≠ 0) → dig (val l) = l
  | [], _, _ => by rw [val, dig_zero]
  | x :: l, hd, hl => by
    have hx := hd x (by simp)
    have hd' : D32 l := fun y hy => hd y (by simp [hy])
    rcases hl with h | h
    · cases h
    · by_cases hl0 : l = []
      · subst hl0
        simp at h
        have : val [x] = x.toNat := by simp [val]
        rw [this, dig_pos (by omega), Nat.mod_eq_of_lt (by omega), Nat.div_eq_of_lt (by omega), dig_zero]
        congr 1
        omega
      · have hlen : 0 < l.length := List.length_pos_iff.2 hl0
        have ih := dig_val l hd' (.inr (by
          rw [show (x :: l).length - 1 = (l.length - 1) + 1 by simp; omega, List.getD_cons_succ] at h
          exact h))
        have hne : val l ≠ 0 := by
          intro h0
          rw [h0, dig_zero] at ih
          exact hl0 ih.symm
        have e : val (x :: l) = x.toNat + 4294967296 * val l := rfl
        rw [e, dig_pos (by omega), show (x.toNat + 4294967296 * val l) % 4294967296 = x.toNat by omega, show (x.toNat + 4294967296 * val l) / 4294967296 = val l by omega, ih]
        congr 1
        omega
/-- What Trim finds. -/
theorem trim_eq {l : List Int} (hd : D32 l) {n : Nat} (hn : n ≤ l.length) (h0 : ∀ i, n ≤ i → i < l.length → l.getD i 0 = 0) (h1 : n = 0 ∨ l.getD (n - 1) 0 ≠ 0) : l.take n = dig (val l) := by
  have hv : val l = val (l.take n) := by
    conv => lhs; rw [← List.take_append_drop n l]
    rw [val_append, val_zeros (l.drop n), Nat.mul_zero, Nat.add_zero]
    intro x hx
    obtain ⟨i, hi⟩ := List.getElem?_of_mem hx
    rw [List.getElem?_drop] at hi
    have hlt := (List.getElem?_eq_some_iff.1 hi).1
    have := h0 (n + i) (by omega) hlt
    rw [List.getD_eq_getElem?_getD, hi, Option.getD_some] at this
    exact this
  rw [hv]
  refine (dig_val _ (fun x hx => hd x (List.mem_of_mem_take hx)) ?_).symm
  by_cases hn0 : n = 0
  · subst hn0; left; simp
  · right
    have h := h1.resolve_left hn0
    have hl : (l.take n).length = n := by simp; omega
    rw [hl]
    rw [List.getD_eq_getElem?_getD] at h ⊢
    rw [List.getElem?_take]
    split
    · exact h
    · rename_i hh
      exfalso
      by_cases hn0 : n = 0
      · subst hn0; omega
      · omega
theorem dig_low {i n : Nat} (h : n < 4294967296 ^ i) : val (low i n) = n := by rw [val_low, Nat.mod_eq_of_lt h]

/- Sums and differences, digit by digit. -/
theorem add_dig (B x y i : Nat) (hB : 0 < B) : (x + y) / B ^ i % B = (x / B ^ i % B + y / B ^ i % B + (x % B ^ i + y % B ^ i) / B ^ i) % B := by
  have hp : 0 < B ^ i := Nat.pow_pos hB
  have h : (x + y) / B ^ i = x / B ^ i + y / B ^ i + (x % B ^ i + y % B ^ i) / B ^ i := by
    have e : x + y = (x % B ^ i + y % B ^ i) + B ^ i * (x / B ^ i + y / B ^ i) := by
      have h1 := Nat.mod_add_div x (B ^ i)
      have h2 := Nat.mod_add_div y (B ^ i)
      rw [Nat.mul_add]; omega
    rw [e, Nat.add_mul_div_left _ _ hp]
    omega
  rw [h]
  rw [Nat.add_mod (x / B ^ i + y / B ^ i), Nat.add_mod (x / B ^ i) (y / B ^ i)]
  rw [Nat.add_mod (x / B ^ i % B + y / B ^ i % B)]
theorem add_car (B x y i : Nat) (hB : 0 < B) : (x % B ^ (i + 1) + y % B ^ (i + 1)) / B ^ (i + 1) = (x / B ^ i % B + y / B ^ i % B + (x % B ^ i + y % B ^ i) / B ^ i) / B := by
  have hp : 0 < B ^ i := Nat.pow_pos hB
  rw [Nat.mod_pow_succ, Nat.mod_pow_succ, Nat.pow_succ, ← Nat.div_div_eq_div_mul]
  congr 1
  rw [show x % B ^ i + B ^ i * (x / B ^ i % B) + (y % B ^ i + B ^ i * (y / B ^ i % B)) = (x % B ^ i + y % B ^ i) + B ^ i * (x / B ^ i % B + y / B ^ i % B) by rw [Nat.mul_add]; omega]
  rw [Nat.add_mul_div_left _ _ hp]
  omega
def borrow (B x y i : Nat) : Nat := if x % B ^ i < y % B ^ i then 1 else 0
theorem bor_succ (B x y i : Nat) (hB : 0 < B) : borrow B x y (i + 1) = if x / B ^ i % B < y / B ^ i % B + borrow B x y i then 1 else 0 := by
  have hp : 0 < B ^ i := Nat.pow_pos hB
  unfold borrow
  rw [Nat.mod_pow_succ, Nat.mod_pow_succ]
  have hx := Nat.mod_lt x hp
  have hy := Nat.mod_lt y hp
  generalize x / B ^ i % B = dx
  generalize y / B ^ i % B = dy
  generalize x % B ^ i = rx at *
  generalize y % B ^ i = ry at *
  generalize B ^ i = M at *
  have key : rx + M * dx < ry + M * dy ↔ dx < dy + (if rx < ry then 1 else 0) := by
    constructor
    · intro h
      split
      · rename_i hr
        have : M * dx < M * (dy + 1) := by rw [Nat.mul_add]; omega
        exact Nat.lt_of_mul_lt_mul_left this
      · rename_i hr
        have : M * dx < M * dy := by omega
        have := Nat.lt_of_mul_lt_mul_left this
        omega
    · intro h
      split at h
      · rename_i hr
        have : M * dx ≤ M * dy := Nat.mul_le_mul_left _ (by omega)
        omega
      · rename_i hr
        have : M * (dx + 1) ≤ M * dy := Nat.mul_le_mul_left _ (by omega)
        rw [Nat.mul_add] at this
        omega
  by_cases h : dx < dy + (if rx < ry then 1 else 0)
  · rw [if_pos h, if_pos (key.2 h)]
  · rw [if_neg h, if_neg (fun h' => h (key.1 h'))]
/-- The digits of a difference, as integers. -/
theorem sub_dig (B x y i : Nat) (hB : 0 < B) : (((x : Int) - y) / (B : Int) ^ i) % B = (((x / B ^ i % B : Nat) : Int) - ((y / B ^ i % B : Nat) : Int) - (borrow B x y i : Int)) % B := by
  have hp : 0 < B ^ i := Nat.pow_pos hB
  have e : ((x : Int) - y) / (B : Int) ^ i = ((x / B ^ i : Nat) : Int) - ((y / B ^ i : Nat) : Int) - (borrow B x y i : Int) := by
    have h1 := Nat.mod_add_div x (B ^ i)
    have h2 := Nat.mod_add_div y (B ^ i)
    have hx := Nat.mod_lt x hp
    have hy := Nat.mod_lt y hp
    rw [← Int.natCast_pow]
    unfold borrow
    generalize x / B ^ i = qx at *
    generalize y / B ^ i = qy at *
    generalize x % B ^ i = rx at *
    generalize y % B ^ i = ry at *
    generalize B ^ i = M at *
    have e1 : (x : Int) - y = ((rx : Int) - ry) + (M : Int) * ((qx : Int) - qy) := by
      rw [← h1, ← h2]; push_cast; rw [Int.mul_sub]; omega
    rw [e1, Int.add_mul_ediv_left _ _ (by omega)]
    have hM : (0 : Int) < M := by omega
    split
    · rename_i hr
      have : ((rx : Int) - ry) / M = -1 := by
        rw [show (rx : Int) - ry = ((rx : Int) - ry + M) + M * (-1) by omega, Int.add_mul_ediv_left _ _ (by omega), Int.ediv_eq_zero_of_lt (by omega) (by omega)]
        rfl
      rw [this]; omega
    · rename_i hr
      rw [Int.ediv_eq_zero_of_lt (by omega) (by omega)]; omega
  rw [e]
  rw [Int.emod_eq_emod_iff_emod_sub_eq_zero]
  have a1 := Nat.mod_add_div (x / B ^ i) B
  have a2 := Nat.mod_add_div (y / B ^ i) B
  generalize x / B ^ i = qx at *
  generalize y / B ^ i = qy at *
  have : ((qx : Int) - qy - (borrow B x y i : Int)) - (((qx % B : Nat) : Int) - ((qy % B : Nat) : Int) - (borrow B x y i : Int)) = B * (((qx / B : Nat) : Int) - ((qy / B : Nat) : Int)) := by
    have b1 : (qx : Int) = ((qx % B : Nat) : Int) + (B : Int) * ((qx / B : Nat) : Int) := by exact_mod_cast a1.symm
    have b2 : (qy : Int) = ((qy % B : Nat) : Int) + (B : Int) * ((qy / B : Nat) : Int) := by exact_mod_cast a2.symm
    rw [Int.mul_sub]; omega
  rw [this]
  exact Int.mul_emod_right _ _
theorem dig_injEq (a b : Nat) : (dig a = dig b) = (a = b) := propext ⟨dig_inj, fun h => by rw [h]⟩
theorem wrap_pred {n : Nat} (h : 0 < n) (hn : n ≤ 4611686018427387904) : IntKind.i64.wrap ((n : Int) - 1) = ((n - 1 : Nat) : Int) := by
  rw [wrap_i64 (by omega) (by omega)]; omega
theorem wrap_succ' {n : Nat} (hn : n ≤ 4611686018427387904) : IntKind.i64.wrap ((n : Int) + 1) = ((n + 1 : Nat) : Int) := by
  rw [wrap_i64 (by omega) (by omega)]; omega
theorem D32.at {l : List Int} (h : D32 l) (i : Nat) : 0 ≤ l.getD i 0 ∧ l.getD i 0 < 4294967296 := by
  rcases Nat.lt_or_ge i l.length with hj | hj
  · rw [List.getD_eq_getElem?_getD, List.getElem?_eq_getElem hj, Option.getD_some]
    exact h _ (List.getElem_mem hj)
  · rw [List.getD_eq_getElem?_getD, List.getElem?_eq_none hj]
    exact ⟨by decide, by decide⟩
theorem lt_of_digs {x y j : Nat} (h : x / 4294967296 ^ (j + 1) = y / 4294967296 ^ (j + 1)) (hd : x / 4294967296 ^ j % 4294967296 < y / 4294967296 ^ j % 4294967296) : x < y := by
  rw [Nat.pow_succ, ← Nat.div_div_eq_div_mul, ← Nat.div_div_eq_div_mul] at h
  have : x / 4294967296 ^ j < y / 4294967296 ^ j := by omega
  exact Nat.lt_of_not_le fun hle => by
    have := Nat.div_le_div_right (c := 4294967296 ^ j) hle
    omega
theorem eq_of_digs {x y j : Nat} (h : x / 4294967296 ^ (j + 1) = y / 4294967296 ^ (j + 1)) (hd : x / 4294967296 ^ j % 4294967296 = y / 4294967296 ^ j % 4294967296) : x / 4294967296 ^ j = y / 4294967296 ^ j := by
  rw [Nat.pow_succ, ← Nat.div_div_eq_div_mul, ← Nat.div_div_eq_div_mul] at h
  omega
theorem lt_of_lens {x y : Nat} (h : (dig x).length < (dig y).length) : x < y := by
  have h1 := (dig_len_le x (dig x).length).1 (Nat.le_refl _)
  have h2 : ¬ (dig y).length ≤ (dig x).length := by omega
  rw [dig_len_le] at h2
  omega
def D64 (l : List Int) : Prop := ∀ x ∈ l, 0 ≤ x ∧ x < 18446744073709551616
def v64 : List Int → Nat
  | [] => 0
  | x :: l => x.toNat + 18446744073709551616 * v64 l
theorem v64_lt : ∀ {l : List Int}, D64 l → v64 l < 18446744073709551616 ^ l.length
  | [], _ => by simp [v64]
  | x :: l, h => by
    have := v64_lt (l := l) fun y hy => h y (by simp [hy])
    have hx := h x (by simp)
    rw [v64, List.length_cons, Nat.pow_succ]
    generalize 18446744073709551616 ^ l.length = M at *
    omega
theorem v64_getD : ∀ {l : List Int}, D64 l → ∀ i, l.getD i 0 = ((v64 l / 18446744073709551616 ^ i % 18446744073709551616 : Nat) : Int)
  | [], _, i => by simp [v64]
  | x :: l, h, 0 => by
    have hx := h x (by simp)
    simp [v64]; omega
  | x :: l, h, i + 1 => by
    have hx := h x (by simp)
    rw [List.getD_cons_succ, v64_getD (fun y hy => h y (by simp [hy])) i, v64, Nat.pow_succ, Nat.mul_comm (18446744073709551616 ^ i), ← Nat.div_div_eq_div_mul]
    rw [show (x.toNat + 18446744073709551616 * v64 l) / 18446744073709551616 = v64 l by omega]
theorem pow_two32 (i : Nat) : 4294967296 ^ (2 * i) = 18446744073709551616 ^ i := by rw [Nat.pow_mul]
theorem pow_two33 (i : Nat) : 4294967296 ^ (2 * i + 1) = 18446744073709551616 ^ i * 4294967296 := by rw [Nat.pow_succ, pow_two32]
theorem ofInt_bv (v : BitVec 64) : BitVec.ofInt 64 (v.toNat : Int) = v := by
  apply BitVec.eq_of_toNat_eq
  rw [ofInt_toNat (by omega) (by have := v.isLt; omega)]; simp
theorem bv_ofInt {x : Int} (h0 : 0 ≤ x) (h1 : x < 18446744073709551616) : ((BitVec.ofInt 64 x).toNat : Int) = x := by
  rw [ofInt_toNat h0 (by omega)]; omega

/- Limbs of 64 bits. -/
def lim6 (x : Nat) : List Int := tab 6 (fun j => ((x / 18446744073709551616 ^ j % 18446744073709551616 : Nat) : Int))
theorem lim6_len (x : Nat) : (lim6 x).length = 6 := tab_len _ _
theorem lim6_getD (x : Nat) {j : Nat} (h : j < 6) : (lim6 x).getD j 0 = ((x / 18446744073709551616 ^ j % 18446744073709551616 : Nat) : Int) := tab_getD _ _ h
theorem lim6_D64 (x : Nat) : D64 (lim6 x) := by
  intro y hy
  simp only [lim6, tab, List.mem_map] at hy
  obtain ⟨j, _, rfl⟩ := hy
  omega
theorem lim6_v64 {a : List Int} (hl : a.length = 6) (h : D64 a) : lim6 (v64 a) = a := (eq_tab hl fun i _ => v64_getD h i).symm
theorem part_lt {B r q j k : Nat} (hB : 0 < B) (h : k < j) : (r + B ^ j * q) / B ^ k % B = r / B ^ k % B := by
  obtain ⟨m, rfl⟩ : ∃ m, j = k + 1 + m := ⟨j - (k + 1), by omega⟩
  have : B ^ (k + 1 + m) * q = B ^ k * (B * (B ^ m * q)) := by rw [Nat.pow_add, Nat.pow_succ, Nat.mul_assoc, Nat.mul_assoc]
  rw [this, Nat.add_mul_div_left _ _ (Nat.pow_pos hB), Nat.add_mul_mod_self_left]
theorem part_eq {B r q j : Nat} (hB : 0 < B) : (r + B ^ j * q) / B ^ j = r / B ^ j + q := Nat.add_mul_div_left _ _ (Nat.pow_pos hB)
theorem part_gt {B r k : Nat} (h : r < B ^ k) : r / B ^ k % B = 0 := by rw [Nat.div_eq_of_lt h]; simp
theorem lim6_mod (x : Nat) : lim6 (x % 4294967296 ^ 12) = lim6 x := tab_ext fun k hk => by
  have e : x = x % 4294967296 ^ 12 + 18446744073709551616 ^ 6 * (x / 4294967296 ^ 12) := by
    have := Nat.mod_add_div x (4294967296 ^ 12)
    rw [show 18446744073709551616 ^ 6 = 4294967296 ^ 12 from rfl]; omega
  congr 1
  conv => rhs; rw [e]
  rw [part_lt (by decide) hk]
theorem lim6_zero : lim6 0 = List.replicate 6 0 := by rw [rep_tab]; exact tab_ext fun k _ => by simp
/-- One digit more. -/
theorem lim6_lo (x j : Nat) : (lim6 (x % 4294967296 ^ (2 * j))).set j (((x / 4294967296 ^ (2 * j) % 4294967296 : Nat) : Int)) = lim6 (x % 4294967296 ^ (2 * j + 1)) := by
  refine tab_set _ _ _ _ _ fun k hk => ?_
  have hr : x % 4294967296 ^ (2 * j) < 18446744073709551616 ^ j := by rw [← pow_two32]; exact Nat.mod_lt _ (Nat.pow_pos (by decide))
  rw [Nat.mod_pow_succ, pow_two32]
  rw [pow_two32] at hr
  generalize x % 18446744073709551616 ^ j = r at *
  have hd : x / 18446744073709551616 ^ j % 4294967296 < 4294967296 := Nat.mod_lt _ (by decide)
  generalize x / 18446744073709551616 ^ j % 4294967296 = d at *
  split
  · rename_i e; subst e
    rw [part_eq (by decide), Nat.div_eq_of_lt hr, Nat.mod_eq_of_lt (by omega)]; omega
  · rename_i e
    rcases Nat.lt_or_ge k j with h | h
    · rw [part_lt (by decide) h]
    · have hk1 : 18446744073709551616 ^ (j + 1) ≤ 18446744073709551616 ^ k := Nat.pow_le_pow_right (by decide) (by omega)
      have e2 : 18446744073709551616 ^ (j + 1) = 18446744073709551616 ^ j * 18446744073709551616 := Nat.pow_succ ..
      have h3 : 18446744073709551616 ^ j * d ≤ 18446744073709551616 ^ j * 4294967295 := Nat.mul_le_mul_left _ (by omega)
      rw [part_gt (by omega), part_gt (by omega)]
theorem lim6_hi (x j : Nat) (hj : j < 6) : (lim6 (x % 4294967296 ^ (2 * j + 1))).set j ((lim6 (x % 4294967296 ^ (2 * j + 1))).getD j 0 + ((x / 4294967296 ^ (2 * j + 1) % 4294967296 : Nat) : Int) * 4294967296) = lim6 (x % 4294967296 ^ (2 * (j + 1))) := by
  refine tab_set _ _ _ _ _ fun k hk => ?_
  rw [lim6_getD _ hj]
  have hr : x % 4294967296 ^ (2 * j + 1) < 18446744073709551616 ^ j * 4294967296 := by rw [← pow_two33]; exact Nat.mod_lt _ (Nat.pow_pos (by decide))
  rw [show 2 * (j + 1) = (2 * j + 1) + 1 by omega, Nat.mod_pow_succ, pow_two33]
  rw [pow_two33] at hr
  generalize x % (18446744073709551616 ^ j * 4294967296) = r at *
  have hd : x / (18446744073709551616 ^ j * 4294967296) % 4294967296 < 4294967296 := Nat.mod_lt _ (by decide)
  generalize x / (18446744073709551616 ^ j * 4294967296) % 4294967296 = d at *
  rw [Nat.mul_assoc]
  have hrj : r / 18446744073709551616 ^ j < 4294967296 := by
    rw [Nat.div_lt_iff_lt_mul (Nat.pow_pos (by decide)), Nat.mul_comm]; exact hr
  split
  · rename_i e; subst e
    rw [part_eq (by decide), Nat.mod_eq_of_lt (by omega), Nat.mod_eq_of_lt (by omega)]
    omega
  · rename_i e
    rcases Nat.lt_or_ge k j with h | h
    · rw [part_lt (by decide) h]
    · have hk1 : 18446744073709551616 ^ (j + 1) ≤ 18446744073709551616 ^ k := Nat.pow_le_pow_right (by decide) (by omega)
      have e2 : 18446744073709551616 ^ (j + 1) = 18446744073709551616 ^ j * 18446744073709551616 := Nat.pow_succ ..
      have h3 : 18446744073709551616 ^ j * (4294967296 * d) ≤ 18446744073709551616 ^ j * (4294967296 * 4294967295) := Nat.mul_le_mul_left _ (by omega)
      rw [part_gt (by omega), part_gt (by omega)]
end Eng


namespace Eng
open Go Go.Proofs
set_option linter.unusedSimpArgs false
set_option linter.unusedVariables false
noncomputable def S53 : List AV → Option Ret := nz (sumOf (fun p : List Int => match p with | l => (D32 l) ∧ (l.length ≤ 1099511627776)) (fun p : List Int => match p with | l => [.slc l.length (ints .u64 l)]) (fun p : List Int => match p with | l => ⟨.slc (dig (val l)).length (ints .u64 (dig (val l))), none⟩))
theorem S53_eq (l : List Int) (h0 : D32 l) (h1 : l.length ≤ 1099511627776) : S53 [.slc l.length (ints .u64 l)] = some ⟨.slc (dig (val l)).length (ints .u64 (dig (val l))), none⟩ :=
  sumOf_eq (dom := (fun p : List Int => match p with | l => (D32 l) ∧ (l.length ≤ 1099511627776))) (enc := (fun p : List Int => match p with | l => [.slc l.length (ints .u64 l)])) (out := (fun p : List Int => match p with | l => ⟨.slc (dig (val l)).length (ints .u64 (dig (val l))), none⟩)) l ⟨h0, h1⟩ (fun y _ e => by
    simp only [List.cons.injEq, AV.agg.injEq, AV.int.injEq, AV.slc.injEq, AV.iptr.injEq, AV.bool.injEq, AV.str.injEq, ints_injEq, dig_injEq,  Int.ofNat_inj, BitVec.toNat_inj, true_and, and_true] at e
    first | with_reducible rfl | simp only [e] | rfl)
theorem S53_inv {args : List AV} {r : Ret} (h : sumOf (fun p : List Int => match p with | l => (D32 l) ∧ (l.length ≤ 1099511627776)) (fun p : List Int => match p with | l => [.slc l.length (ints .u64 l)]) (fun p : List Int => match p with | l => ⟨.slc (dig (val l)).length (ints .u64 (dig (val l))), none⟩) args = some r) : ∃ (l : List Int), ((D32 l) ∧ (l.length ≤ 1099511627776)) ∧ args = [.slc l.length (ints .u64 l)] ∧ r = ⟨.slc (dig (val l)).length (ints .u64 (dig (val l))), none⟩ := by
  obtain ⟨x, h1, h2, h3⟩ := sumOf_inv h
  exact ⟨x, h1, h2.symm, h3⟩


set_option maxRecDepth 100000 in
theorem snd53 : SndE Tryd.prog NoG 53 S53 := by
  refine snd_nz (snd_by [] [] Tryd.func53 (by kernel_rfl) lite53 nt53 rs53 trivial trivial (fun hT args r h => ?_))
  obtain ⟨l, ⟨hd0, hd1⟩, rfl, rfl⟩ := S53_inv h
  clear h
  have hM := hM0
  refine ⟨Nat.le_of_ble_eq_true rfl, fun F => ?_⟩
  unfold L53
  refine Lwp.seq (Lwp.regI hT ?_)
  simp only [L53r0, go_sem, List.isEmpty_nil, isC, eq_self, reduceIte, Nat.reduceAdd, Nat.reduceMul, Nat.reduceSub, Nat.reduceLT, Nat.reduceLeDiff, Nat.reduceEqDiff, Nat.reduceDiv, Nat.reduceMod, Nat.reducePow, Nat.reduceBEq, Nat.reduceBNe, Int.reduceLT, Int.reduceLE, Int.reduceGT, Int.reduceGE, Int.reduceBEq, Int.reduceBNe, Int.reduceToNat, Int.reduceAdd, Int.reduceSub, Int.reduceMul, Int.reduceEq, Int.reduceNeg, reduceCtorEq, decide_true, decide_false, Bool.false_eq_true, ty3, ty4, ty22, ty23, ty24, ty27, ty28, eq24]
  refine Lwp.seq (Lwp.regI hT ?_)
  simp only [L53r1, go_sem, List.isEmpty_nil, isC, eq_self, reduceIte, Nat.reduceAdd, Nat.reduceMul, Nat.reduceSub, Nat.reduceLT, Nat.reduceLeDiff, Nat.reduceEqDiff, Nat.reduceDiv, Nat.reduceMod, Nat.reducePow, Nat.reduceBEq, Nat.reduceBNe, Int.reduceLT, Int.reduceLE, Int.reduceGT, Int.reduceGE, Int.reduceBEq, Int.reduceBNe, Int.reduceToNat, Int.reduceAdd, Int.reduceSub, Int.reduceMul, Int.reduceEq, Int.reduceNeg, reduceCtorEq, decide_true, decide_false, Bool.false_eq_true, ty3, ty4, ty22, ty23, ty24, ty27, ty28, eq24]
  refine Lwp.seq (Lwp.block (Lwp.whl (fun n : Nat => { nt := 21, env := [(0, .slc l.length (ints .u64 l)), (3, .int .i64 n)], mem := [], next := 0 }) (fun n => n ≤ l.length ∧ ∀ i, n ≤ i → i < l.length → l.getD i 0 = 0) (fun n => n) l.length ⟨Nat.le_refl _, fun i h1 h2 => by omega⟩ ?_ ?_))
  · refine weak_of rfl ?_ ?_ ?_
    · (simp only [go_sem, List.isEmpty_nil, isC, eq_self, reduceIte, Nat.reduceAdd, Nat.reduceMul, Nat.reduceSub, Nat.reduceLT, Nat.reduceLeDiff, Nat.reduceEqDiff, Nat.reduceDiv, Nat.reduceMod, Nat.reducePow, Nat.reduceBEq, Nat.reduceBNe, Int.reduceLT, Int.reduceLE, Int.reduceGT, Int.reduceGE, Int.reduceBEq, Int.reduceBNe, Int.reduceToNat, Int.reduceAdd, Int.reduceSub, Int.reduceMul, Int.reduceEq, Int.reduceNeg, reduceCtorEq, decide_true, decide_false, Bool.false_eq_true]; try rfl)
    · (simp only [go_sem, List.isEmpty_nil, isC, eq_self, reduceIte, Nat.reduceAdd, Nat.reduceMul, Nat.reduceSub, Nat.reduceLT, Nat.reduceLeDiff, Nat.reduceEqDiff, Nat.reduceDiv, Nat.reduceMod, Nat.reducePow, Nat.reduceBEq, Nat.reduceBNe, Int.reduceLT, Int.reduceLE, Int.reduceGT, Int.reduceGE, Int.reduceBEq, Int.reduceBNe, Int.reduceToNat, Int.reduceAdd, Int.reduceSub, Int.reduceMul, Int.reduceEq, Int.reduceNeg, reduceCtorEq, decide_true, decide_false, Bool.false_eq_true]; try rfl)
    · (simp only [go_sem, List.isEmpty_nil, isC, eq_self, reduceIte, Nat.reduceAdd, Nat.reduceMul, Nat.reduceSub, Nat.reduceLT, Nat.reduceLeDiff, Nat.reduceEqDiff, Nat.reduceDiv, Nat.reduceMod, Nat.reducePow, Nat.reduceBEq, Nat.reduceBNe, Int.reduceLT, Int.reduceLE, Int.reduceGT, Int.reduceGE, Int.reduceBEq, Int.reduceBNe, Int.reduceToNat, Int.reduceAdd, Int.reduceSub, Int.reduceMul, Int.reduceEq, Int.reduceNeg, reduceCtorEq, decide_true, decide_false, Bool.false_eq_true]; try rfl)
  · rintro n ⟨hn, h0⟩
    have fin : (n = 0 ∨ l.getD (n - 1) 0 ≠ 0) → ∀ (env : List (Nat × AV)) (nx : Nat), find env 0 = some (.slc l.length (ints .u64 l)) → find env 3 = some (.int .i64 n) → Lwp okDraw (tb Tryd.prog [] []) F ((LC.region L53r4).seq LC.ret) (Post (tb Tryd.prog [] []) [.tmp 2] ⟨.slc (dig (val l)).length (ints .u64 (dig (val l))), none⟩) { nt := 21, env := env, mem := [], next := nx } := by
      intro h1 env nx e1 e2
      have e3 : (0 : Int) ≤ n := by omega
      have e4 : (n : Int) ≤ l.length := by omega
      have e5 := trim_eq hd0 hn h0 h1
      refine Lwp.seq (Lwp.regI hT ?_)
      simp only [L53r4, go_sem, List.isEmpty_nil, isC, eq_self, reduceIte, Nat.reduceAdd, Nat.reduceMul, Nat.reduceSub, Nat.reduceLT, Nat.reduceLeDiff, Nat.reduceEqDiff, Nat.reduceDiv, Nat.reduceMod, Nat.reducePow, Nat.reduceBEq, Nat.reduceBNe, Int.reduceLT, Int.reduceLE, Int.reduceGT, Int.reduceGE, Int.reduceBEq, Int.reduceBNe, Int.reduceToNat, Int.reduceAdd, Int.reduceSub, Int.reduceMul, Int.reduceEq, Int.reduceNeg, reduceCtorEq, decide_true, decide_false, Bool.false_eq_true, ty3, ty4, ty22, ty23, ty24, ty27, ty28, eq24, e1, e2, e3, e4, sliceA, boundA, Nat.sub_zero, ints_sub, List.drop_zero]
      refine Lwp.ret (post_val (v := .slc n (ints .u64 (l.take n))) ?_ ?_)
      · simp only [go_sem, List.isEmpty_nil, isC, eq_self, reduceIte, Nat.reduceAdd, Nat.reduceMul, Nat.reduceSub, Nat.reduceLT, Nat.reduceLeDiff, Nat.reduceEqDiff, Nat.reduceDiv, Nat.reduceMod, Nat.reducePow, Nat.reduceBEq, Nat.reduceBNe, Int.reduceLT, Int.reduceLE, Int.reduceGT, Int.reduceGE, Int.reduceBEq, Int.reduceBNe, Int.reduceToNat, Int.reduceAdd, Int.reduceSub, Int.reduceMul, Int.reduceEq, Int.reduceNeg, reduceCtorEq, decide_true, decide_false, Bool.false_eq_true]
      · simp only [go_sem, List.isEmpty_nil, isC, eq_self, reduceIte, Nat.reduceAdd, Nat.reduceMul, Nat.reduceSub, Nat.reduceLT, Nat.reduceLeDiff, Nat.reduceEqDiff, Nat.reduceDiv, Nat.reduceMod, Nat.reducePow, Nat.reduceBEq, Nat.reduceBNe, Int.reduceLT, Int.reduceLE, Int.reduceGT, Int.reduceGE, Int.reduceBEq, Int.reduceBNe, Int.reduceToNat, Int.reduceAdd, Int.reduceSub, Int.reduceMul, Int.reduceEq, Int.reduceNeg, reduceCtorEq, decide_true, decide_false, Bool.false_eq_true, ← e5, List.length_take, Nat.min_eq_left hn]
    by_cases hz : n = 0
    · subst hz
      refine Lwp.seq (Lwp.seq (Lwp.region hT ?_))
      have a1 : ¬ ((0 : Nat) : Int) > 0 := by omega
      simp only [L53r2, go_sem, List.isEmpty_nil, isC, eq_self, reduceIte, Nat.reduceAdd, Nat.reduceMul, Nat.reduceSub, Nat.reduceLT, Nat.reduceLeDiff, Nat.reduceEqDiff, Nat.reduceDiv, Nat.reduceMod, Nat.reducePow, Nat.reduceBEq, Nat.reduceBNe, Int.reduceLT, Int.reduceLE, Int.reduceGT, Int.reduceGE, Int.reduceBEq, Int.reduceBNe, Int.reduceToNat, Int.reduceAdd, Int.reduceSub, Int.reduceMul, Int.reduceEq, Int.reduceNeg, reduceCtorEq, decide_true, decide_false, Bool.false_eq_true, ty3, ty22, ty28, a1]
      refine Lwp.cond rfl (fun h => by cases h) (fun _ => Lwp.exit ?_)
      simp only [go_sem, List.isEmpty_nil, isC, eq_self, reduceIte, Nat.reduceAdd, Nat.reduceMul, Nat.reduceSub, Nat.reduceLT, Nat.reduceLeDiff, Nat.reduceEqDiff, Nat.reduceDiv, Nat.reduceMod, Nat.reducePow, Nat.reduceBEq, Nat.reduceBNe, Int.reduceLT, Int.reduceLE, Int.reduceGT, Int.reduceGE, Int.reduceBEq, Int.reduceBNe, Int.reduceToNat, Int.reduceAdd, Int.reduceSub, Int.reduceMul, Int.reduceEq, Int.reduceNeg, reduceCtorEq, decide_true, decide_false, Bool.false_eq_true]
      exact fin (.inl rfl) _ _ rfl rfl
    · have a1 : (n : Int) > 0 := by omega
      have a2 := wrap_pred (show 0 < n by omega) (by omega)
      have a3 : (0 : Int) ≤ ((n - 1 : Nat) : Int) := by omega
      have a4 : ((n - 1 : Nat) : Int) < l.length := by omega
      have a5 : n - 1 < l.length := by omega
      refine Lwp.seq (Lwp.seq (Lwp.region hT ?_))
      by_cases hl : l.getD (n - 1) 0 = 0
      · have hl' : (l.getD (n - 1) 0 == 0) = true := by rw [hl]; rfl
        simp only [L53r2, go_sem, List.isEmpty_nil, isC, eq_self, reduceIte, Nat.reduceAdd, Nat.reduceMul, Nat.reduceSub, Nat.reduceLT, Nat.reduceLeDiff, Nat.reduceEqDiff, Nat.reduceDiv, Nat.reduceMod, Nat.reducePow, Nat.reduceBEq, Nat.reduceBNe, Int.reduceLT, Int.reduceLE, Int.reduceGT, Int.reduceGE, Int.reduceBEq, Int.reduceBNe, Int.reduceToNat, Int.reduceAdd, Int.reduceSub, Int.reduceMul, Int.reduceEq, Int.reduceNeg, reduceCtorEq, decide_true, decide_false, Bool.false_eq_true, ty3, ty22, ty28, a1, a2, a3, a4, a5, hl']
        refine Lwp.cond rfl (fun _ => Lwp.skip ?_) (fun h => by cases h)
        simp only [go_sem, List.isEmpty_nil, isC, eq_self, reduceIte, Nat.reduceAdd, Nat.reduceMul, Nat.reduceSub, Nat.reduceLT, Nat.reduceLeDiff, Nat.reduceEqDiff, Nat.reduceDiv, Nat.reduceMod, Nat.reducePow, Nat.reduceBEq, Nat.reduceBNe, Int.reduceLT, Int.reduceLE, Int.reduceGT, Int.reduceGE, Int.reduceBEq, Int.reduceBNe, Int.reduceToNat, Int.reduceAdd, Int.reduceSub, Int.reduceMul, Int.reduceEq, Int.reduceNeg, reduceCtorEq, decide_true, decide_false, Bool.false_eq_true]
        refine Lwp.block (Lwp.region hT ?_)
        simp only [L53r3, go_sem, List.isEmpty_nil, isC, eq_self, reduceIte, Nat.reduceAdd, Nat.reduceMul, Nat.reduceSub, Nat.reduceLT, Nat.reduceLeDiff, Nat.reduceEqDiff, Nat.reduceDiv, Nat.reduceMod, Nat.reducePow, Nat.reduceBEq, Nat.reduceBNe, Int.reduceLT, Int.reduceLE, Int.reduceGT, Int.reduceGE, Int.reduceBEq, Int.reduceBNe, Int.reduceToNat, Int.reduceAdd, Int.reduceSub, Int.reduceMul, Int.reduceEq, Int.reduceNeg, reduceCtorEq, decide_true, decide_false, Bool.false_eq_true, ty3, a2]
        refine ⟨n - 1, ⟨by omega, fun i h1 h2 => ?_⟩, by omega, ?_⟩
        · by_cases hi : i = n - 1
          · rw [hi]; exact hl
          · exact h0 i (by omega) h2
        · refine weak_of rfl ?_ ?_ ?_
          · (simp only [go_sem, List.isEmpty_nil, isC, eq_self, reduceIte, Nat.reduceAdd, Nat.reduceMul, Nat.reduceSub, Nat.reduceLT, Nat.reduceLeDiff, Nat.reduceEqDiff, Nat.reduceDiv, Nat.reduceMod, Nat.reducePow, Nat.reduceBEq, Nat.reduceBNe, Int.reduceLT, Int.reduceLE, Int.reduceGT, Int.reduceGE, Int.reduceBEq, Int.reduceBNe, Int.reduceToNat, Int.reduceAdd, Int.reduceSub, Int.reduceMul, Int.reduceEq, Int.reduceNeg, reduceCtorEq, decide_true, decide_false, Bool.false_eq_true]; try rfl)
          · (simp only [go_sem, List.isEmpty_nil, isC, eq_self, reduceIte, Nat.reduceAdd, Nat.reduceMul, Nat.reduceSub, Nat.reduceLT, Nat.reduceLeDiff, Nat.reduceEqDiff, Nat.reduceDiv, Nat.reduceMod, Nat.reducePow, Nat.reduceBEq, Nat.reduceBNe, Int.reduceLT, Int.reduceLE, Int.reduceGT, Int.reduceGE, Int.reduceBEq, Int.reduceBNe, Int.reduceToNat, Int.reduceAdd, Int.reduceSub, Int.reduceMul, Int.reduceEq, Int.reduceNeg, reduceCtorEq, decide_true, decide_false, Bool.false_eq_true]; try rfl)
          · (simp only [go_sem, List.isEmpty_nil, isC, eq_self, reduceIte, Nat.reduceAdd, Nat.reduceMul, Nat.reduceSub, Nat.reduceLT, Nat.reduceLeDiff, Nat.reduceEqDiff, Nat.reduceDiv, Nat.reduceMod, Nat.reducePow, Nat.reduceBEq, Nat.reduceBNe, Int.reduceLT, Int.reduceLE, Int.reduceGT, Int.reduceGE, Int.reduceBEq, Int.reduceBNe, Int.reduceToNat, Int.reduceAdd, Int.reduceSub, Int.reduceMul, Int.reduceEq, Int.reduceNeg, reduceCtorEq, decide_true, decide_false, Bool.false_eq_true]; try rfl)
      · have hl' : (l.getD (n - 1) 0 == 0) = false := by simp only [beq_eq_false_iff_ne]; exact hl
        simp only [L53r2, go_sem, List.isEmpty_nil, isC, eq_self, reduceIte, Nat.reduceAdd, Nat.reduceMul, Nat.reduceSub, Nat.reduceLT, Nat.reduceLeDiff, Nat.reduceEqDiff, Nat.reduceDiv, Nat.reduceMod, Nat.reducePow, Nat.reduceBEq, Nat.reduceBNe, Int.reduceLT, Int.reduceLE, Int.reduceGT, Int.reduceGE, Int.reduceBEq, Int.reduceBNe, Int.reduceToNat, Int.reduceAdd, Int.reduceSub, Int.reduceMul, Int.reduceEq, Int.reduceNeg, reduceCtorEq, decide_true, decide_false, Bool.false_eq_true, ty3, ty22, ty28, a1, a2, a3, a4, a5, hl']
        refine Lwp.cond rfl (fun h => by cases h) (fun _ => Lwp.exit ?_)
        simp only [go_sem, List.isEmpty_nil, isC, eq_self, reduceIte, Nat.reduceAdd, Nat.reduceMul, Nat.reduceSub, Nat.reduceLT, Nat.reduceLeDiff, Nat.reduceEqDiff, Nat.reduceDiv, Nat.reduceMod, Nat.reducePow, Nat.reduceBEq, Nat.reduceBNe, Int.reduceLT, Int.reduceLE, Int.reduceGT, Int.reduceGE, Int.reduceBEq, Int.reduceBNe, Int.reduceToNat, Int.reduceAdd, Int.reduceSub, Int.reduceMul, Int.reduceEq, Int.reduceNeg, reduceCtorEq, decide_true, decide_false, Bool.false_eq_true]
        exact fin (.inr hl) _ _ rfl rfl

noncomputable def S52 : List AV → Option Ret := nz (sumOf (fun p : List Int × Nat => match p with | (l, i) => (l.length ≤ 1099511627776)) (fun p : List Int × Nat => match p with | (l, i) => [.slc l.length (ints .u64 l), .int .i64 i]) (fun p : List Int × Nat => match p with | (l, i) => ⟨.int .u64 (l.getD i 0), none⟩))
theorem S52_eq (l : List Int) (i : Nat) (h0 : l.length ≤ 1099511627776) : S52 [.slc l.length (ints .u64 l), .int .i64 i] = some ⟨.int .u64 (l.getD i 0), none⟩ :=
  sumOf_eq (dom := (fun p : List Int × Nat => match p with | (l, i) => (l.length ≤ 1099511627776))) (enc := (fun p : List Int × Nat => match p with | (l, i) => [.slc l.length (ints .u64 l), .int .i64 i])) (out := (fun p : List Int × Nat => match p with | (l, i) => ⟨.int .u64 (l.getD i 0), none⟩)) (l, i) h0 (fun y _ e => by
    obtain ⟨y0, y1⟩ := y
    simp only [List.cons.injEq, AV.agg.injEq, AV.int.injEq, AV.slc.injEq, AV.iptr.injEq, AV.bool.injEq, AV.str.injEq, ints_injEq, dig_injEq,  Int.ofNat_inj, BitVec.toNat_inj, true_and, and_true] at e
    first | with_reducible rfl | simp only [e] | rfl)
theorem S52_inv {args : List AV} {r : Ret} (h : sumOf (fun p : List Int × Nat => match p with | (l, i) => (l.length ≤ 1099511627776)) (fun p : List Int × Nat => match p with | (l, i) => [.slc l.length (ints .u64 l), .int .i64 i]) (fun p : List Int × Nat => match p with | (l, i) => ⟨.int .u64 (l.getD i 0), none⟩) args = some r) : ∃ (l : List Int) (i : Nat), ((l.length ≤ 1099511627776)) ∧ args = [.slc l.length (ints .u64 l), .int .i64 i] ∧ r = ⟨.int .u64 (l.getD i 0), none⟩ := by
  obtain ⟨x, h1, h2, h3⟩ := sumOf_inv h
  obtain ⟨l, i⟩ := x
  exact ⟨l, i, h1, h2.symm, h3⟩


set_option maxRecDepth 100000 in
theorem snd52 : SndE Tryd.prog NoG 52 S52 := by
  refine snd_nz (snd_by [] [] Tryd.func52 (by kernel_rfl) lite52 nt52 rs52 trivial trivial (fun hT args r h => ?_))
  obtain ⟨l, i, hd0, rfl, rfl⟩ := S52_inv h
  clear h
  have hM := hM0
  refine ⟨Nat.le_of_ble_eq_true rfl, fun F => ?_⟩
  unfold L52
  refine Lwp.seq (Lwp.regI hT ?_)
  simp only [L52r0, go_sem, List.isEmpty_nil, isC, eq_self, reduceIte, Nat.reduceAdd, Nat.reduceMul, Nat.reduceSub, Nat.reduceLT, Nat.reduceLeDiff, Nat.reduceEqDiff, Nat.reduceDiv, Nat.reduceMod, Nat.reducePow, Nat.reduceBEq, Nat.reduceBNe, Int.reduceLT, Int.reduceLE, Int.reduceGT, Int.reduceGE, Int.reduceBEq, Int.reduceBNe, Int.reduceToNat, Int.reduceAdd, Int.reduceSub, Int.reduceMul, Int.reduceEq, Int.reduceNeg, reduceCtorEq, decide_true, decide_false, Bool.false_eq_true, ty3, ty4, ty22, ty23, ty24, ty27, ty28, eq24]
  refine Lwp.seq (Lwp.seq (Lwp.region hT ?_))
  by_cases hi : i < l.length
  · have a1 : (i : Int) < l.length := by omega
    have a2 : (0 : Int) ≤ i := by omega
    simp only [L52r1, go_sem, List.isEmpty_nil, isC, eq_self, reduceIte, Nat.reduceAdd, Nat.reduceMul, Nat.reduceSub, Nat.reduceLT, Nat.reduceLeDiff, Nat.reduceEqDiff, Nat.reduceDiv, Nat.reduceMod, Nat.reducePow, Nat.reduceBEq, Nat.reduceBNe, Int.reduceLT, Int.reduceLE, Int.reduceGT, Int.reduceGE, Int.reduceBEq, Int.reduceBNe, Int.reduceToNat, Int.reduceAdd, Int.reduceSub, Int.reduceMul, Int.reduceEq, Int.reduceNeg, reduceCtorEq, decide_true, decide_false, Bool.false_eq_true, ty3, ty28, a1]
    refine Lwp.cond rfl (fun _ => ?_) (fun h => by cases h)
    refine Lwp.seq (Lwp.regI hT ?_)
    simp only [L52r2, go_sem, List.isEmpty_nil, isC, eq_self, reduceIte, Nat.reduceAdd, Nat.reduceMul, Nat.reduceSub, Nat.reduceLT, Nat.reduceLeDiff, Nat.reduceEqDiff, Nat.reduceDiv, Nat.reduceMod, Nat.reducePow, Nat.reduceBEq, Nat.reduceBNe, Int.reduceLT, Int.reduceLE, Int.reduceGT, Int.reduceGE, Int.reduceBEq, Int.reduceBNe, Int.reduceToNat, Int.reduceAdd, Int.reduceSub, Int.reduceMul, Int.reduceEq, Int.reduceNeg, reduceCtorEq, decide_true, decide_false, Bool.false_eq_true, ty3, ty4, ty22, ty23, ty24, ty27, ty28, eq24, a1, a2, hi]
    refine Lwp.ret (post_val (v := .int .u64 (l.getD i 0)) ?_ ?_)
    · simp only [go_sem, List.isEmpty_nil, isC, eq_self, reduceIte, Nat.reduceAdd, Nat.reduceMul, Nat.reduceSub, Nat.reduceLT, Nat.reduceLeDiff, Nat.reduceEqDiff, Nat.reduceDiv, Nat.reduceMod, Nat.reducePow, Nat.reduceBEq, Nat.reduceBNe, Int.reduceLT, Int.reduceLE, Int.reduceGT, Int.reduceGE, Int.reduceBEq, Int.reduceBNe, Int.reduceToNat, Int.reduceAdd, Int.reduceSub, Int.reduceMul, Int.reduceEq, Int.reduceNeg, reduceCtorEq, decide_true, decide_false, Bool.false_eq_true]
    · simp only [go_sem, List.isEmpty_nil, isC, eq_self, reduceIte, Nat.reduceAdd, Nat.reduceMul, Nat.reduceSub, Nat.reduceLT, Nat.reduceLeDiff, Nat.reduceEqDiff, Nat.reduceDiv, Nat.reduceMod, Nat.reducePow, Nat.reduceBEq, Nat.reduceBNe, Int.reduceLT, Int.reduceLE, Int.reduceGT, Int.reduceGE, Int.reduceBEq, Int.reduceBNe, Int.reduceToNat, Int.reduceAdd, Int.reduceSub, Int.reduceMul, Int.reduceEq, Int.reduceNeg, reduceCtorEq, decide_true, decide_false, Bool.false_eq_true]
  · have a1 : ¬ (i : Int) < l.length := by omega
    simp only [L52r1, go_sem, List.isEmpty_nil, isC, eq_self, reduceIte, Nat.reduceAdd, Nat.reduceMul, Nat.reduceSub, Nat.reduceLT, Nat.reduceLeDiff, Nat.reduceEqDiff, Nat.reduceDiv, Nat.reduceMod, Nat.reducePow, Nat.reduceBEq, Nat.reduceBNe, Int.reduceLT, Int.reduceLE, Int.reduceGT, Int.reduceGE, Int.reduceBEq, Int.reduceBNe, Int.reduceToNat, Int.reduceAdd, Int.reduceSub, Int.reduceMul, Int.reduceEq, Int.reduceNeg, reduceCtorEq, decide_true, decide_false, Bool.false_eq_true, ty3, ty28, a1]
    refine Lwp.cond rfl (fun h => by cases h) (fun _ => Lwp.skip ?_)
    simp only [go_sem, List.isEmpty_nil, isC, eq_self, reduceIte, Nat.reduceAdd, Nat.reduceMul, Nat.reduceSub, Nat.reduceLT, Nat.reduceLeDiff, Nat.reduceEqDiff, Nat.reduceDiv, Nat.reduceMod, Nat.reducePow, Nat.reduceBEq, Nat.reduceBNe, Int.reduceLT, Int.reduceLE, Int.reduceGT, Int.reduceGE, Int.reduceBEq, Int.reduceBNe, Int.reduceToNat, Int.reduceAdd, Int.reduceSub, Int.reduceMul, Int.reduceEq, Int.reduceNeg, reduceCtorEq, decide_true, decide_false, Bool.false_eq_true]
    refine Lwp.seq (Lwp.regI hT ?_)
    simp only [L52r3, go_sem, List.isEmpty_nil, isC, eq_self, reduceIte, Nat.reduceAdd, Nat.reduceMul, Nat.reduceSub, Nat.reduceLT, Nat.reduceLeDiff, Nat.reduceEqDiff, Nat.reduceDiv, Nat.reduceMod, Nat.reducePow, Nat.reduceBEq, Nat.reduceBNe, Int.reduceLT, Int.reduceLE, Int.reduceGT, Int.reduceGE, Int.reduceBEq, Int.reduceBNe, Int.reduceToNat, Int.reduceAdd, Int.reduceSub, Int.reduceMul, Int.reduceEq, Int.reduceNeg, reduceCtorEq, decide_true, decide_false, Bool.false_eq_true, ty3, ty4, ty22, ty23, ty24, ty27, ty28, eq24]
    refine Lwp.ret (post_val (v := .int .u64 (l.getD i 0)) ?_ ?_)
    · simp only [go_sem, List.isEmpty_nil, isC, eq_self, reduceIte, Nat.reduceAdd, Nat.reduceMul, Nat.reduceSub, Nat.reduceLT, Nat.reduceLeDiff, Nat.reduceEqDiff, Nat.reduceDiv, Nat.reduceMod, Nat.reducePow, Nat.reduceBEq, Nat.reduceBNe, Int.reduceLT, Int.reduceLE, Int.reduceGT, Int.reduceGE, Int.reduceBEq, Int.reduceBNe, Int.reduceToNat, Int.reduceAdd, Int.reduceSub, Int.reduceMul, Int.reduceEq, Int.reduceNeg, reduceCtorEq, decide_true, decide_false, Bool.false_eq_true]
      rw [List.getD_eq_getElem?_getD, List.getElem?_eq_none (by omega)]; rfl
    · simp only [go_sem, List.isEmpty_nil, isC, eq_self, reduceIte, Nat.reduceAdd, Nat.reduceMul, Nat.reduceSub, Nat.reduceLT, Nat.reduceLeDiff, Nat.reduceEqDiff, Nat.reduceDiv, Nat.reduceMod, Nat.reducePow, Nat.reduceBEq, Nat.reduceBNe, Int.reduceLT, Int.reduceLE, Int.reduceGT, Int.reduceGE, Int.reduceBEq, Int.reduceBNe, Int.reduceToNat, Int.reduceAdd, Int.reduceSub, Int.reduceMul, Int.reduceEq, Int.reduceNeg, reduceCtorEq, decide_true, decide_false, Bool.false_eq_true]

noncomputable def S37 : List AV → Option Ret := nz (sumOf (fun p : Nat × Nat => match p with | (x, y) => ((dig x).length ≤ 1099511627776) ∧ ((dig y).length ≤ 1099511627776)) (fun p : Nat × Nat => match p with | (x, y) => [.slc (dig (x)).length (ints .u64 (dig (x))), .slc (dig (y)).length (ints .u64 (dig (y)))]) (fun p : Nat × Nat => match p with | (x, y) => ⟨.int .i64 (if x < y then -1 else if y < x then 1 else 0), none⟩))
theorem S37_eq (x : Nat) (y : Nat) (h0 : (dig x).length ≤ 1099511627776) (h1 : (dig y).length ≤ 1099511627776) : S37 [.slc (dig (x)).length (ints .u64 (dig (x))), .slc (dig (y)).length (ints .u64 (dig (y)))] = some ⟨.int .i64 (if x < y then -1 else if y < x then 1 else 0), none⟩ :=
  sumOf_eq (dom := (fun p : Nat × Nat => match p with | (x, y) => ((dig x).length ≤ 1099511627776) ∧ ((dig y).length ≤ 1099511627776))) (enc := (fun p : Nat × Nat => match p with | (x, y) => [.slc (dig (x)).length (ints .u64 (dig (x))), .slc (dig (y)).length (ints .u64 (dig (y)))])) (out := (fun p : Nat × Nat => match p with | (x, y) => ⟨.int .i64 (if x < y then -1 else if y < x then 1 else 0), none⟩)) (x, y) ⟨h0, h1⟩ (fun y _ e => by
    obtain ⟨y0, y1⟩ := y
    simp only [List.cons.injEq, AV.agg.injEq, AV.int.injEq, AV.slc.injEq, AV.iptr.injEq, AV.bool.injEq, AV.str.injEq, ints_injEq, dig_injEq,  Int.ofNat_inj, BitVec.toNat_inj, true_and, and_true] at e
    first | with_reducible rfl | simp only [e] | rfl)
theorem S37_inv {args : List AV} {r : Ret} (h : sumOf (fun p : Nat × Nat => match p with | (x, y) => ((dig x).length ≤ 1099511627776) ∧ ((dig y).length ≤ 1099511627776)) (fun p : Nat × Nat => match p with | (x, y) => [.slc (dig (x)).length (ints .u64 (dig (x))), .slc (dig (y)).length (ints .u64 (dig (y)))]) (fun p : Nat × Nat => match p with | (x, y) => ⟨.int .i64 (if x < y then -1 else if y < x then 1 else 0), none⟩) args = some r) : ∃ (x : Nat) (y : Nat), (((dig x).length ≤ 1099511627776) ∧ ((dig y).length ≤ 1099511627776)) ∧ args = [.slc (dig (x)).length (ints .u64 (dig (x))), .slc (dig (y)).length (ints .u64 (dig (y)))] ∧ r = ⟨.int .i64 (if x < y then -1 else if y < x then 1 else 0), none⟩ := by
  obtain ⟨x, h1, h2, h3⟩ := sumOf_inv h
  obtain ⟨x, y⟩ := x
  exact ⟨x, y, h1, h2.symm, h3⟩


set_option maxRecDepth 100000 in
theorem snd37 : SndE Tryd.prog NoG 37 S37 := by
  refine snd_nz (snd_by [] [] Tryd.func37 (by kernel_rfl) lite37 nt37 rs37 trivial trivial (fun hT args r h => ?_))
  obtain ⟨x, y, ⟨hd0, hd1⟩, rfl, rfl⟩ := S37_inv h
  clear h
  have hM := hM0
  refine ⟨Nat.le_of_ble_eq_true rfl, fun F => ?_⟩
  unfold L37
  refine Lwp.seq (Lwp.regI hT ?_)
  simp only [L37r0, go_sem, List.isEmpty_nil, isC, eq_self, reduceIte, Nat.reduceAdd, Nat.reduceMul, Nat.reduceSub, Nat.reduceLT, Nat.reduceLeDiff, Nat.reduceEqDiff, Nat.reduceDiv, Nat.reduceMod, Nat.reducePow, Nat.reduceBEq, Nat.reduceBNe, Int.reduceLT, Int.reduceLE, Int.reduceGT, Int.reduceGE, Int.reduceBEq, Int.reduceBNe, Int.reduceToNat, Int.reduceAdd, Int.reduceSub, Int.reduceMul, Int.reduceEq, Int.reduceNeg, reduceCtorEq, decide_true, decide_false, Bool.false_eq_true, ty3, ty4, ty22, ty23, ty24, ty27, ty28, eq24]
  refine Lwp.seq (Lwp.seq (Lwp.region hT ?_))
  by_cases hl : (dig x).length = (dig y).length
  · have b1 : (((dig x).length : Int) != ((dig y).length : Int)) = false := by simp [hl]
    simp only [L37r1, go_sem, List.isEmpty_nil, isC, eq_self, reduceIte, Nat.reduceAdd, Nat.reduceMul, Nat.reduceSub, Nat.reduceLT, Nat.reduceLeDiff, Nat.reduceEqDiff, Nat.reduceDiv, Nat.reduceMod, Nat.reducePow, Nat.reduceBEq, Nat.reduceBNe, Int.reduceLT, Int.reduceLE, Int.reduceGT, Int.reduceGE, Int.reduceBEq, Int.reduceBNe, Int.reduceToNat, Int.reduceAdd, Int.reduceSub, Int.reduceMul, Int.reduceEq, Int.reduceNeg, reduceCtorEq, decide_true, decide_false, Bool.false_eq_true, ty3, ty28, b1]
    refine Lwp.cond rfl (fun h => by cases h) (fun _ => Lwp.skip ?_)
    simp only [go_sem, List.isEmpty_nil, isC, eq_self, reduceIte, Nat.reduceAdd, Nat.reduceMul, Nat.reduceSub, Nat.reduceLT, Nat.reduceLeDiff, Nat.reduceEqDiff, Nat.reduceDiv, Nat.reduceMod, Nat.reducePow, Nat.reduceBEq, Nat.reduceBNe, Int.reduceLT, Int.reduceLE, Int.reduceGT, Int.reduceGE, Int.reduceBEq, Int.reduceBNe, Int.reduceToNat, Int.reduceAdd, Int.reduceSub, Int.reduceMul, Int.reduceEq, Int.reduceNeg, reduceCtorEq, decide_true, decide_false, Bool.false_eq_true]
    refine Lwp.seq (Lwp.seq (Lwp.region hT ?_))
    have b2 : IntKind.i64.wrap (((dig x).length : Int) - 1) = ((dig x).length : Int) - 1 := wrap_i64 (by omega) (by omega)
    simp only [L37r5, go_sem, List.isEmpty_nil, isC, eq_self, reduceIte, Nat.reduceAdd, Nat.reduceMul, Nat.reduceSub, Nat.reduceLT, Nat.reduceLeDiff, Nat.reduceEqDiff, Nat.reduceDiv, Nat.reduceMod, Nat.reducePow, Nat.reduceBEq, Nat.reduceBNe, Int.reduceLT, Int.reduceLE, Int.reduceGT, Int.reduceGE, Int.reduceBEq, Int.reduceBNe, Int.reduceToNat, Int.reduceAdd, Int.reduceSub, Int.reduceMul, Int.reduceEq, Int.reduceNeg, reduceCtorEq, decide_true, decide_false, Bool.false_eq_true, ty3, ty28, b2]
    refine Lwp.block (Lwp.whl (fun n : Nat => { nt := 41, env := [(0, .slc (dig (x)).length (ints .u64 (dig (x)))), (1, .slc (dig (y)).length (ints .u64 (dig (y)))), (5, .int .i64 ((n : Int) - 1))], mem := [], next := 0 }) (fun n => n ≤ (dig x).length ∧ x / 4294967296 ^ n = y / 4294967296 ^ n) (fun n => n) (dig x).length ⟨Nat.le_refl _, ?_⟩ ?_ ?_)
    · rw [Nat.div_eq_of_lt ((dig_len_le x _).1 (Nat.le_refl _)), Nat.div_eq_of_lt ((dig_len_le y _).1 (by omega))]
    · refine weak_of rfl ?_ ?_ ?_
      · (simp only [go_sem, List.isEmpty_nil, isC, eq_self, reduceIte, Nat.reduceAdd, Nat.reduceMul, Nat.reduceSub, Nat.reduceLT, Nat.reduceLeDiff, Nat.reduceEqDiff, Nat.reduceDiv, Nat.reduceMod, Nat.reducePow, Nat.reduceBEq, Nat.reduceBNe, Int.reduceLT, Int.reduceLE, Int.reduceGT, Int.reduceGE, Int.reduceBEq, Int.reduceBNe, Int.reduceToNat, Int.reduceAdd, Int.reduceSub, Int.reduceMul, Int.reduceEq, Int.reduceNeg, reduceCtorEq, decide_true, decide_false, Bool.false_eq_true]; try rfl)
      · (simp only [go_sem, List.isEmpty_nil, isC, eq_self, reduceIte, Nat.reduceAdd, Nat.reduceMul, Nat.reduceSub, Nat.reduceLT, Nat.reduceLeDiff, Nat.reduceEqDiff, Nat.reduceDiv, Nat.reduceMod, Nat.reducePow, Nat.reduceBEq, Nat.reduceBNe, Int.reduceLT, Int.reduceLE, Int.reduceGT, Int.reduceGE, Int.reduceBEq, Int.reduceBNe, Int.reduceToNat, Int.reduceAdd, Int.reduceSub, Int.reduceMul, Int.reduceEq, Int.reduceNeg, reduceCtorEq, decide_true, decide_false, Bool.false_eq_true]; try rfl)
      · (simp only [go_sem, List.isEmpty_nil, isC, eq_self, reduceIte, Nat.reduceAdd, Nat.reduceMul, Nat.reduceSub, Nat.reduceLT, Nat.reduceLeDiff, Nat.reduceEqDiff, Nat.reduceDiv, Nat.reduceMod, Nat.reducePow, Nat.reduceBEq, Nat.reduceBNe, Int.reduceLT, Int.reduceLE, Int.reduceGT, Int.reduceGE, Int.reduceBEq, Int.reduceBNe, Int.reduceToNat, Int.reduceAdd, Int.reduceSub, Int.reduceMul, Int.reduceEq, Int.reduceNeg, reduceCtorEq, decide_true, decide_false, Bool.false_eq_true]; try rfl)
    · rintro n ⟨hn, heq⟩
      by_cases hz : n = 0
      · subst hz
        refine Lwp.seq (Lwp.seq (Lwp.region hT ?_))
        have c1 : ¬ ((0 : Nat) : Int) - 1 ≥ 0 := by omega
        simp only [L37r6, go_sem, List.isEmpty_nil, isC, eq_self, reduceIte, Nat.reduceAdd, Nat.reduceMul, Nat.reduceSub, Nat.reduceLT, Nat.reduceLeDiff, Nat.reduceEqDiff, Nat.reduceDiv, Nat.reduceMod, Nat.reducePow, Nat.reduceBEq, Nat.reduceBNe, Int.reduceLT, Int.reduceLE, Int.reduceGT, Int.reduceGE, Int.reduceBEq, Int.reduceBNe, Int.reduceToNat, Int.reduceAdd, Int.reduceSub, Int.reduceMul, Int.reduceEq, Int.reduceNeg, reduceCtorEq, decide_true, decide_false, Bool.false_eq_true, ty3, c1]
        refine Lwp.cond rfl (fun h => by cases h) (fun _ => Lwp.exit ?_)
        simp only [go_sem, List.isEmpty_nil, isC, eq_self, reduceIte, Nat.reduceAdd, Nat.reduceMul, Nat.reduceSub, Nat.reduceLT, Nat.reduceLeDiff, Nat.reduceEqDiff, Nat.reduceDiv, Nat.reduceMod, Nat.reducePow, Nat.reduceBEq, Nat.reduceBNe, Int.reduceLT, Int.reduceLE, Int.reduceGT, Int.reduceGE, Int.reduceBEq, Int.reduceBNe, Int.reduceToNat, Int.reduceAdd, Int.reduceSub, Int.reduceMul, Int.reduceEq, Int.reduceNeg, reduceCtorEq, decide_true, decide_false, Bool.false_eq_true]
        refine Lwp.seq (Lwp.regI hT ?_)
        simp only [L37r12, go_sem, List.isEmpty_nil, isC, eq_self, reduceIte, Nat.reduceAdd, Nat.reduceMul, Nat.reduceSub, Nat.reduceLT, Nat.reduceLeDiff, Nat.reduceEqDiff, Nat.reduceDiv, Nat.reduceMod, Nat.reducePow, Nat.reduceBEq, Nat.reduceBNe, Int.reduceLT, Int.reduceLE, Int.reduceGT, Int.reduceGE, Int.reduceBEq, Int.reduceBNe, Int.reduceToNat, Int.reduceAdd, Int.reduceSub, Int.reduceMul, Int.reduceEq, Int.reduceNeg, reduceCtorEq, decide_true, decide_false, Bool.false_eq_true, ty3, ty4, ty22, ty23, ty24, ty27, ty28, eq24]
        simp only [Nat.pow_zero, Nat.div_one] at heq
        subst heq
        refine Lwp.ret (post_val (v := .int .i64 0) ?_ ?_)
        · simp only [go_sem, List.isEmpty_nil, isC, eq_self, reduceIte, Nat.reduceAdd, Nat.reduceMul, Nat.reduceSub, Nat.reduceLT, Nat.reduceLeDiff, Nat.reduceEqDiff, Nat.reduceDiv, Nat.reduceMod, Nat.reducePow, Nat.reduceBEq, Nat.reduceBNe, Int.reduceLT, Int.reduceLE, Int.reduceGT, Int.reduceGE, Int.reduceBEq, Int.reduceBNe, Int.reduceToNat, Int.reduceAdd, Int.reduceSub, Int.reduceMul, Int.reduceEq, Int.reduceNeg, reduceCtorEq, decide_true, decide_false, Bool.false_eq_true]
        · simp only [go_sem, List.isEmpty_nil, isC, eq_self, reduceIte, Nat.reduceAdd, Nat.reduceMul, Nat.reduceSub, Nat.reduceLT, Nat.reduceLeDiff, Nat.reduceEqDiff, Nat.reduceDiv, Nat.reduceMod, Nat.reducePow, Nat.reduceBEq, Nat.reduceBNe, Int.reduceLT, Int.reduceLE, Int.reduceGT, Int.reduceGE, Int.reduceBEq, Int.reduceBNe, Int.reduceToNat, Int.reduceAdd, Int.reduceSub, Int.reduceMul, Int.reduceEq, Int.reduceNeg, reduceCtorEq, decide_true, decide_false, Bool.false_eq_true, Nat.lt_irrefl]
      · obtain ⟨j, rfl⟩ : ∃ j, n = j + 1 := ⟨n - 1, by omega⟩
        have c0 : ((j + 1 : Nat) : Int) - 1 = (j : Int) := by omega
        have c1 : (j : Int) ≥ 0 := by omega
        have c2 : (0 : Int) ≤ (j : Int) := by omega
        have c3 : (j : Int) < ((dig x).length : Int) := by omega
        have c4 : (j : Int) < ((dig y).length : Int) := by omega
        have c5 : j < (dig x).length := by omega
        have c6 : j < (dig y).length := by omega
        have c7 : IntKind.i64.wrap ((j : Int) - 1) = (j : Int) - 1 := wrap_i64 (by omega) (by omega)
        refine Lwp.seq (Lwp.seq (Lwp.region hT ?_))
        simp only [L37r6, go_sem, List.isEmpty_nil, isC, eq_self, reduceIte, Nat.reduceAdd, Nat.reduceMul, Nat.reduceSub, Nat.reduceLT, Nat.reduceLeDiff, Nat.reduceEqDiff, Nat.reduceDiv, Nat.reduceMod, Nat.reducePow, Nat.reduceBEq, Nat.reduceBNe, Int.reduceLT, Int.reduceLE, Int.reduceGT, Int.reduceGE, Int.reduceBEq, Int.reduceBNe, Int.reduceToNat, Int.reduceAdd, Int.reduceSub, Int.reduceMul, Int.reduceEq, Int.reduceNeg, reduceCtorEq, decide_true, decide_false, Bool.false_eq_true, ty3, c0, c1]
        refine Lwp.cond rfl (fun _ => Lwp.skip ?_) (fun h => by cases h)
        simp only [go_sem, List.isEmpty_nil, isC, eq_self, reduceIte, Nat.reduceAdd, Nat.reduceMul, Nat.reduceSub, Nat.reduceLT, Nat.reduceLeDiff, Nat.reduceEqDiff, Nat.reduceDiv, Nat.reduceMod, Nat.reducePow, Nat.reduceBEq, Nat.reduceBNe, Int.reduceLT, Int.reduceLE, Int.reduceGT, Int.reduceGE, Int.reduceBEq, Int.reduceBNe, Int.reduceToNat, Int.reduceAdd, Int.reduceSub, Int.reduceMul, Int.reduceEq, Int.reduceNeg, reduceCtorEq, decide_true, decide_false, Bool.false_eq_true]
        refine Lwp.seq (Lwp.block ?_)
        refine Lwp.seq (Lwp.seq (Lwp.regD hT hM ?_))
        have hx := dig_getD x j
        have hy := dig_getD y j
        by_cases h1 : (dig x).getD j 0 < (dig y).getD j 0
        · simp only [L37r8, go_sem, List.isEmpty_nil, isC, eq_self, reduceIte, Nat.reduceAdd, Nat.reduceMul, Nat.reduceSub, Nat.reduceLT, Nat.reduceLeDiff, Nat.reduceEqDiff, Nat.reduceDiv, Nat.reduceMod, Nat.reducePow, Nat.reduceBEq, Nat.reduceBNe, Int.reduceLT, Int.reduceLE, Int.reduceGT, Int.reduceGE, Int.reduceBEq, Int.reduceBNe, Int.reduceToNat, Int.reduceAdd, Int.reduceSub, Int.reduceMul, Int.reduceEq, Int.reduceNeg, reduceCtorEq, decide_true, decide_false, Bool.false_eq_true, ty3, ty22, ty28, c2, c3, c4, c5, c6, h1]
          refine Lwp.cond rfl (fun _ => ?_) (fun h => by cases h)
          refine Lwp.seq (Lwp.regI hT ?_)
          simp only [L37r9, go_sem, List.isEmpty_nil, isC, eq_self, reduceIte, Nat.reduceAdd, Nat.reduceMul, Nat.reduceSub, Nat.reduceLT, Nat.reduceLeDiff, Nat.reduceEqDiff, Nat.reduceDiv, Nat.reduceMod, Nat.reducePow, Nat.reduceBEq, Nat.reduceBNe, Int.reduceLT, Int.reduceLE, Int.reduceGT, Int.reduceGE, Int.reduceBEq, Int.reduceBNe, Int.reduceToNat, Int.reduceAdd, Int.reduceSub, Int.reduceMul, Int.reduceEq, Int.reduceNeg, reduceCtorEq, decide_true, decide_false, Bool.false_eq_true, ty3, ty4, ty22, ty23, ty24, ty27, ty28, eq24]
          refine Lwp.ret ?_
          simp only [go_sem, List.isEmpty_nil, isC, eq_self, reduceIte, Nat.reduceAdd, Nat.reduceMul, Nat.reduceSub, Nat.reduceLT, Nat.reduceLeDiff, Nat.reduceEqDiff, Nat.reduceDiv, Nat.reduceMod, Nat.reducePow, Nat.reduceBEq, Nat.reduceBNe, Int.reduceLT, Int.reduceLE, Int.reduceGT, Int.reduceGE, Int.reduceBEq, Int.reduceBNe, Int.reduceToNat, Int.reduceAdd, Int.reduceSub, Int.reduceMul, Int.reduceEq, Int.reduceNeg, reduceCtorEq, decide_true, decide_false, Bool.false_eq_true]
          refine (post_val (v := .int .i64 (-1)) ?_ ?_)
          · simp only [go_sem, List.isEmpty_nil, isC, eq_self, reduceIte, Nat.reduceAdd, Nat.reduceMul, Nat.reduceSub, Nat.reduceLT, Nat.reduceLeDiff, Nat.reduceEqDiff, Nat.reduceDiv, Nat.reduceMod, Nat.reducePow, Nat.reduceBEq, Nat.reduceBNe, Int.reduceLT, Int.reduceLE, Int.reduceGT, Int.reduceGE, Int.reduceBEq, Int.reduceBNe, Int.reduceToNat, Int.reduceAdd, Int.reduceSub, Int.reduceMul, Int.reduceEq, Int.reduceNeg, reduceCtorEq, decide_true, decide_false, Bool.false_eq_true]
          · simp only [go_sem, List.isEmpty_nil, isC, eq_self, reduceIte, Nat.reduceAdd, Nat.reduceMul, Nat.reduceSub, Nat.reduceLT, Nat.reduceLeDiff, Nat.reduceEqDiff, Nat.reduceDiv, Nat.reduceMod, Nat.reducePow, Nat.reduceBEq, Nat.reduceBNe, Int.reduceLT, Int.reduceLE, Int.reduceGT, Int.reduceGE, Int.reduceBEq, Int.reduceBNe, Int.reduceToNat, Int.reduceAdd, Int.reduceSub, Int.reduceMul, Int.reduceEq, Int.reduceNeg, reduceCtorEq, decide_true, decide_false, Bool.false_eq_true]
            rw [if_pos]
            exact lt_of_digs heq (by omega)
        · simp only [L37r8, go_sem, List.isEmpty_nil, isC, eq_self, reduceIte, Nat.reduceAdd, Nat.reduceMul, Nat.reduceSub, Nat.reduceLT, Nat.reduceLeDiff, Nat.reduceEqDiff, Nat.reduceDiv, Nat.reduceMod, Nat.reducePow, Nat.reduceBEq, Nat.reduceBNe, Int.reduceLT, Int.reduceLE, Int.reduceGT, Int.reduceGE, Int.reduceBEq, Int.reduceBNe, Int.reduceToNat, Int.reduceAdd, Int.reduceSub, Int.reduceMul, Int.reduceEq, Int.reduceNeg, reduceCtorEq, decide_true, decide_false, Bool.false_eq_true, ty3, ty22, ty28, c2, c3, c4, c5, c6, h1]
          refine Lwp.cond rfl (fun h => by cases h) (fun _ => Lwp.skip ?_)
          simp only [go_sem, List.isEmpty_nil, isC, eq_self, reduceIte, Nat.reduceAdd, Nat.reduceMul, Nat.reduceSub, Nat.reduceLT, Nat.reduceLeDiff, Nat.reduceEqDiff, Nat.reduceDiv, Nat.reduceMod, Nat.reducePow, Nat.reduceBEq, Nat.reduceBNe, Int.reduceLT, Int.reduceLE, Int.reduceGT, Int.reduceGE, Int.reduceBEq, Int.reduceBNe, Int.reduceToNat, Int.reduceAdd, Int.reduceSub, Int.reduceMul, Int.reduceEq, Int.reduceNeg, reduceCtorEq, decide_true, decide_false, Bool.false_eq_true]
          refine Lwp.seq (Lwp.regD hT hM ?_)
          by_cases h2 : (dig x).getD j 0 > (dig y).getD j 0
          · simp only [L37r10, go_sem, List.isEmpty_nil, isC, eq_self, reduceIte, Nat.reduceAdd, Nat.reduceMul, Nat.reduceSub, Nat.reduceLT, Nat.reduceLeDiff, Nat.reduceEqDiff, Nat.reduceDiv, Nat.reduceMod, Nat.reducePow, Nat.reduceBEq, Nat.reduceBNe, Int.reduceLT, Int.reduceLE, Int.reduceGT, Int.reduceGE, Int.reduceBEq, Int.reduceBNe, Int.reduceToNat, Int.reduceAdd, Int.reduceSub, Int.reduceMul, Int.reduceEq, Int.reduceNeg, reduceCtorEq, decide_true, decide_false, Bool.false_eq_true, ty3, ty22, ty28, c2, c3, c4, c5, c6, h2]
            refine Lwp.cond rfl (fun _ => ?_) (fun h => by cases h)
            refine Lwp.seq (Lwp.regI hT ?_)
            simp only [L37r11, go_sem, List.isEmpty_nil, isC, eq_self, reduceIte, Nat.reduceAdd, Nat.reduceMul, Nat.reduceSub, Nat.reduceLT, Nat.reduceLeDiff, Nat.reduceEqDiff, Nat.reduceDiv, Nat.reduceMod, Nat.reducePow, Nat.reduceBEq, Nat.reduceBNe, Int.reduceLT, Int.reduceLE, Int.reduceGT, Int.reduceGE, Int.reduceBEq, Int.reduceBNe, Int.reduceToNat, Int.reduceAdd, Int.reduceSub, Int.reduceMul, Int.reduceEq, Int.reduceNeg, reduceCtorEq, decide_true, decide_false, Bool.false_eq_true, ty3, ty4, ty22, ty23, ty24, ty27, ty28, eq24]
            refine Lwp.ret ?_
            simp only [go_sem, List.isEmpty_nil, isC, eq_self, reduceIte, Nat.reduceAdd, Nat.reduceMul, Nat.reduceSub, Nat.reduceLT, Nat.reduceLeDiff, Nat.reduceEqDiff, Nat.reduceDiv, Nat.reduceMod, Nat.reducePow, Nat.reduceBEq, Nat.reduceBNe, Int.reduceLT, Int.reduceLE, Int.reduceGT, Int.reduceGE, Int.reduceBEq, Int.reduceBNe, Int.reduceToNat, Int.reduceAdd, Int.reduceSub, Int.reduceMul, Int.reduceEq, Int.reduceNeg, reduceCtorEq, decide_true, decide_false, Bool.false_eq_true]
            refine (post_val (v := .int .i64 1) ?_ ?_)
            · simp only [go_sem, List.isEmpty_nil, isC, eq_self, reduceIte, Nat.reduceAdd, Nat.reduceMul, Nat.reduceSub, Nat.reduceLT, Nat.reduceLeDiff, Nat.reduceEqDiff, Nat.reduceDiv, Nat.reduceMod, Nat.reducePow, Nat.reduceBEq, Nat.reduceBNe, Int.reduceLT, Int.reduceLE, Int.reduceGT, Int.reduceGE, Int.reduceBEq, Int.reduceBNe, Int.reduceToNat, Int.reduceAdd, Int.reduceSub, Int.reduceMul, Int.reduceEq, Int.reduceNeg, reduceCtorEq, decide_true, decide_false, Bool.false_eq_true]
            · simp only [go_sem, List.isEmpty_nil, isC, eq_self, reduceIte, Nat.reduceAdd, Nat.reduceMul, Nat.reduceSub, Nat.reduceLT, Nat.reduceLeDiff, Nat.reduceEqDiff, Nat.reduceDiv, Nat.reduceMod, Nat.reducePow, Nat.reduceBEq, Nat.reduceBNe, Int.reduceLT, Int.reduceLE, Int.reduceGT, Int.reduceGE, Int.reduceBEq, Int.reduceBNe, Int.reduceToNat, Int.reduceAdd, Int.reduceSub, Int.reduceMul, Int.reduceEq, Int.reduceNeg, reduceCtorEq, decide_true, decide_false, Bool.false_eq_true]
              have := lt_of_digs heq.symm (by omega)
              rw [if_neg (by omega), if_pos this]
          · simp only [L37r10, go_sem, List.isEmpty_nil, isC, eq_self, reduceIte, Nat.reduceAdd, Nat.reduceMul, Nat.reduceSub, Nat.reduceLT, Nat.reduceLeDiff, Nat.reduceEqDiff, Nat.reduceDiv, Nat.reduceMod, Nat.reducePow, Nat.reduceBEq, Nat.reduceBNe, Int.reduceLT, Int.reduceLE, Int.reduceGT, Int.reduceGE, Int.reduceBEq, Int.reduceBNe, Int.reduceToNat, Int.reduceAdd, Int.reduceSub, Int.reduceMul, Int.reduceEq, Int.reduceNeg, reduceCtorEq, decide_true, decide_false, Bool.false_eq_true, ty3, ty22, ty28, c2, c3, c4, c5, c6, h2]
            refine Lwp.cond rfl (fun h => by cases h) (fun _ => Lwp.skip ?_)
            simp only [go_sem, List.isEmpty_nil, isC, eq_self, reduceIte, Nat.reduceAdd, Nat.reduceMul, Nat.reduceSub, Nat.reduceLT, Nat.reduceLeDiff, Nat.reduceEqDiff, Nat.reduceDiv, Nat.reduceMod, Nat.reducePow, Nat.reduceBEq, Nat.reduceBNe, Int.reduceLT, Int.reduceLE, Int.reduceGT, Int.reduceGE, Int.reduceBEq, Int.reduceBNe, Int.reduceToNat, Int.reduceAdd, Int.reduceSub, Int.reduceMul, Int.reduceEq, Int.reduceNeg, reduceCtorEq, decide_true, decide_false, Bool.false_eq_true]
            refine Lwp.regI hT ?_
            simp only [L37r7, go_sem, List.isEmpty_nil, isC, eq_self, reduceIte, Nat.reduceAdd, Nat.reduceMul, Nat.reduceSub, Nat.reduceLT, Nat.reduceLeDiff, Nat.reduceEqDiff, Nat.reduceDiv, Nat.reduceMod, Nat.reducePow, Nat.reduceBEq, Nat.reduceBNe, Int.reduceLT, Int.reduceLE, Int.reduceGT, Int.reduceGE, Int.reduceBEq, Int.reduceBNe, Int.reduceToNat, Int.reduceAdd, Int.reduceSub, Int.reduceMul, Int.reduceEq, Int.reduceNeg, reduceCtorEq, decide_true, decide_false, Bool.false_eq_true, ty3, ty4, ty22, ty23, ty24, ty27, ty28, eq24, c7]
            refine ⟨j, ⟨by omega, eq_of_digs heq (by omega)⟩, by omega, ?_⟩
            refine weak_of rfl ?_ ?_ ?_
            · (simp only [go_sem, List.isEmpty_nil, isC, eq_self, reduceIte, Nat.reduceAdd, Nat.reduceMul, Nat.reduceSub, Nat.reduceLT, Nat.reduceLeDiff, Nat.reduceEqDiff, Nat.reduceDiv, Nat.reduceMod, Nat.reducePow, Nat.reduceBEq, Nat.reduceBNe, Int.reduceLT, Int.reduceLE, Int.reduceGT, Int.reduceGE, Int.reduceBEq, Int.reduceBNe, Int.reduceToNat, Int.reduceAdd, Int.reduceSub, Int.reduceMul, Int.reduceEq, Int.reduceNeg, reduceCtorEq, decide_true, decide_false, Bool.false_eq_true]; try rfl)
            · (simp only [go_sem, List.isEmpty_nil, isC, eq_self, reduceIte, Nat.reduceAdd, Nat.reduceMul, Nat.reduceSub, Nat.reduceLT, Nat.reduceLeDiff, Nat.reduceEqDiff, Nat.reduceDiv, Nat.reduceMod, Nat.reducePow, Nat.reduceBEq, Nat.reduceBNe, Int.reduceLT, Int.reduceLE, Int.reduceGT, Int.reduceGE, Int.reduceBEq, Int.reduceBNe, Int.reduceToNat, Int.reduceAdd, Int.reduceSub, Int.reduceMul, Int.reduceEq, Int.reduceNeg, reduceCtorEq, decide_true, decide_false, Bool.false_eq_true]; try rfl)
            · (simp only [go_sem, List.isEmpty_nil, isC, eq_self, reduceIte, Nat.reduceAdd, Nat.reduceMul, Nat.reduceSub, Nat.reduceLT, Nat.reduceLeDiff, Nat.reduceEqDiff, Nat.reduceDiv, Nat.reduceMod, Nat.reducePow, Nat.reduceBEq, Nat.reduceBNe, Int.reduceLT, Int.reduceLE, Int.reduceGT, Int.reduceGE, Int.reduceBEq, Int.reduceBNe, Int.reduceToNat, Int.reduceAdd, Int.reduceSub, Int.reduceMul, Int.reduceEq, Int.reduceNeg, reduceCtorEq, decide_true, decide_false, Bool.false_eq_true]; try rfl)
  · have b1 : (((dig x).length : Int) != ((dig y).length : Int)) = true := by simp; omega
    simp only [L37r1, go_sem, List.isEmpty_nil, isC, eq_self, reduceIte, Nat.reduceAdd, Nat.reduceMul, Nat.reduceSub, Nat.reduceLT, Nat.reduceLeDiff, Nat.reduceEqDiff, Nat.reduceDiv, Nat.reduceMod, Nat.reducePow, Nat.reduceBEq, Nat.reduceBNe, Int.reduceLT, Int.reduceLE, Int.reduceGT, Int.reduceGE, Int.reduceBEq, Int.reduceBNe, Int.reduceToNat, Int.reduceAdd, Int.reduceSub, Int.reduceMul, Int.reduceEq, Int.reduceNeg, reduceCtorEq, decide_true, decide_false, Bool.false_eq_true, ty3, ty28, b1]
    refine Lwp.cond rfl (fun _ => ?_) (fun h => by cases h)
    refine Lwp.seq (Lwp.seq (Lwp.region hT ?_))
    by_cases hlt : ((dig x).length : Int) < ((dig y).length : Int)
    · simp only [L37r2, go_sem, List.isEmpty_nil, isC, eq_self, reduceIte, Nat.reduceAdd, Nat.reduceMul, Nat.reduceSub, Nat.reduceLT, Nat.reduceLeDiff, Nat.reduceEqDiff, Nat.reduceDiv, Nat.reduceMod, Nat.reducePow, Nat.reduceBEq, Nat.reduceBNe, Int.reduceLT, Int.reduceLE, Int.reduceGT, Int.reduceGE, Int.reduceBEq, Int.reduceBNe, Int.reduceToNat, Int.reduceAdd, Int.reduceSub, Int.reduceMul, Int.reduceEq, Int.reduceNeg, reduceCtorEq, decide_true, decide_false, Bool.false_eq_true, ty3, ty28, hlt]
      refine Lwp.cond rfl (fun _ => ?_) (fun h => by cases h)
      refine Lwp.seq (Lwp.regI hT ?_)
      simp only [L37r3, go_sem, List.isEmpty_nil, isC, eq_self, reduceIte, Nat.reduceAdd, Nat.reduceMul, Nat.reduceSub, Nat.reduceLT, Nat.reduceLeDiff, Nat.reduceEqDiff, Nat.reduceDiv, Nat.reduceMod, Nat.reducePow, Nat.reduceBEq, Nat.reduceBNe, Int.reduceLT, Int.reduceLE, Int.reduceGT, Int.reduceGE, Int.reduceBEq, Int.reduceBNe, Int.reduceToNat, Int.reduceAdd, Int.reduceSub, Int.reduceMul, Int.reduceEq, Int.reduceNeg, reduceCtorEq, decide_true, decide_false, Bool.false_eq_true, ty3, ty4, ty22, ty23, ty24, ty27, ty28, eq24]
      refine Lwp.ret (post_val (v := .int .i64 (-1)) ?_ ?_)
      · simp only [go_sem, List.isEmpty_nil, isC, eq_self, reduceIte, Nat.reduceAdd, Nat.reduceMul, Nat.reduceSub, Nat.reduceLT, Nat.reduceLeDiff, Nat.reduceEqDiff, Nat.reduceDiv, Nat.reduceMod, Nat.reducePow, Nat.reduceBEq, Nat.reduceBNe, Int.reduceLT, Int.reduceLE, Int.reduceGT, Int.reduceGE, Int.reduceBEq, Int.reduceBNe, Int.reduceToNat, Int.reduceAdd, Int.reduceSub, Int.reduceMul, Int.reduceEq, Int.reduceNeg, reduceCtorEq, decide_true, decide_false, Bool.false_eq_true]
      · simp only [go_sem, List.isEmpty_nil, isC, eq_self, reduceIte, Nat.reduceAdd, Nat.reduceMul, Nat.reduceSub, Nat.reduceLT, Nat.reduceLeDiff, Nat.reduceEqDiff, Nat.reduceDiv, Nat.reduceMod, Nat.reducePow, Nat.reduceBEq, Nat.reduceBNe, Int.reduceLT, Int.reduceLE, Int.reduceGT, Int.reduceGE, Int.reduceBEq, Int.reduceBNe, Int.reduceToNat, Int.reduceAdd, Int.reduceSub, Int.reduceMul, Int.reduceEq, Int.reduceNeg, reduceCtorEq, decide_true, decide_false, Bool.false_eq_true]
        rw [if_pos (lt_of_lens (by omega))]
    · simp only [L37r2, go_sem, List.isEmpty_nil, isC, eq_self, reduceIte, Nat.reduceAdd, Nat.reduceMul, Nat.reduceSub, Nat.reduceLT, Nat.reduceLeDiff, Nat.reduceEqDiff, Nat.reduceDiv, Nat.reduceMod, Nat.reducePow, Nat.reduceBEq, Nat.reduceBNe, Int.reduceLT, Int.reduceLE, Int.reduceGT, Int.reduceGE, Int.reduceBEq, Int.reduceBNe, Int.reduceToNat, Int.reduceAdd, Int.reduceSub, Int.reduceMul, Int.reduceEq, Int.reduceNeg, reduceCtorEq, decide_true, decide_false, Bool.false_eq_true, ty3, ty28, hlt]
      refine Lwp.cond rfl (fun h => by cases h) (fun _ => Lwp.skip ?_)
      simp only [go_sem, List.isEmpty_nil, isC, eq_self, reduceIte, Nat.reduceAdd, Nat.reduceMul, Nat.reduceSub, Nat.reduceLT, Nat.reduceLeDiff, Nat.reduceEqDiff, Nat.reduceDiv, Nat.reduceMod, Nat.reducePow, Nat.reduceBEq, Nat.reduceBNe, Int.reduceLT, Int.reduceLE, Int.reduceGT, Int.reduceGE, Int.reduceBEq, Int.reduceBNe, Int.reduceToNat, Int.reduceAdd, Int.reduceSub, Int.reduceMul, Int.reduceEq, Int.reduceNeg, reduceCtorEq, decide_true, decide_false, Bool.false_eq_true]
      refine Lwp.seq (Lwp.regI hT ?_)
      simp only [L37r4, go_sem, List.isEmpty_nil, isC, eq_self, reduceIte, Nat.reduceAdd, Nat.reduceMul, Nat.reduceSub, Nat.reduceLT, Nat.reduceLeDiff, Nat.reduceEqDiff, Nat.reduceDiv, Nat.reduceMod, Nat.reducePow, Nat.reduceBEq, Nat.reduceBNe, Int.reduceLT, Int.reduceLE, Int.reduceGT, Int.reduceGE, Int.reduceBEq, Int.reduceBNe, Int.reduceToNat, Int.reduceAdd, Int.reduceSub, Int.reduceMul, Int.reduceEq, Int.reduceNeg, reduceCtorEq, decide_true, decide_false, Bool.false_eq_true, ty3, ty4, ty22, ty23, ty24, ty27, ty28, eq24]
      have := lt_of_lens (x := y) (y := x) (by omega)
      refine Lwp.ret (post_val (v := .int .i64 1) ?_ ?_)
      · simp only [go_sem, List.isEmpty_nil, isC, eq_self, reduceIte, Nat.reduceAdd, Nat.reduceMul, Nat.reduceSub, Nat.reduceLT, Nat.reduceLeDiff, Nat.reduceEqDiff, Nat.reduceDiv, Nat.reduceMod, Nat.reducePow, Nat.reduceBEq, Nat.reduceBNe, Int.reduceLT, Int.reduceLE, Int.reduceGT, Int.reduceGE, Int.reduceBEq, Int.reduceBNe, Int.reduceToNat, Int.reduceAdd, Int.reduceSub, Int.reduceMul, Int.reduceEq, Int.reduceNeg, reduceCtorEq, decide_true, decide_false, Bool.false_eq_true]
      · simp only [go_sem, List.isEmpty_nil, isC, eq_self, reduceIte, Nat.reduceAdd, Nat.reduceMul, Nat.reduceSub, Nat.reduceLT, Nat.reduceLeDiff, Nat.reduceEqDiff, Nat.reduceDiv, Nat.reduceMod, Nat.reducePow, Nat.reduceBEq, Nat.reduceBNe, Int.reduceLT, Int.reduceLE, Int.reduceGT, Int.reduceGE, Int.reduceBEq, Int.reduceBNe, Int.reduceToNat, Int.reduceAdd, Int.reduceSub, Int.reduceMul, Int.reduceEq, Int.reduceNeg, reduceCtorEq, decide_true, decide_false, Bool.false_eq_true]
        rw [if_neg (by omega), if_pos this]
end Eng

