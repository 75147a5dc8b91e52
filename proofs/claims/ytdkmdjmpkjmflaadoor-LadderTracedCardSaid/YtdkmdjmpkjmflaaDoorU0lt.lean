/- Contracts of the program's functions, and laws over them. There is no further condition. -/
import Derived.Test.YtdkmdjmpkjmflaaDoorED
import Derived.Test.YtdkmdjmpkjmflaaDoorChecked
import Derived.KernelRfl
import Derived.Test.YtdkmdjmpkjmflaaDoorRows
import Derived.Laws.Externs
import Derived.Test.YtdkmdjmpkjmflaaDoorEC
set_option linter.unusedVariables false
set_option linter.unusedSimpArgs false
set_option linter.unusedSectionVars false
set_option exponentiation.threshold 2000
namespace Eng
open Go Go.Proofs
theorem ty3 : tyOf Tryd.prog 3 = some ⟨.int .i64, 1, 8, [.int .i64 0], false, true, true⟩ := by kernel_rfl
theorem ty4 : tyOf Tryd.prog 4 = some ⟨.bool, 1, 1, [.bool false], false, true, true⟩ := by kernel_rfl
theorem ty22 : tyOf Tryd.prog 22 = some ⟨.int .u64, 1, 8, [.int .u64 0], false, true, true⟩ := by kernel_rfl
theorem ty23 : tyOf Tryd.prog 23 = some ⟨.array 6 22, 6, 48, ints .u64 (List.replicate 6 0), true, true, true⟩ := by kernel_rfl
theorem ty24 : tyOf Tryd.prog 24 = some ⟨.array 6 22, 6, 48, ints .u64 (List.replicate 6 0), true, true, true⟩ := by kernel_rfl
theorem ty27 : tyOf Tryd.prog 27 = some ⟨.struct #[⟨ "X", 24, 0, false, "", "", 0⟩, ⟨ "Y", 24, 6, false, "", "", 48⟩, ⟨ "None", 4, 12, false, "", "", 96⟩], 13, 104, [.int .u64 0, .int .u64 0, .int .u64 0, .int .u64 0, .int .u64 0, .int .u64 0, .int .u64 0, .int .u64 0, .int .u64 0, .int .u64 0, .int .u64 0, .int .u64 0, .bool false], true, true, true⟩ := by kernel_rfl
theorem ty31 : tyOf Tryd.prog 31 = some ⟨.slice 22, 1, 24, [.nils], false, true, false⟩ := by kernel_rfl
theorem ty33 : tyOf Tryd.prog 33 = some ⟨.struct #[⟨ "None", 4, 0, false, "", "", 0⟩, ⟨ "X", 31, 1, false, "", "", 8⟩, ⟨ "Y", 31, 2, false, "", "", 32⟩], 3, 56, [.bool false, .nils, .nils], true, true, false⟩ := by kernel_rfl
theorem ty39 : tyOf Tryd.prog 39 = some ⟨.interface #[("Error", 105)], 1, 16, [.nili], false, true, true⟩ := by kernel_rfl
theorem ty43 : tyOf Tryd.prog 43 = some ⟨.int .i64, 1, 8, [.int .i64 0], false, true, true⟩ := by kernel_rfl
theorem ty51 : tyOf Tryd.prog 51 = some ⟨.slice 3, 1, 24, [.nils], false, true, false⟩ := by kernel_rfl
theorem ty65 : tyOf Tryd.prog 65 = some ⟨.struct #[⟨ "X", 24, 0, false, "", "", 0⟩, ⟨ "Y", 24, 6, false, "", "", 48⟩, ⟨ "Z", 24, 12, false, "", "", 96⟩], 18, 144, ints .u64 (List.replicate 18 0), true, true, true⟩ := by kernel_rfl
theorem ty82 : tyOf Tryd.prog 82 = some ⟨.struct #[⟨ "M", 24, 0, false, "", "", 0⟩, ⟨ "Inv", 22, 6, false, "", "", 48⟩, ⟨ "Two", 24, 7, false, "", "", 56⟩], 13, 104, ints .u64 (List.replicate 13 0), true, true, true⟩ := by kernel_rfl
theorem ty93 : tyOf Tryd.prog 93 = some ⟨.array 12 22, 12, 96, ints .u64 (List.replicate 12 0), true, true, true⟩ := by kernel_rfl
end Eng


namespace Eng
open Go Go.Proofs
theorem hM0 : Tryd.prog.follows .mixedOrders = true := by kernel_rfl
theorem eq24 : eqArr Tryd.prog 24 = true := by kernel_rfl
def L7r0 : List AOp := [
  ⟨(some 2), .box 24 (.tmp 0), none, 0⟩,
  ⟨(some 3), .box 27 (.tmp 1), none, 0⟩,
  ⟨(some 4), .assign (.const (.bool false)), none, 0⟩]
def L7r1 : List AOp := [
  ⟨(some 13), .call { callee := .value (.func 14), args := #[], argTypes := #[] }, none, 0⟩,
  ⟨(some 5), .assign (.tmp 13), none, 0⟩]
def L7r2 : List AOp := [
  ⟨(some 15), .load 24 (.tmp 2), none, 0⟩,
  ⟨(some 16), .load 27 (.tmp 3), none, 0⟩,
  ⟨(some 17), .call { callee := .value (.func 28), args := #[.tmp 15, .tmp 16], argTypes := #[24, 27] }, none, 0⟩,
  ⟨(some 14), .move (.tmp 17), none, 0⟩,
  ⟨(some 18), .extract (.tmp 14) 0, none, 0⟩,
  ⟨(some 19), .extract (.tmp 14) 1, none, 0⟩,
  ⟨(some 20), .extract (.tmp 14) 2, none, 0⟩,
  ⟨(some 6), .alloc 27, none, 0⟩,
  ⟨none, .store 27 (.tmp 6) (.tmp 18), none, 0⟩,
  ⟨(some 7), .assign (.tmp 19), none, 0⟩,
  ⟨(some 8), .assign (.tmp 20), none, 0⟩]
def L7r3 : List AOp := [
  ⟨(some 22), .load 24 (.tmp 2), none, 0⟩,
  ⟨(some 23), .load 27 (.tmp 3), none, 0⟩,
  ⟨(some 24), .call { callee := .value (.func 27), args := #[.tmp 22, .tmp 23], argTypes := #[24, 27] }, none, 0⟩,
  ⟨(some 21), .move (.tmp 24), none, 0⟩,
  ⟨(some 25), .extract (.tmp 21) 0, none, 0⟩,
  ⟨(some 26), .extract (.tmp 21) 1, none, 0⟩,
  ⟨(some 9), .alloc 27, none, 0⟩,
  ⟨none, .store 27 (.tmp 9) (.tmp 25), none, 0⟩,
  ⟨(some 10), .assign (.tmp 26), none, 0⟩]
def L7r4 : List AOp := [
  ⟨(some 27), .load 27 (.tmp 3), none, 0⟩,
  ⟨(some 28), .call { callee := .value (.func 29), args := #[.tmp 27], argTypes := #[27] }, none, 0⟩,
  ⟨(some 11), .assign (.tmp 28), none, 0⟩]
def L7r5 : List AOp := [
  ⟨(some 29), .move (.tmp 11), none, 0⟩,
  ⟨(some 30), .unOp .not 4 (.tmp 29), none, 0⟩]
def L7r6 : List AOp := [
  ⟨(some 31), .move (.tmp 5), none, 0⟩,
  ⟨(some 32), .move (.tmp 31), none, 0⟩,
  ⟨(some 33), .move (.tmp 8), (some (32, true)), 0⟩,
  ⟨(some 34), .makeInterface 43 (.const (.int .i64 4)), (some (32, true)), 0⟩,
  ⟨(some 35), .binOp .eql 39 (.tmp 33) (.tmp 34) 39, (some (32, true)), 0⟩,
  ⟨(some 36), .pick (.tmp 32) (.tmp 35) (.const (.bool false)), none, 0⟩,
  ⟨(some 37), .move (.tmp 36), none, 0⟩,
  ⟨(some 38), .move (.tmp 10), (some (37, true)), 0⟩,
  ⟨(some 39), .makeInterface 43 (.const (.int .i64 4)), (some (37, true)), 0⟩,
  ⟨(some 40), .binOp .eql 39 (.tmp 38) (.tmp 39) 39, (some (37, true)), 0⟩,
  ⟨(some 41), .pick (.tmp 37) (.tmp 40) (.const (.bool false)), none, 0⟩,
  ⟨(some 42), .move (.tmp 41), none, 0⟩,
  ⟨(some 43), .move (.tmp 7), (some (42, true)), 0⟩,
  ⟨(some 44), .call { callee := .builtin .len, args := #[.tmp 43], argTypes := #[51] }, (some (42, true)), 0⟩,
  ⟨(some 45), .binOp .eql 3 (.tmp 44) (.const (.int .i64 0)) 3, (some (42, true)), 0⟩,
  ⟨(some 46), .pick (.tmp 42) (.tmp 45) (.const (.bool false)), none, 0⟩,
  ⟨(some 47), .move (.tmp 46), none, 0⟩,
  ⟨(some 48), .load 27 (.tmp 6), (some (47, true)), 0⟩,
  ⟨(some 49), .build 27 #[], (some (47, true)), 0⟩,
  ⟨(some 50), .binOp .eql 27 (.tmp 48) (.tmp 49) 27, (some (47, true)), 0⟩,
  ⟨(some 51), .pick (.tmp 47) (.tmp 50) (.const (.bool false)), none, 0⟩,
  ⟨(some 4), .assign (.tmp 51), none, 0⟩]
def L7r7 : List AOp := [
  ⟨(some 52), .move (.tmp 8), none, 0⟩,
  ⟨(some 53), .binOp .neq 39 (.tmp 52) (.const .nilIface) 39, none, 0⟩,
  ⟨(some 54), .move (.tmp 53), none, 0⟩,
  ⟨(some 55), .move (.tmp 10), (some (54, false)), 0⟩,
  ⟨(some 56), .binOp .neq 39 (.tmp 55) (.const .nilIface) 39, (some (54, false)), 0⟩,
  ⟨(some 57), .pick (.tmp 54) (.const (.bool true)) (.tmp 56), none, 0⟩,
  ⟨(some 58), .move (.tmp 57), none, 0⟩,
  ⟨(some 59), .load 27 (.tmp 6), (some (58, false)), 0⟩,
  ⟨(some 60), .load 27 (.tmp 9), (some (58, false)), 0⟩,
  ⟨(some 61), .binOp .neq 27 (.tmp 59) (.tmp 60) 27, (some (58, false)), 0⟩,
  ⟨(some 62), .pick (.tmp 58) (.const (.bool true)) (.tmp 61), none, 0⟩,
  ⟨(some 63), .move (.tmp 62), none, 0⟩,
  ⟨(some 64), .move (.tmp 7), (some (63, false)), 0⟩,
  ⟨(some 65), .call { callee := .builtin .len, args := #[.tmp 64], argTypes := #[51] }, (some (63, false)), 0⟩,
  ⟨(some 66), .binOp .neq 3 (.tmp 65) (.const (.int .i64 1152)) 3, (some (63, false)), 0⟩,
  ⟨(some 67), .pick (.tmp 63) (.const (.bool true)) (.tmp 66), none, 0⟩]
def L7r8 : List AOp := [
  ⟨(some 4), .assign (.const (.bool false)), none, 0⟩]
def L7r9 : List AOp := [
  ⟨(some 12), .assign (.const (.int .i64 0)), none, 0⟩]
def L7r10 : List AOp := [
  ⟨(some 68), .move (.tmp 12), none, 0⟩,
  ⟨(some 69), .binOp .lss 3 (.tmp 68) (.const (.int .i64 384)) 3, none, 0⟩]
def L7r12 : List AOp := [
  ⟨(some 72), .move (.tmp 7), none, 0⟩,
  ⟨(some 73), .move (.tmp 12), none, 0⟩,
  ⟨(some 74), .binOp .mul 3 (.const (.int .i64 3)) (.tmp 73) 3, none, 0⟩,
  ⟨(some 75), .indexAddr 51 (.tmp 72) (.tmp 74), none, 0⟩,
  ⟨(some 76), .load 3 (.tmp 75), none, 0⟩,
  ⟨(some 77), .binOp .neq 3 (.tmp 76) (.const (.int .i64 1)) 3, none, 0⟩,
  ⟨(some 78), .move (.tmp 77), none, 0⟩,
  ⟨(some 79), .move (.tmp 7), (some (78, false)), 0⟩,
  ⟨(some 80), .move (.tmp 12), (some (78, false)), 0⟩,
  ⟨(some 81), .binOp .mul 3 (.const (.int .i64 3)) (.tmp 80) 3, (some (78, false)), 0⟩,
  ⟨(some 82), .binOp .add 3 (.tmp 81) (.const (.int .i64 1)) 3, (some (78, false)), 0⟩,
  ⟨(some 83), .indexAddr 51 (.tmp 79) (.tmp 82), (some (78, false)), 0⟩,
  ⟨(some 84), .load 3 (.tmp 83), (some (78, false)), 0⟩,
  ⟨(some 85), .binOp .neq 3 (.tmp 84) (.const (.int .i64 2)) 3, (some (78, false)), 0⟩,
  ⟨(some 86), .pick (.tmp 78) (.const (.bool true)) (.tmp 85), none, 0⟩,
  ⟨(some 87), .move (.tmp 86), none, 0⟩,
  ⟨(some 88), .move (.tmp 7), (some (87, false)), 0⟩,
  ⟨(some 89), .move (.tmp 12), (some (87, false)), 0⟩,
  ⟨(some 90), .binOp .mul 3 (.const (.int .i64 3)) (.tmp 89) 3, (some (87, false)), 0⟩,
  ⟨(some 91), .binOp .add 3 (.tmp 90) (.const (.int .i64 2)) 3, (some (87, false)), 0⟩,
  ⟨(some 92), .indexAddr 51 (.tmp 88) (.tmp 91), (some (87, false)), 0⟩,
  ⟨(some 93), .load 3 (.tmp 92), (some (87, false)), 0⟩,
  ⟨(some 94), .binOp .neq 3 (.tmp 93) (.const (.int .i64 3)) 3, (some (87, false)), 0⟩,
  ⟨(some 95), .pick (.tmp 87) (.const (.bool true)) (.tmp 94), none, 0⟩]
def L7r13 : List AOp := [
  ⟨(some 4), .assign (.const (.bool false)), none, 0⟩]
def L7r11 : List AOp := [
  ⟨(some 70), .move (.tmp 12), none, 0⟩,
  ⟨(some 71), .binOp .add 3 (.tmp 70) (.const (.int .i64 1)) 3, none, 0⟩,
  ⟨(some 12), .assign (.tmp 71), none, 0⟩]
def L7r14 : List AOp := [
  ⟨(some 96), .move (.tmp 5), none, 0⟩,
  ⟨(some 4), .assign (.tmp 96), none, 0⟩]
def L7 : LC := (.seq (.region L7r0) (.seq (.region L7r1) (.seq (.region L7r2) (.seq (.region L7r3) (.seq (.region L7r4) (.seq (.seq (.region L7r5) (.cond (.tmp 30) (.seq (.region L7r6) .ret) .skip)) (.seq (.seq (.region L7r7) (.cond (.tmp 67) (.seq (.region L7r8) .ret) .skip)) (.seq (.seq (.region L7r9) (.block 0 (.loop (.seq (.seq (.region L7r10) (.cond (.tmp 69) .skip (.exit 0))) (.seq (.block 1 (.seq (.region L7r12) (.cond (.tmp 95) (.seq (.region L7r13) .ret) .skip))) (.region L7r11)))))) (.seq (.region L7r14) .ret)))))))))
theorem nt7 : Tryd.f7.ntmps = 97 := by kernel_rfl
theorem rs7 : Tryd.f7.results.toList = [.tmp 4] := by kernel_rfl
theorem lite7 : Tryd.f7.body.map (lite okDraw) = some L7 := by kernel_rfl
def L14r0 : List AOp := [
  ⟨(some 0), .assign (.const (.bool false)), none, 0⟩]
def L14r1 : List AOp := [
  ⟨(some 1), .build 24 #[(0, .const (.int .u64 1))], none, 0⟩,
  ⟨(some 2), .call { callee := .value (.func 15), args := #[.tmp 1], argTypes := #[24] }, none, 0⟩,
  ⟨(some 3), .call { callee := .value (.func 19), args := #[], argTypes := #[] }, none, 0⟩,
  ⟨(some 4), .call { callee := .value (.func 16), args := #[.tmp 3], argTypes := #[33] }, none, 0⟩,
  ⟨(some 5), .binOp .eql 27 (.tmp 2) (.tmp 4) 27, none, 0⟩,
  ⟨(some 6), .move (.tmp 5), none, 0⟩,
  ⟨(some 7), .build 24 #[], (some (6, true)), 0⟩,
  ⟨(some 8), .call { callee := .value (.func 15), args := #[.tmp 7], argTypes := #[24] }, (some (6, true)), 0⟩,
  ⟨(some 9), .build 27 #[(2, .const (.bool true))], (some (6, true)), 0⟩,
  ⟨(some 10), .binOp .eql 27 (.tmp 8) (.tmp 9) 27, (some (6, true)), 0⟩,
  ⟨(some 11), .pick (.tmp 6) (.tmp 10) (.const (.bool false)), none, 0⟩,
  ⟨(some 0), .assign (.tmp 11), none, 0⟩]
def L14 : LC := (.seq (.region L14r0) (.seq (.region L14r1) .ret))
theorem nt14 : Tryd.f14.ntmps = 12 := by kernel_rfl
theorem rs14 : Tryd.f14.results.toList = [.tmp 0] := by kernel_rfl
theorem lite14 : Tryd.f14.body.map (lite okDraw) = some L14 := by kernel_rfl
def L15r0 : List AOp := [
  ⟨(some 1), .box 24 (.tmp 0), none, 0⟩,
  ⟨(some 2), .alloc 27, none, 0⟩]
def L15r1 : List AOp := [
  ⟨(some 3), .load 24 (.tmp 1), none, 0⟩,
  ⟨(some 4), .call { callee := .value (.func 39), args := #[], argTypes := #[] }, none, 0⟩,
  ⟨(some 5), .call { callee := .value (.func 38), args := #[.tmp 4], argTypes := #[27] }, none, 2⟩,
  ⟨(some 6), .call { callee := .value (.func 37), args := #[.tmp 3, .tmp 5, .func 40], argTypes := #[24, 65, 69] }, none, 1267650600228229401496703205383⟩,
  ⟨(some 7), .call { callee := .value (.func 41), args := #[.tmp 6], argTypes := #[65] }, none, 1267650600228229401496703205391⟩,
  ⟨none, .store 27 (.tmp 2) (.tmp 7), none, 1267650600228229401496703205407⟩]
def L15 : LC := (.seq (.region L15r0) (.seq (.regionD L15r1) .ret))
theorem nt15 : Tryd.f15.ntmps = 8 := by kernel_rfl
theorem rs15 : Tryd.f15.results.toList = [.cell 2 27] := by kernel_rfl
theorem lite15 : Tryd.f15.body.map (lite okDraw) = some L15 := by kernel_rfl
def L16r0 : List AOp := [
  ⟨(some 1), .box 33 (.tmp 0), none, 0⟩,
  ⟨(some 2), .alloc 27, none, 0⟩]
def L16r1 : List AOp := [
  ⟨(some 3), .fieldAddr 33 (.tmp 1) 0, none, 0⟩,
  ⟨(some 4), .load 4 (.tmp 3), none, 0⟩]
def L16r2 : List AOp := [
  ⟨(some 5), .build 27 #[(2, .const (.bool true))], none, 0⟩,
  ⟨none, .store 27 (.tmp 2) (.tmp 5), none, 0⟩]
def L16r3 : List AOp := [
  ⟨(some 6), .fieldAddr 33 (.tmp 1) 1, none, 0⟩,
  ⟨(some 7), .load 31 (.tmp 6), none, 1⟩,
  ⟨(some 8), .call { callee := .value (.func 32), args := #[.tmp 7], argTypes := #[31] }, none, 3⟩,
  ⟨(some 9), .fieldAddr 33 (.tmp 1) 2, none, 0⟩,
  ⟨(some 10), .load 31 (.tmp 9), none, 8⟩,
  ⟨(some 11), .call { callee := .value (.func 32), args := #[.tmp 10], argTypes := #[31] }, none, 1267650600228229401496703205407⟩,
  ⟨(some 12), .build 27 #[(0, .tmp 8), (1, .tmp 11)], none, 1267650600228229401496703205439⟩,
  ⟨none, .store 27 (.tmp 2) (.tmp 12), none, 1267650600228229401496703205503⟩]
def L16 : LC := (.seq (.region L16r0) (.seq (.seq (.region L16r1) (.cond (.tmp 4) (.seq (.region L16r2) .ret) .skip)) (.seq (.regionD L16r3) .ret)))
theorem nt16 : Tryd.f16.ntmps = 13 := by kernel_rfl
theorem rs16 : Tryd.f16.results.toList = [.cell 2 27] := by kernel_rfl
theorem lite16 : Tryd.f16.body.map (lite okDraw) = some L16 := by kernel_rfl
def L19r0 : List AOp := [
  ⟨(some 0), .alloc 33, none, 0⟩]
def L19r1 : List AOp := [
  ⟨(some 1), .buildSlice 31 12 #[(0, .const (.int .u64 1920338615)), (1, .const (.int .u64 978607672)), (2, .const (.int .u64 3210029420)), (3, .const (.int .u64 1426256477)), (4, .const (.int .u64 2186553912)), (5, .const (.int .u64 1509376480)), (6, .const (.int .u64 2343017368)), (7, .const (.int .u64 1847409506)), (8, .const (.int .u64 4079005044)), (9, .const (.int .u64 2394015518)), (10, .const (.int .u64 3196781879)), (11, .const (.int .u64 2861025826))], none, 0⟩,
  ⟨(some 2), .buildSlice 31 12 #[(0, .const (.int .u64 2431258207)), (1, .const (.int .u64 2051218812)), (2, .const (.int .u64 494829981)), (3, .const (.int .u64 174109134)), (4, .const (.int .u64 3052452032)), (5, .const (.int .u64 3923390739)), (6, .const (.int .u64 681186428)), (7, .const (.int .u64 4176747965)), (8, .const (.int .u64 2459098153)), (9, .const (.int .u64 1570674879)), (10, .const (.int .u64 2519084143)), (11, .const (.int .u64 907533898))], none, 0⟩,
  ⟨(some 3), .build 33 #[(1, .tmp 1), (2, .tmp 2)], none, 0⟩,
  ⟨none, .store 33 (.tmp 0) (.tmp 3), none, 0⟩]
def L19 : LC := (.seq (.region L19r0) (.seq (.region L19r1) .ret))
theorem nt19 : Tryd.f19.ntmps = 4 := by kernel_rfl
theorem rs19 : Tryd.f19.results.toList = [.cell 0 33] := by kernel_rfl
theorem lite19 : Tryd.f19.body.map (lite okDraw) = some L19 := by kernel_rfl
def L27r0 : List AOp := [
  ⟨(some 2), .box 24 (.tmp 0), none, 0⟩,
  ⟨(some 3), .box 27 (.tmp 1), none, 0⟩,
  ⟨(some 4), .alloc 27, none, 0⟩,
  ⟨(some 5), .assign (.const .nilIface), none, 0⟩]
def L27r1 : List AOp := [
  ⟨(some 6), .load 27 (.tmp 3), none, 0⟩,
  ⟨(some 7), .call { callee := .value (.func 29), args := #[.tmp 6], argTypes := #[27] }, none, 0⟩,
  ⟨(some 8), .unOp .not 4 (.tmp 7), none, 0⟩]
def L27r2 : List AOp := [
  ⟨(some 9), .build 27 #[], none, 0⟩,
  ⟨(some 10), .makeInterface 43 (.const (.int .i64 4)), none, 0⟩,
  ⟨none, .store 27 (.tmp 4) (.tmp 9), none, 0⟩,
  ⟨(some 5), .assign (.tmp 10), none, 0⟩]
def L27r3 : List AOp := [
  ⟨(some 11), .load 24 (.tmp 2), none, 0⟩,
  ⟨(some 12), .load 27 (.tmp 3), none, 0⟩,
  ⟨(some 13), .call { callee := .value (.func 38), args := #[.tmp 12], argTypes := #[27] }, none, 2⟩,
  ⟨(some 14), .call { callee := .value (.func 37), args := #[.tmp 11, .tmp 13, .func 40], argTypes := #[24, 65, 69] }, none, 1267650600228229401496703205383⟩,
  ⟨(some 15), .call { callee := .value (.func 41), args := #[.tmp 14], argTypes := #[65] }, none, 1267650600228229401496703205391⟩,
  ⟨none, .store 27 (.tmp 4) (.tmp 15), none, 1267650600228229401496703205407⟩,
  ⟨(some 5), .assign (.const .nilIface), none, 1267650600228229401496703205439⟩]
def L27 : LC := (.seq (.region L27r0) (.seq (.seq (.region L27r1) (.cond (.tmp 8) (.seq (.region L27r2) .ret) .skip)) (.seq (.regionD L27r3) .ret)))
theorem nt27 : Tryd.f27.ntmps = 16 := by kernel_rfl
theorem rs27 : Tryd.f27.results.toList = [.cell 4 27, .tmp 5] := by kernel_rfl
theorem lite27 : Tryd.f27.body.map (lite okDraw) = some L27 := by kernel_rfl
def L29r0 : List AOp := [
  ⟨(some 1), .box 27 (.tmp 0), none, 0⟩,
  ⟨(some 2), .assign (.const (.bool false)), none, 0⟩]
def L29r1 : List AOp := [
  ⟨(some 6), .fieldAddr 27 (.tmp 1) 2, none, 0⟩,
  ⟨(some 7), .load 4 (.tmp 6), none, 0⟩,
  ⟨(some 5), .assign (.tmp 7), none, 0⟩]
def L29r2 : List AOp := [
  ⟨(some 8), .load 27 (.tmp 1), none, 0⟩,
  ⟨(some 9), .build 27 #[(2, .const (.bool true))], none, 0⟩,
  ⟨(some 10), .binOp .eql 27 (.tmp 8) (.tmp 9) 27, none, 0⟩,
  ⟨(some 2), .assign (.tmp 10), none, 0⟩]
def L29r3 : List AOp := [
  ⟨(some 12), .fieldAddr 27 (.tmp 1) 0, none, 0⟩,
  ⟨(some 13), .load 24 (.tmp 12), none, 1⟩,
  ⟨(some 14), .call { callee := .value (.func 56), args := #[], argTypes := #[] }, none, 0⟩,
  ⟨(some 15), .call { callee := .value (.func 55), args := #[.tmp 13, .tmp 14], argTypes := #[24, 24] }, none, 1267650600228229401496703205383⟩,
  ⟨(some 16), .binOp .eql 22 (.tmp 15) (.const (.int .u64 0)) 22, none, 1267650600228229401496703205391⟩,
  ⟨(some 17), .move (.tmp 16), none, 1267650600228229401496703205407⟩,
  ⟨(some 18), .fieldAddr 27 (.tmp 1) 1, (some (17, false)), 63⟩,
  ⟨(some 19), .load 24 (.tmp 18), (some (17, false)), 127⟩,
  ⟨(some 20), .call { callee := .value (.func 56), args := #[], argTypes := #[] }, (some (17, false)), 63⟩,
  ⟨(some 21), .call { callee := .value (.func 55), args := #[.tmp 19, .tmp 20], argTypes := #[24, 24] }, (some (17, false)), 1267650600228229401496703205887⟩,
  ⟨(some 22), .binOp .eql 22 (.tmp 21) (.const (.int .u64 0)) 22, (some (17, false)), 1267650600228229401496703206399⟩,
  ⟨(some 23), .pick (.tmp 17) (.const (.bool true)) (.tmp 22), none, 1267650600228229401496703207423⟩,
  ⟨(some 11), .assign (.tmp 23), none, 1267650600228229401496703209471⟩]
def L29r4 : List AOp := [
  ⟨(some 2), .assign (.const (.bool false)), none, 0⟩]
def L29r5 : List AOp := [
  ⟨(some 24), .fieldAddr 27 (.tmp 1) 0, none, 0⟩,
  ⟨(some 25), .load 24 (.tmp 24), none, 1⟩,
  ⟨(some 26), .fieldAddr 27 (.tmp 1) 0, none, 0⟩,
  ⟨(some 27), .load 24 (.tmp 26), none, 4⟩,
  ⟨(some 28), .call { callee := .value (.func 57), args := #[.tmp 25, .tmp 27], argTypes := #[24, 24] }, none, 15⟩,
  ⟨(some 29), .fieldAddr 27 (.tmp 1) 0, none, 0⟩,
  ⟨(some 30), .load 24 (.tmp 29), none, 32⟩,
  ⟨(some 31), .call { callee := .value (.func 57), args := #[.tmp 28, .tmp 30], argTypes := #[24, 24] }, none, 127⟩,
  ⟨(some 3), .alloc 24, none, 0⟩,
  ⟨none, .store 24 (.tmp 3) (.tmp 31), none, 1267650600228229401496703205887⟩]
def L29r6 : List AOp := [
  ⟨(some 32), .load 24 (.tmp 3), none, 0⟩,
  ⟨(some 33), .build 24 #[(0, .const (.int .u64 3))], none, 0⟩,
  ⟨(some 34), .fieldAddr 27 (.tmp 1) 0, none, 0⟩,
  ⟨(some 35), .load 24 (.tmp 34), none, 4⟩,
  ⟨(some 36), .call { callee := .value (.func 57), args := #[.tmp 33, .tmp 35], argTypes := #[24, 24] }, none, 14⟩,
  ⟨(some 37), .call { callee := .value (.func 58), args := #[.tmp 32, .tmp 36], argTypes := #[24, 24] }, none, 31⟩,
  ⟨(some 38), .call { callee := .value (.func 59), args := #[], argTypes := #[] }, none, 63⟩,
  ⟨(some 39), .call { callee := .value (.func 35), args := #[.tmp 37, .tmp 38], argTypes := #[24, 24] }, none, 127⟩,
  ⟨(some 4), .alloc 24, none, 0⟩,
  ⟨none, .store 24 (.tmp 4) (.tmp 39), none, 1267650600228229401496703205887⟩]
def L29r7 : List AOp := [
  ⟨(some 40), .fieldAddr 27 (.tmp 1) 1, none, 0⟩,
  ⟨(some 41), .load 24 (.tmp 40), none, 1⟩,
  ⟨(some 42), .fieldAddr 27 (.tmp 1) 1, none, 0⟩,
  ⟨(some 43), .load 24 (.tmp 42), none, 4⟩,
  ⟨(some 44), .call { callee := .value (.func 57), args := #[.tmp 41, .tmp 43], argTypes := #[24, 24] }, none, 15⟩,
  ⟨(some 45), .load 24 (.tmp 4), none, 0⟩,
  ⟨(some 46), .binOp .eql 24 (.tmp 44) (.tmp 45) 24, none, 1267650600228229401496703205439⟩,
  ⟨(some 2), .assign (.tmp 46), none, 1267650600228229401496703205503⟩]
def L29 : LC := (.seq (.region L29r0) (.seq (.block 0 (.seq (.region L29r1) (.cond (.tmp 5) (.seq (.region L29r2) .ret) (.seq (.regionD L29r3) (.cond (.tmp 11) (.seq (.region L29r4) .ret) .skip))))) (.seq (.regionD L29r5) (.seq (.regionD L29r6) (.seq (.regionD L29r7) .ret)))))
theorem nt29 : Tryd.f29.ntmps = 47 := by kernel_rfl
theorem rs29 : Tryd.f29.results.toList = [.tmp 2] := by kernel_rfl
theorem lite29 : Tryd.f29.body.map (lite okDraw) = some L29 := by kernel_rfl
def L32r0 : List AOp := [
  ⟨(some 2), .alloc 23, none, 0⟩]
def L32r1 : List AOp := [
  ⟨(some 3), .alloc 23, none, 0⟩]
def L32r2 : List AOp := [
  ⟨(some 4), .assign (.const (.int .i64 0)), none, 0⟩]
def L32r3 : List AOp := [
  ⟨(some 5), .move (.tmp 4), none, 0⟩,
  ⟨(some 6), .binOp .lss 3 (.tmp 5) (.const (.int .i64 12)) 3, none, 0⟩,
  ⟨(some 7), .move (.tmp 6), none, 0⟩,
  ⟨(some 8), .move (.tmp 4), (some (7, true)), 0⟩,
  ⟨(some 9), .move (.tmp 0), (some (7, true)), 0⟩,
  ⟨(some 10), .call { callee := .builtin .len, args := #[.tmp 9], argTypes := #[31] }, (some (7, true)), 0⟩,
  ⟨(some 11), .binOp .lss 3 (.tmp 8) (.tmp 10) 3, (some (7, true)), 0⟩,
  ⟨(some 12), .pick (.tmp 7) (.tmp 11) (.const (.bool false)), none, 0⟩]
def L32r5 : List AOp := [
  ⟨(some 15), .move (.tmp 4), none, 0⟩,
  ⟨(some 16), .binOp .rem 3 (.tmp 15) (.const (.int .i64 2)) 3, none, 0⟩,
  ⟨(some 17), .binOp .eql 3 (.tmp 16) (.const (.int .i64 0)) 3, none, 0⟩]
def L32r6 : List AOp := [
  ⟨(some 18), .move (.tmp 4), none, 0⟩,
  ⟨(some 19), .binOp .quo 3 (.tmp 18) (.const (.int .i64 2)) 3, none, 0⟩,
  ⟨(some 20), .move (.tmp 0), none, 0⟩,
  ⟨(some 21), .move (.tmp 4), none, 0⟩,
  ⟨(some 22), .indexAddr 31 (.tmp 20) (.tmp 21), none, 0⟩,
  ⟨(some 23), .load 22 (.tmp 22), none, 0⟩,
  ⟨(some 24), .indexAddr 23 (.tmp 3) (.tmp 19), none, 0⟩,
  ⟨none, .store 22 (.tmp 24) (.tmp 23), none, 0⟩]
def L32r7 : List AOp := [
  ⟨(some 25), .move (.tmp 4), none, 0⟩,
  ⟨(some 26), .binOp .quo 3 (.tmp 25) (.const (.int .i64 2)) 3, none, 1⟩,
  ⟨(some 27), .move (.tmp 4), none, 0⟩,
  ⟨(some 28), .binOp .quo 3 (.tmp 27) (.const (.int .i64 2)) 3, none, 4⟩,
  ⟨(some 29), .indexAddr 23 (.tmp 3) (.tmp 28), none, 12⟩,
  ⟨(some 30), .load 22 (.tmp 29), none, 28⟩,
  ⟨(some 31), .move (.tmp 0), none, 0⟩,
  ⟨(some 32), .move (.tmp 4), none, 0⟩,
  ⟨(some 33), .indexAddr 31 (.tmp 31) (.tmp 32), none, 192⟩,
  ⟨(some 34), .load 22 (.tmp 33), none, 448⟩,
  ⟨(some 35), .binOp .mul 22 (.tmp 34) (.const (.int .u64 4294967296)) 22, none, 960⟩,
  ⟨(some 36), .binOp .add 22 (.tmp 30) (.tmp 35) 22, none, 2044⟩,
  ⟨(some 37), .indexAddr 23 (.tmp 3) (.tmp 26), none, 1267650600228229401496703209471⟩,
  ⟨none, .store 22 (.tmp 37) (.tmp 36), none, 1267650600228229401496703213567⟩]
def L32r4 : List AOp := [
  ⟨(some 13), .move (.tmp 4), none, 0⟩,
  ⟨(some 14), .binOp .add 3 (.tmp 13) (.const (.int .i64 1)) 3, none, 0⟩,
  ⟨(some 4), .assign (.tmp 14), none, 0⟩]
def L32r8 : List AOp := [
  ⟨(some 38), .load 23 (.tmp 3), none, 0⟩,
  ⟨none, .store 23 (.tmp 2) (.tmp 38), none, 0⟩]
def L32 : LC := (.seq (.region L32r0) (.seq (.region L32r1) (.seq (.seq (.region L32r2) (.block 0 (.loop (.seq (.seq (.region L32r3) (.cond (.tmp 12) .skip (.exit 0))) (.seq (.block 1 (.seq (.region L32r5) (.cond (.tmp 17) (.region L32r6) (.regionD L32r7)))) (.region L32r4)))))) (.seq (.region L32r8) .ret))))
theorem nt32 : Tryd.f32.ntmps = 39 := by kernel_rfl
theorem rs32 : Tryd.f32.results.toList = [.cell 2 23] := by kernel_rfl
theorem lite32 : Tryd.f32.body.map (lite okDraw) = some L32 := by kernel_rfl
def L35r0 : List AOp := [
  ⟨(some 2), .box 24 (.tmp 0), none, 0⟩,
  ⟨(some 3), .box 24 (.tmp 1), none, 0⟩,
  ⟨(some 4), .alloc 24, none, 0⟩]
def L35r1 : List AOp := [
  ⟨(some 5), .load 24 (.tmp 2), none, 0⟩,
  ⟨(some 6), .load 24 (.tmp 3), none, 0⟩,
  ⟨(some 7), .load 82 (.global 1), none, 0⟩,
  ⟨(some 8), .call { callee := .value (.func 61), args := #[.tmp 5, .tmp 6, .tmp 7], argTypes := #[24, 24, 82] }, none, 0⟩,
  ⟨none, .store 24 (.tmp 4) (.tmp 8), none, 0⟩]
def L35 : LC := (.seq (.region L35r0) (.seq (.region L35r1) .ret))
theorem nt35 : Tryd.f35.ntmps = 9 := by kernel_rfl
theorem rs35 : Tryd.f35.results.toList = [.cell 4 24] := by kernel_rfl
theorem lite35 : Tryd.f35.body.map (lite okDraw) = some L35 := by kernel_rfl
def L37r0 : List AOp := [
  ⟨(some 3), .box 24 (.tmp 0), none, 0⟩,
  ⟨(some 4), .box 65 (.tmp 1), none, 0⟩,
  ⟨(some 6), .alloc 65, none, 0⟩]
def L37r1 : List AOp := [
  ⟨(some 10), .build 27 #[(2, .const (.bool true))], none, 0⟩,
  ⟨(some 11), .call { callee := .value (.func 38), args := #[.tmp 10], argTypes := #[27] }, none, 0⟩,
  ⟨(some 7), .alloc 65, none, 0⟩,
  ⟨none, .store 65 (.tmp 7) (.tmp 11), none, 0⟩]
def L37r2 : List AOp := [
  ⟨(some 8), .assign (.const (.int .i64 383)), none, 0⟩]
def L37r3 : List AOp := [
  ⟨(some 12), .move (.tmp 8), none, 0⟩,
  ⟨(some 13), .binOp .geq 3 (.tmp 12) (.const (.int .i64 0)) 3, none, 0⟩]
def L37r5 : List AOp := [
  ⟨(some 16), .move (.tmp 2), none, 0⟩,
  ⟨(some 17), .call { callee := .value (.tmp 16), args := #[.const (.int .i64 1)], argTypes := #[3] }, none, 0⟩]
def L37r6 : List AOp := [
  ⟨(some 18), .load 65 (.tmp 7), none, 0⟩,
  ⟨(some 19), .load 65 (.tmp 7), none, 0⟩,
  ⟨(some 20), .call { callee := .value (.func 45), args := #[.tmp 18, .tmp 19], argTypes := #[65, 65] }, none, 0⟩,
  ⟨none, .store 65 (.tmp 7) (.tmp 20), none, 0⟩]
def L37r7 : List AOp := [
  ⟨(some 21), .move (.tmp 2), none, 0⟩,
  ⟨(some 22), .call { callee := .value (.tmp 21), args := #[.const (.int .i64 2)], argTypes := #[3] }, none, 0⟩]
def L37r8 : List AOp := [
  ⟨(some 23), .load 65 (.tmp 7), none, 0⟩,
  ⟨(some 24), .load 65 (.tmp 4), none, 0⟩,
  ⟨(some 25), .call { callee := .value (.func 45), args := #[.tmp 23, .tmp 24], argTypes := #[65, 65] }, none, 0⟩,
  ⟨(some 9), .alloc 65, none, 0⟩,
  ⟨none, .store 65 (.tmp 9) (.tmp 25), none, 0⟩]
def L37r9 : List AOp := [
  ⟨(some 26), .move (.tmp 2), none, 0⟩,
  ⟨(some 27), .call { callee := .value (.tmp 26), args := #[.const (.int .i64 3)], argTypes := #[3] }, none, 0⟩]
def L37r10 : List AOp := [
  ⟨(some 28), .load 24 (.tmp 3), none, 0⟩,
  ⟨(some 29), .move (.tmp 8), none, 0⟩,
  ⟨(some 30), .call { callee := .value (.func 64), args := #[.tmp 28, .tmp 29], argTypes := #[24, 3] }, none, 3⟩,
  ⟨(some 31), .load 65 (.tmp 7), none, 0⟩,
  ⟨(some 32), .load 65 (.tmp 9), none, 0⟩,
  ⟨(some 33), .call { callee := .value (.func 65), args := #[.tmp 30, .tmp 31, .tmp 32], argTypes := #[22, 65, 65] }, none, 1267650600228229401496703205407⟩,
  ⟨none, .store 65 (.tmp 7) (.tmp 33), none, 1267650600228229401496703205439⟩]
def L37r4 : List AOp := [
  ⟨(some 14), .move (.tmp 8), none, 0⟩,
  ⟨(some 15), .binOp .sub 3 (.tmp 14) (.const (.int .i64 1)) 3, none, 0⟩,
  ⟨(some 8), .assign (.tmp 15), none, 0⟩]
def L37r11 : List AOp := [
  ⟨(some 34), .load 65 (.tmp 7), none, 0⟩,
  ⟨none, .store 65 (.tmp 6) (.tmp 34), none, 0⟩]
def L37 : LC := (.seq (.region L37r0) (.seq (.region L37r1) (.seq (.seq (.region L37r2) (.block 0 (.loop (.seq (.seq (.region L37r3) (.cond (.tmp 13) .skip (.exit 0))) (.seq (.block 1 (.seq (.region L37r5) (.seq (.region L37r6) (.seq (.region L37r7) (.seq (.region L37r8) (.seq (.region L37r9) (.regionD L37r10))))))) (.region L37r4)))))) (.seq (.region L37r11) .ret))))
theorem nt37 : Tryd.f37.ntmps = 35 := by kernel_rfl
theorem rs37 : Tryd.f37.results.toList = [.cell 6 65] := by kernel_rfl
theorem lite37 : Tryd.f37.body.map (lite okDraw) = some L37 := by kernel_rfl
def L38r0 : List AOp := [
  ⟨(some 1), .box 27 (.tmp 0), none, 0⟩,
  ⟨(some 2), .alloc 65, none, 0⟩]
def L38r1 : List AOp := [
  ⟨(some 3), .fieldAddr 27 (.tmp 1) 2, none, 0⟩,
  ⟨(some 4), .load 4 (.tmp 3), none, 0⟩]
def L38r2 : List AOp := [
  ⟨(some 5), .load 24 (.global 2), none, 0⟩,
  ⟨(some 6), .build 65 #[(1, .tmp 5)], none, 0⟩,
  ⟨none, .store 65 (.tmp 2) (.tmp 6), none, 0⟩]
def L38r3 : List AOp := [
  ⟨(some 7), .fieldAddr 27 (.tmp 1) 0, none, 0⟩,
  ⟨(some 8), .load 24 (.tmp 7), none, 1⟩,
  ⟨(some 9), .fieldAddr 82 (.global 3) 2, none, 0⟩,
  ⟨(some 10), .load 24 (.tmp 9), none, 4⟩,
  ⟨(some 11), .call { callee := .value (.func 66), args := #[.tmp 8, .tmp 10], argTypes := #[24, 24] }, none, 15⟩,
  ⟨(some 12), .fieldAddr 27 (.tmp 1) 1, none, 0⟩,
  ⟨(some 13), .load 24 (.tmp 12), none, 32⟩,
  ⟨(some 14), .fieldAddr 82 (.global 3) 2, none, 0⟩,
  ⟨(some 15), .load 24 (.tmp 14), none, 128⟩,
  ⟨(some 16), .call { callee := .value (.func 66), args := #[.tmp 13, .tmp 15], argTypes := #[24, 24] }, none, 511⟩,
  ⟨(some 17), .load 24 (.global 2), none, 0⟩,
  ⟨(some 18), .build 65 #[(0, .tmp 11), (1, .tmp 16), (2, .tmp 17)], none, 1267650600228229401496703207423⟩,
  ⟨none, .store 65 (.tmp 2) (.tmp 18), none, 1267650600228229401496703209471⟩]
def L38 : LC := (.seq (.region L38r0) (.seq (.seq (.region L38r1) (.cond (.tmp 4) (.seq (.region L38r2) .ret) .skip)) (.seq (.regionD L38r3) .ret)))
theorem nt38 : Tryd.f38.ntmps = 19 := by kernel_rfl
theorem rs38 : Tryd.f38.results.toList = [.cell 2 65] := by kernel_rfl
theorem lite38 : Tryd.f38.body.map (lite okDraw) = some L38 := by kernel_rfl
def L39r0 : List AOp := [
  ⟨(some 0), .alloc 27, none, 0⟩]
def L39r1 : List AOp := [
  ⟨(some 1), .load 27 (.global 4), none, 0⟩,
  ⟨none, .store 27 (.tmp 0) (.tmp 1), none, 0⟩]
def L39 : LC := (.seq (.region L39r0) (.seq (.region L39r1) .ret))
theorem nt39 : Tryd.f39.ntmps = 2 := by kernel_rfl
theorem rs39 : Tryd.f39.results.toList = [.cell 0 27] := by kernel_rfl
theorem lite39 : Tryd.f39.body.map (lite okDraw) = some L39 := by kernel_rfl

def L40 : LC := .skip
theorem nt40 : Tryd.f40.ntmps = 2 := by kernel_rfl
theorem rs40 : Tryd.f40.results.toList = [] := by kernel_rfl
theorem lite40 : Tryd.f40.body.map (lite okDraw) = some L40 := by kernel_rfl
def L41r0 : List AOp := [
  ⟨(some 1), .box 65 (.tmp 0), none, 0⟩,
  ⟨(some 2), .alloc 27, none, 0⟩]
def L41r1 : List AOp := [
  ⟨(some 4), .fieldAddr 65 (.tmp 1) 2, none, 0⟩,
  ⟨(some 5), .load 24 (.tmp 4), none, 0⟩,
  ⟨(some 6), .build 24 #[], none, 0⟩,
  ⟨(some 7), .binOp .eql 24 (.tmp 5) (.tmp 6) 24, none, 0⟩]
def L41r2 : List AOp := [
  ⟨(some 8), .build 27 #[(2, .const (.bool true))], none, 0⟩,
  ⟨none, .store 27 (.tmp 2) (.tmp 8), none, 0⟩]
def L41r3 : List AOp := [
  ⟨(some 9), .fieldAddr 65 (.tmp 1) 2, none, 0⟩,
  ⟨(some 10), .load 24 (.tmp 9), none, 0⟩,
  ⟨(some 11), .build 24 #[(0, .const (.int .u64 1))], none, 0⟩,
  ⟨(some 12), .call { callee := .value (.func 66), args := #[.tmp 10, .tmp 11], argTypes := #[24, 24] }, none, 0⟩,
  ⟨(some 13), .call { callee := .value (.func 67), args := #[.tmp 12], argTypes := #[24] }, none, 0⟩,
  ⟨(some 3), .alloc 24, none, 0⟩,
  ⟨none, .store 24 (.tmp 3) (.tmp 13), none, 0⟩]
def L41r4 : List AOp := [
  ⟨(some 14), .fieldAddr 65 (.tmp 1) 0, none, 0⟩,
  ⟨(some 15), .load 24 (.tmp 14), none, 1⟩,
  ⟨(some 16), .load 24 (.tmp 3), none, 0⟩,
  ⟨(some 17), .call { callee := .value (.func 66), args := #[.tmp 15, .tmp 16], argTypes := #[24, 24] }, none, 7⟩,
  ⟨(some 18), .fieldAddr 65 (.tmp 1) 1, none, 0⟩,
  ⟨(some 19), .load 24 (.tmp 18), none, 16⟩,
  ⟨(some 20), .load 24 (.tmp 3), none, 0⟩,
  ⟨(some 21), .call { callee := .value (.func 66), args := #[.tmp 19, .tmp 20], argTypes := #[24, 24] }, none, 1267650600228229401496703205503⟩,
  ⟨(some 22), .build 27 #[(0, .tmp 17), (1, .tmp 21)], none, 1267650600228229401496703205631⟩,
  ⟨none, .store 27 (.tmp 2) (.tmp 22), none, 1267650600228229401496703205887⟩]
def L41 : LC := (.seq (.region L41r0) (.seq (.seq (.region L41r1) (.cond (.tmp 7) (.seq (.region L41r2) .ret) .skip)) (.seq (.region L41r3) (.seq (.regionD L41r4) .ret))))
theorem nt41 : Tryd.f41.ntmps = 23 := by kernel_rfl
theorem rs41 : Tryd.f41.results.toList = [.cell 2 27] := by kernel_rfl
theorem lite41 : Tryd.f41.body.map (lite okDraw) = some L41 := by kernel_rfl
def L45r0 : List AOp := [
  ⟨(some 2), .box 65 (.tmp 0), none, 0⟩,
  ⟨(some 3), .box 65 (.tmp 1), none, 0⟩,
  ⟨(some 4), .alloc 65, none, 0⟩]
def L45r1 : List AOp := [
  ⟨(some 13), .fieldAddr 65 (.tmp 2) 0, none, 0⟩,
  ⟨(some 14), .load 24 (.tmp 13), none, 1⟩,
  ⟨(some 15), .fieldAddr 65 (.tmp 3) 0, none, 0⟩,
  ⟨(some 16), .load 24 (.tmp 15), none, 4⟩,
  ⟨(some 17), .call { callee := .value (.func 66), args := #[.tmp 14, .tmp 16], argTypes := #[24, 24] }, none, 15⟩,
  ⟨(some 18), .fieldAddr 65 (.tmp 2) 1, none, 0⟩,
  ⟨(some 19), .load 24 (.tmp 18), none, 32⟩,
  ⟨(some 20), .fieldAddr 65 (.tmp 3) 1, none, 0⟩,
  ⟨(some 21), .load 24 (.tmp 20), none, 128⟩,
  ⟨(some 22), .call { callee := .value (.func 66), args := #[.tmp 19, .tmp 21], argTypes := #[24, 24] }, none, 511⟩,
  ⟨(some 23), .fieldAddr 65 (.tmp 2) 2, none, 0⟩,
  ⟨(some 24), .load 24 (.tmp 23), none, 1024⟩,
  ⟨(some 25), .fieldAddr 65 (.tmp 3) 2, none, 0⟩,
  ⟨(some 26), .load 24 (.tmp 25), none, 4096⟩,
  ⟨(some 27), .call { callee := .value (.func 66), args := #[.tmp 24, .tmp 26], argTypes := #[24, 24] }, none, 16383⟩,
  ⟨(some 5), .alloc 24, none, 0⟩,
  ⟨(some 6), .alloc 24, none, 0⟩,
  ⟨(some 7), .alloc 24, none, 0⟩,
  ⟨none, .store 24 (.tmp 5) (.tmp 17), none, 1267650600228229401496703467519⟩,
  ⟨none, .store 24 (.tmp 6) (.tmp 22), none, 1267650600228229401496703729663⟩,
  ⟨none, .store 24 (.tmp 7) (.tmp 27), none, 1267650600228229401496704253951⟩]
def L45r2 : List AOp := [
  ⟨(some 28), .fieldAddr 65 (.tmp 2) 0, none, 0⟩,
  ⟨(some 29), .load 24 (.tmp 28), none, 1⟩,
  ⟨(some 30), .fieldAddr 65 (.tmp 2) 1, none, 0⟩,
  ⟨(some 31), .load 24 (.tmp 30), none, 4⟩,
  ⟨(some 32), .call { callee := .value (.func 70), args := #[.tmp 29, .tmp 31], argTypes := #[24, 24] }, none, 15⟩,
  ⟨(some 33), .fieldAddr 65 (.tmp 3) 0, none, 0⟩,
  ⟨(some 34), .load 24 (.tmp 33), none, 32⟩,
  ⟨(some 35), .fieldAddr 65 (.tmp 3) 1, none, 0⟩,
  ⟨(some 36), .load 24 (.tmp 35), none, 128⟩,
  ⟨(some 37), .call { callee := .value (.func 70), args := #[.tmp 34, .tmp 36], argTypes := #[24, 24] }, none, 511⟩,
  ⟨(some 38), .call { callee := .value (.func 66), args := #[.tmp 32, .tmp 37], argTypes := #[24, 24] }, none, 1023⟩,
  ⟨(some 39), .load 24 (.tmp 5), none, 0⟩,
  ⟨(some 40), .load 24 (.tmp 6), none, 0⟩,
  ⟨(some 41), .call { callee := .value (.func 70), args := #[.tmp 39, .tmp 40], argTypes := #[24, 24] }, none, 8191⟩,
  ⟨(some 42), .call { callee := .value (.func 69), args := #[.tmp 38, .tmp 41], argTypes := #[24, 24] }, none, 16383⟩,
  ⟨(some 8), .alloc 24, none, 0⟩,
  ⟨none, .store 24 (.tmp 8) (.tmp 42), none, 1267650600228229401496703270911⟩]
def L45r3 : List AOp := [
  ⟨(some 43), .fieldAddr 65 (.tmp 2) 1, none, 0⟩,
  ⟨(some 44), .load 24 (.tmp 43), none, 1⟩,
  ⟨(some 45), .fieldAddr 65 (.tmp 2) 2, none, 0⟩,
  ⟨(some 46), .load 24 (.tmp 45), none, 4⟩,
  ⟨(some 47), .call { callee := .value (.func 70), args := #[.tmp 44, .tmp 46], argTypes := #[24, 24] }, none, 15⟩,
  ⟨(some 48), .fieldAddr 65 (.tmp 3) 1, none, 0⟩,
  ⟨(some 49), .load 24 (.tmp 48), none, 32⟩,
  ⟨(some 50), .fieldAddr 65 (.tmp 3) 2, none, 0⟩,
  ⟨(some 51), .load 24 (.tmp 50), none, 128⟩,
  ⟨(some 52), .call { callee := .value (.func 70), args := #[.tmp 49, .tmp 51], argTypes := #[24, 24] }, none, 511⟩,
  ⟨(some 53), .call { callee := .value (.func 66), args := #[.tmp 47, .tmp 52], argTypes := #[24, 24] }, none, 1023⟩,
  ⟨(some 54), .load 24 (.tmp 6), none, 0⟩,
  ⟨(some 55), .load 24 (.tmp 7), none, 0⟩,
  ⟨(some 56), .call { callee := .value (.func 70), args := #[.tmp 54, .tmp 55], argTypes := #[24, 24] }, none, 8191⟩,
  ⟨(some 57), .call { callee := .value (.func 69), args := #[.tmp 53, .tmp 56], argTypes := #[24, 24] }, none, 16383⟩,
  ⟨(some 9), .alloc 24, none, 0⟩,
  ⟨none, .store 24 (.tmp 9) (.tmp 57), none, 1267650600228229401496703270911⟩]
def L45r4 : List AOp := [
  ⟨(some 58), .fieldAddr 65 (.tmp 2) 0, none, 0⟩,
  ⟨(some 59), .load 24 (.tmp 58), none, 1⟩,
  ⟨(some 60), .fieldAddr 65 (.tmp 2) 2, none, 0⟩,
  ⟨(some 61), .load 24 (.tmp 60), none, 4⟩,
  ⟨(some 62), .call { callee := .value (.func 70), args := #[.tmp 59, .tmp 61], argTypes := #[24, 24] }, none, 15⟩,
  ⟨(some 63), .fieldAddr 65 (.tmp 3) 0, none, 0⟩,
  ⟨(some 64), .load 24 (.tmp 63), none, 32⟩,
  ⟨(some 65), .fieldAddr 65 (.tmp 3) 2, none, 0⟩,
  ⟨(some 66), .load 24 (.tmp 65), none, 128⟩,
  ⟨(some 67), .call { callee := .value (.func 70), args := #[.tmp 64, .tmp 66], argTypes := #[24, 24] }, none, 511⟩,
  ⟨(some 68), .call { callee := .value (.func 66), args := #[.tmp 62, .tmp 67], argTypes := #[24, 24] }, none, 1023⟩,
  ⟨(some 69), .load 24 (.tmp 5), none, 0⟩,
  ⟨(some 70), .load 24 (.tmp 7), none, 0⟩,
  ⟨(some 71), .call { callee := .value (.func 70), args := #[.tmp 69, .tmp 70], argTypes := #[24, 24] }, none, 8191⟩,
  ⟨(some 72), .call { callee := .value (.func 69), args := #[.tmp 68, .tmp 71], argTypes := #[24, 24] }, none, 16383⟩,
  ⟨(some 10), .alloc 24, none, 0⟩,
  ⟨none, .store 24 (.tmp 10) (.tmp 72), none, 1267650600228229401496703270911⟩]
def L45r5 : List AOp := [
  ⟨(some 73), .load 24 (.tmp 10), none, 0⟩,
  ⟨(some 74), .load 24 (.global 5), none, 0⟩,
  ⟨(some 75), .load 24 (.tmp 7), none, 0⟩,
  ⟨(some 76), .call { callee := .value (.func 66), args := #[.tmp 74, .tmp 75], argTypes := #[24, 24] }, none, 6⟩,
  ⟨(some 77), .call { callee := .value (.func 69), args := #[.tmp 73, .tmp 76], argTypes := #[24, 24] }, none, 15⟩,
  ⟨(some 78), .call { callee := .value (.func 71), args := #[.tmp 77], argTypes := #[24] }, none, 31⟩,
  ⟨(some 11), .alloc 24, none, 0⟩,
  ⟨none, .store 24 (.tmp 11) (.tmp 78), none, 1267650600228229401496703205503⟩]
def L45r6 : List AOp := [
  ⟨(some 79), .load 24 (.tmp 6), none, 0⟩,
  ⟨(some 80), .load 24 (.tmp 11), none, 0⟩,
  ⟨(some 81), .call { callee := .value (.func 69), args := #[.tmp 79, .tmp 80], argTypes := #[24, 24] }, none, 0⟩,
  ⟨(some 12), .alloc 24, none, 0⟩,
  ⟨none, .store 24 (.tmp 12) (.tmp 81), none, 0⟩]
def L45r7 : List AOp := [
  ⟨(some 82), .load 24 (.tmp 6), none, 0⟩,
  ⟨(some 83), .load 24 (.tmp 11), none, 0⟩,
  ⟨(some 84), .call { callee := .value (.func 70), args := #[.tmp 82, .tmp 83], argTypes := #[24, 24] }, none, 0⟩,
  ⟨none, .store 24 (.tmp 11) (.tmp 84), none, 0⟩]
def L45r8 : List AOp := [
  ⟨(some 85), .load 24 (.tmp 7), none, 0⟩,
  ⟨(some 86), .call { callee := .value (.func 71), args := #[.tmp 85], argTypes := #[24] }, none, 0⟩,
  ⟨none, .store 24 (.tmp 7) (.tmp 86), none, 0⟩]
def L45r9 : List AOp := [
  ⟨(some 87), .load 24 (.global 5), none, 0⟩,
  ⟨(some 88), .load 24 (.tmp 10), none, 0⟩,
  ⟨(some 89), .call { callee := .value (.func 66), args := #[.tmp 87, .tmp 88], argTypes := #[24, 24] }, none, 3⟩,
  ⟨(some 90), .load 24 (.tmp 7), none, 0⟩,
  ⟨(some 91), .call { callee := .value (.func 69), args := #[.tmp 89, .tmp 90], argTypes := #[24, 24] }, none, 15⟩,
  ⟨(some 92), .load 24 (.tmp 5), none, 0⟩,
  ⟨(some 93), .call { callee := .value (.func 69), args := #[.tmp 91, .tmp 92], argTypes := #[24, 24] }, none, 1267650600228229401496703205439⟩,
  ⟨(some 94), .call { callee := .value (.func 71), args := #[.tmp 93], argTypes := #[24] }, none, 1267650600228229401496703205503⟩,
  ⟨none, .store 24 (.tmp 10) (.tmp 94), none, 1267650600228229401496703205631⟩]
def L45r10 : List AOp := [
  ⟨(some 95), .load 24 (.tmp 5), none, 0⟩,
  ⟨(some 96), .call { callee := .value (.func 71), args := #[.tmp 95], argTypes := #[24] }, none, 1⟩,
  ⟨(some 97), .load 24 (.tmp 7), none, 0⟩,
  ⟨(some 98), .call { callee := .value (.func 69), args := #[.tmp 96, .tmp 97], argTypes := #[24, 24] }, none, 1267650600228229401496703205383⟩,
  ⟨none, .store 24 (.tmp 5) (.tmp 98), none, 1267650600228229401496703205391⟩]
def L45r11 : List AOp := [
  ⟨(some 99), .load 24 (.tmp 9), none, 0⟩,
  ⟨(some 100), .load 24 (.tmp 10), none, 0⟩,
  ⟨(some 101), .call { callee := .value (.func 66), args := #[.tmp 99, .tmp 100], argTypes := #[24, 24] }, none, 3⟩,
  ⟨(some 102), .load 24 (.tmp 5), none, 0⟩,
  ⟨(some 103), .load 24 (.tmp 10), none, 0⟩,
  ⟨(some 104), .call { callee := .value (.func 66), args := #[.tmp 102, .tmp 103], argTypes := #[24, 24] }, none, 1267650600228229401496703205407⟩,
  ⟨none, .store 24 (.tmp 6) (.tmp 101), none, 1267650600228229401496703205439⟩,
  ⟨none, .store 24 (.tmp 7) (.tmp 104), none, 1267650600228229401496703205503⟩]
def L45r12 : List AOp := [
  ⟨(some 105), .load 24 (.tmp 8), none, 0⟩,
  ⟨(some 106), .load 24 (.tmp 11), none, 0⟩,
  ⟨(some 107), .call { callee := .value (.func 66), args := #[.tmp 105, .tmp 106], argTypes := #[24, 24] }, none, 3⟩,
  ⟨(some 108), .load 24 (.tmp 6), none, 0⟩,
  ⟨(some 109), .call { callee := .value (.func 69), args := #[.tmp 107, .tmp 108], argTypes := #[24, 24] }, none, 15⟩,
  ⟨(some 110), .load 24 (.tmp 11), none, 0⟩,
  ⟨(some 111), .load 24 (.tmp 12), none, 0⟩,
  ⟨(some 112), .call { callee := .value (.func 66), args := #[.tmp 110, .tmp 111], argTypes := #[24, 24] }, none, 127⟩,
  ⟨(some 113), .load 24 (.tmp 7), none, 0⟩,
  ⟨(some 114), .call { callee := .value (.func 70), args := #[.tmp 112, .tmp 113], argTypes := #[24, 24] }, none, 511⟩,
  ⟨(some 115), .load 24 (.tmp 9), none, 0⟩,
  ⟨(some 116), .load 24 (.tmp 12), none, 0⟩,
  ⟨(some 117), .call { callee := .value (.func 66), args := #[.tmp 115, .tmp 116], argTypes := #[24, 24] }, none, 4095⟩,
  ⟨(some 118), .load 24 (.tmp 8), none, 0⟩,
  ⟨(some 119), .load 24 (.tmp 5), none, 0⟩,
  ⟨(some 120), .call { callee := .value (.func 66), args := #[.tmp 118, .tmp 119], argTypes := #[24, 24] }, none, 1267650600228229401496703238143⟩,
  ⟨(some 121), .call { callee := .value (.func 70), args := #[.tmp 117, .tmp 120], argTypes := #[24, 24] }, none, 1267650600228229401496703270911⟩,
  ⟨(some 122), .build 65 #[(0, .tmp 109), (1, .tmp 114), (2, .tmp 121)], none, 1267650600228229401496703336447⟩,
  ⟨none, .store 65 (.tmp 4) (.tmp 122), none, 1267650600228229401496703467519⟩]
def L45 : LC := (.seq (.region L45r0) (.seq (.regionD L45r1) (.seq (.regionD L45r2) (.seq (.regionD L45r3) (.seq (.regionD L45r4) (.seq (.regionD L45r5) (.seq (.region L45r6) (.seq (.region L45r7) (.seq (.region L45r8) (.seq (.regionD L45r9) (.seq (.regionD L45r10) (.seq (.regionD L45r11) (.seq (.regionD L45r12) .ret)))))))))))))
theorem nt45 : Tryd.f45.ntmps = 123 := by kernel_rfl
theorem rs45 : Tryd.f45.results.toList = [.cell 4 65] := by kernel_rfl
theorem lite45 : Tryd.f45.body.map (lite okDraw) = some L45 := by kernel_rfl
def L54r0 : List AOp := [
  ⟨(some 3), .load 51 (.tmp 1), none, 0⟩,
  ⟨(some 4), .move (.tmp 0), none, 0⟩,
  ⟨(some 5), .buildSlice 51 1 #[(0, .tmp 4)], none, 0⟩,
  ⟨(some 6), .call { callee := .builtin .append, args := #[.tmp 3, .tmp 5], argTypes := #[51, 51] }, none, 0⟩,
  ⟨none, .store 51 (.tmp 1) (.tmp 6), none, 0⟩]
def L54 : LC := (.region L54r0)
theorem nt54 : Tryd.f54.ntmps = 7 := by kernel_rfl
theorem rs54 : Tryd.f54.results.toList = [] := by kernel_rfl
theorem lite54 : Tryd.f54.body.map (lite okDraw) = some L54 := by kernel_rfl
def L55r0 : List AOp := [
  ⟨(some 2), .box 24 (.tmp 0), none, 0⟩,
  ⟨(some 3), .box 24 (.tmp 1), none, 0⟩,
  ⟨(some 4), .assign (.const (.int .u64 0)), none, 0⟩]
def L55r1 : List AOp := [
  ⟨(some 8), .load 24 (.tmp 2), none, 0⟩,
  ⟨(some 9), .load 24 (.tmp 3), none, 0⟩,
  ⟨(some 10), .call { callee := .value (.func 78), args := #[.tmp 8, .tmp 9], argTypes := #[24, 24] }, none, 0⟩,
  ⟨(some 7), .move (.tmp 10), none, 0⟩,
  ⟨(some 11), .extract (.tmp 7) 0, none, 0⟩,
  ⟨(some 12), .extract (.tmp 7) 1, none, 0⟩,
  ⟨(some 5), .alloc 24, none, 0⟩,
  ⟨none, .store 24 (.tmp 5) (.tmp 11), none, 0⟩,
  ⟨(some 6), .assign (.tmp 12), none, 0⟩]
def L55r2 : List AOp := [
  ⟨(some 13), .move (.tmp 6), none, 0⟩,
  ⟨(some 4), .assign (.tmp 13), none, 0⟩]
def L55 : LC := (.seq (.region L55r0) (.seq (.region L55r1) (.seq (.region L55r2) .ret)))
theorem nt55 : Tryd.f55.ntmps = 14 := by kernel_rfl
theorem rs55 : Tryd.f55.results.toList = [.tmp 4] := by kernel_rfl
theorem lite55 : Tryd.f55.body.map (lite okDraw) = some L55 := by kernel_rfl
def L56r0 : List AOp := [
  ⟨(some 0), .alloc 24, none, 0⟩]
def L56r1 : List AOp := [
  ⟨(some 1), .fieldAddr 82 (.global 1) 0, none, 0⟩,
  ⟨(some 2), .load 24 (.tmp 1), none, 0⟩,
  ⟨none, .store 24 (.tmp 0) (.tmp 2), none, 0⟩]
def L56 : LC := (.seq (.region L56r0) (.seq (.region L56r1) .ret))
theorem nt56 : Tryd.f56.ntmps = 3 := by kernel_rfl
theorem rs56 : Tryd.f56.results.toList = [.cell 0 24] := by kernel_rfl
theorem lite56 : Tryd.f56.body.map (lite okDraw) = some L56 := by kernel_rfl
def L57r0 : List AOp := [
  ⟨(some 2), .box 24 (.tmp 0), none, 0⟩,
  ⟨(some 3), .box 24 (.tmp 1), none, 0⟩,
  ⟨(some 4), .alloc 24, none, 0⟩]
def L57r1 : List AOp := [
  ⟨(some 5), .load 24 (.tmp 2), none, 0⟩,
  ⟨(some 6), .load 24 (.tmp 3), none, 0⟩,
  ⟨(some 7), .load 82 (.global 1), none, 0⟩,
  ⟨(some 8), .call { callee := .value (.func 60), args := #[.tmp 5, .tmp 6, .tmp 7], argTypes := #[24, 24, 82] }, none, 0⟩,
  ⟨none, .store 24 (.tmp 4) (.tmp 8), none, 0⟩]
def L57 : LC := (.seq (.region L57r0) (.seq (.region L57r1) .ret))
theorem nt57 : Tryd.f57.ntmps = 9 := by kernel_rfl
theorem rs57 : Tryd.f57.results.toList = [.cell 4 24] := by kernel_rfl
theorem lite57 : Tryd.f57.body.map (lite okDraw) = some L57 := by kernel_rfl
def L58r0 : List AOp := [
  ⟨(some 2), .box 24 (.tmp 0), none, 0⟩,
  ⟨(some 3), .box 24 (.tmp 1), none, 0⟩,
  ⟨(some 4), .alloc 24, none, 0⟩]
def L58r1 : List AOp := [
  ⟨(some 5), .load 24 (.tmp 2), none, 0⟩,
  ⟨(some 6), .load 24 (.tmp 3), none, 0⟩,
  ⟨(some 7), .load 82 (.global 1), none, 0⟩,
  ⟨(some 8), .call { callee := .value (.func 77), args := #[.tmp 5, .tmp 6, .tmp 7], argTypes := #[24, 24, 82] }, none, 0⟩,
  ⟨none, .store 24 (.tmp 4) (.tmp 8), none, 0⟩]
def L58 : LC := (.seq (.region L58r0) (.seq (.region L58r1) .ret))
theorem nt58 : Tryd.f58.ntmps = 9 := by kernel_rfl
theorem rs58 : Tryd.f58.results.toList = [.cell 4 24] := by kernel_rfl
theorem lite58 : Tryd.f58.body.map (lite okDraw) = some L58 := by kernel_rfl
def L59r0 : List AOp := [
  ⟨(some 0), .alloc 24, none, 0⟩]
def L59r1 : List AOp := [
  ⟨(some 1), .load 24 (.global 5), none, 0⟩,
  ⟨(some 2), .build 24 #[(0, .const (.int .u64 1))], none, 0⟩,
  ⟨(some 3), .call { callee := .value (.func 80), args := #[.tmp 1, .tmp 2], argTypes := #[24, 24] }, none, 3⟩,
  ⟨(some 4), .load 82 (.global 3), none, 0⟩,
  ⟨(some 5), .call { callee := .value (.func 79), args := #[.tmp 3, .tmp 4], argTypes := #[93, 82] }, none, 1267650600228229401496703205391⟩,
  ⟨none, .store 24 (.tmp 0) (.tmp 5), none, 1267650600228229401496703205407⟩]
def L59 : LC := (.seq (.region L59r0) (.seq (.regionD L59r1) .ret))
theorem nt59 : Tryd.f59.ntmps = 6 := by kernel_rfl
theorem rs59 : Tryd.f59.results.toList = [.cell 0 24] := by kernel_rfl
theorem lite59 : Tryd.f59.body.map (lite okDraw) = some L59 := by kernel_rfl
def L60r0 : List AOp := [
  ⟨(some 3), .box 24 (.tmp 0), none, 0⟩,
  ⟨(some 4), .box 24 (.tmp 1), none, 0⟩,
  ⟨(some 5), .box 82 (.tmp 2), none, 0⟩,
  ⟨(some 6), .alloc 24, none, 0⟩]
def L60r1 : List AOp := [
  ⟨(some 7), .load 24 (.tmp 3), none, 0⟩,
  ⟨(some 8), .fieldAddr 82 (.tmp 5) 2, none, 0⟩,
  ⟨(some 9), .load 24 (.tmp 8), none, 2⟩,
  ⟨(some 10), .load 82 (.tmp 5), none, 0⟩,
  ⟨(some 11), .call { callee := .value (.func 81), args := #[.tmp 7, .tmp 9, .tmp 10], argTypes := #[24, 24, 82] }, none, 15⟩,
  ⟨(some 12), .load 24 (.tmp 4), none, 0⟩,
  ⟨(some 13), .load 82 (.tmp 5), none, 0⟩,
  ⟨(some 14), .call { callee := .value (.func 81), args := #[.tmp 11, .tmp 12, .tmp 13], argTypes := #[24, 24, 82] }, none, 1267650600228229401496703205503⟩,
  ⟨none, .store 24 (.tmp 6) (.tmp 14), none, 1267650600228229401496703205631⟩]
def L60 : LC := (.seq (.region L60r0) (.seq (.regionD L60r1) .ret))
theorem nt60 : Tryd.f60.ntmps = 15 := by kernel_rfl
theorem rs60 : Tryd.f60.results.toList = [.cell 6 24] := by kernel_rfl
theorem lite60 : Tryd.f60.body.map (lite okDraw) = some L60 := by kernel_rfl
def L61r0 : List AOp := [
  ⟨(some 3), .box 24 (.tmp 0), none, 0⟩,
  ⟨(some 4), .box 24 (.tmp 1), none, 0⟩,
  ⟨(some 5), .box 82 (.tmp 2), none, 0⟩,
  ⟨(some 6), .alloc 24, none, 0⟩]
def L61r1 : List AOp := [
  ⟨(some 10), .load 24 (.tmp 3), none, 0⟩,
  ⟨(some 11), .load 82 (.tmp 5), none, 0⟩,
  ⟨(some 12), .call { callee := .value (.func 83), args := #[.tmp 10, .tmp 11], argTypes := #[24, 82] }, none, 3⟩,
  ⟨(some 13), .load 24 (.tmp 4), none, 0⟩,
  ⟨(some 14), .load 82 (.tmp 5), none, 0⟩,
  ⟨(some 15), .call { callee := .value (.func 83), args := #[.tmp 13, .tmp 14], argTypes := #[24, 82] }, none, 31⟩,
  ⟨(some 16), .call { callee := .value (.func 82), args := #[.tmp 12, .tmp 15], argTypes := #[24, 24] }, none, 63⟩,
  ⟨(some 9), .move (.tmp 16), none, 127⟩,
  ⟨(some 17), .extract (.tmp 9) 0, none, 255⟩,
  ⟨(some 18), .extract (.tmp 9) 1, none, 255⟩,
  ⟨(some 7), .alloc 24, none, 0⟩,
  ⟨none, .store 24 (.tmp 7) (.tmp 17), none, 1535⟩,
  ⟨(some 8), .assign (.tmp 18), none, 1267650600228229401496703209471⟩]
def L61r2 : List AOp := [
  ⟨(some 19), .load 24 (.tmp 7), none, 0⟩,
  ⟨(some 20), .move (.tmp 8), none, 0⟩,
  ⟨(some 21), .fieldAddr 82 (.tmp 5) 0, none, 0⟩,
  ⟨(some 22), .load 24 (.tmp 21), none, 0⟩,
  ⟨(some 23), .call { callee := .value (.func 84), args := #[.tmp 19, .tmp 20, .tmp 22], argTypes := #[24, 22, 24] }, none, 0⟩,
  ⟨none, .store 24 (.tmp 6) (.tmp 23), none, 0⟩]
def L61 : LC := (.seq (.region L61r0) (.seq (.regionD L61r1) (.seq (.region L61r2) .ret)))
theorem nt61 : Tryd.f61.ntmps = 24 := by kernel_rfl
theorem rs61 : Tryd.f61.results.toList = [.cell 6 24] := by kernel_rfl
theorem lite61 : Tryd.f61.body.map (lite okDraw) = some L61 := by kernel_rfl
def L64r0 : List AOp := [
  ⟨(some 2), .box 24 (.tmp 0), none, 0⟩,
  ⟨(some 4), .assign (.const (.int .u64 0)), none, 0⟩]
def L64r1 : List AOp := [
  ⟨(some 5), .move (.tmp 1), none, 0⟩,
  ⟨(some 6), .binOp .lss 3 (.tmp 5) (.const (.int .i64 0)) 3, none, 0⟩,
  ⟨(some 7), .move (.tmp 6), none, 0⟩,
  ⟨(some 8), .move (.tmp 1), (some (7, false)), 0⟩,
  ⟨(some 9), .binOp .geq 3 (.tmp 8) (.const (.int .i64 384)) 3, (some (7, false)), 0⟩,
  ⟨(some 10), .pick (.tmp 7) (.const (.bool true)) (.tmp 9), none, 0⟩]
def L64r2 : List AOp := [
  ⟨(some 4), .assign (.const (.int .u64 0)), none, 0⟩]
def L64r3 : List AOp := [
  ⟨(some 11), .move (.tmp 1), none, 0⟩,
  ⟨(some 12), .binOp .quo 3 (.tmp 11) (.const (.int .i64 64)) 3, none, 0⟩,
  ⟨(some 13), .indexAddr 24 (.tmp 2) (.tmp 12), none, 0⟩,
  ⟨(some 14), .load 22 (.tmp 13), none, 0⟩,
  ⟨(some 15), .move (.tmp 1), none, 0⟩,
  ⟨(some 16), .binOp .rem 3 (.tmp 15) (.const (.int .i64 64)) 3, none, 0⟩,
  ⟨(some 17), .binOp .shr 22 (.tmp 14) (.tmp 16) 3, none, 0⟩,
  ⟨(some 18), .binOp .and 22 (.tmp 17) (.const (.int .u64 1)) 22, none, 0⟩,
  ⟨(some 4), .assign (.tmp 18), none, 0⟩]
def L64 : LC := (.seq (.region L64r0) (.seq (.seq (.region L64r1) (.cond (.tmp 10) (.seq (.region L64r2) .ret) .skip)) (.seq (.region L64r3) .ret)))
theorem nt64 : Tryd.f64.ntmps = 19 := by kernel_rfl
theorem rs64 : Tryd.f64.results.toList = [.tmp 4] := by kernel_rfl
theorem lite64 : Tryd.f64.body.map (lite okDraw) = some L64 := by kernel_rfl
def L65r0 : List AOp := [
  ⟨(some 4), .box 65 (.tmp 1), none, 0⟩,
  ⟨(some 5), .box 65 (.tmp 2), none, 0⟩,
  ⟨(some 6), .alloc 65, none, 0⟩]
def L65r1 : List AOp := [
  ⟨(some 7), .move (.tmp 0), none, 0⟩,
  ⟨(some 8), .fieldAddr 65 (.tmp 4) 0, none, 0⟩,
  ⟨(some 9), .load 24 (.tmp 8), none, 2⟩,
  ⟨(some 10), .fieldAddr 65 (.tmp 5) 0, none, 0⟩,
  ⟨(some 11), .load 24 (.tmp 10), none, 8⟩,
  ⟨(some 12), .call { callee := .value (.func 87), args := #[.tmp 7, .tmp 9, .tmp 11], argTypes := #[22, 24, 24] }, none, 31⟩,
  ⟨(some 13), .move (.tmp 0), none, 0⟩,
  ⟨(some 14), .fieldAddr 65 (.tmp 4) 1, none, 0⟩,
  ⟨(some 15), .load 24 (.tmp 14), none, 128⟩,
  ⟨(some 16), .fieldAddr 65 (.tmp 5) 1, none, 0⟩,
  ⟨(some 17), .load 24 (.tmp 16), none, 512⟩,
  ⟨(some 18), .call { callee := .value (.func 87), args := #[.tmp 13, .tmp 15, .tmp 17], argTypes := #[22, 24, 24] }, none, 2047⟩,
  ⟨(some 19), .move (.tmp 0), none, 0⟩,
  ⟨(some 20), .fieldAddr 65 (.tmp 4) 2, none, 0⟩,
  ⟨(some 21), .load 24 (.tmp 20), none, 8192⟩,
  ⟨(some 22), .fieldAddr 65 (.tmp 5) 2, none, 0⟩,
  ⟨(some 23), .load 24 (.tmp 22), none, 32768⟩,
  ⟨(some 24), .call { callee := .value (.func 87), args := #[.tmp 19, .tmp 21, .tmp 23], argTypes := #[22, 24, 24] }, none, 1267650600228229401496703336447⟩,
  ⟨(some 25), .build 65 #[(0, .tmp 12), (1, .tmp 18), (2, .tmp 24)], none, 1267650600228229401496703467519⟩,
  ⟨none, .store 65 (.tmp 6) (.tmp 25), none, 1267650600228229401496703729663⟩]
def L65 : LC := (.seq (.region L65r0) (.seq (.regionD L65r1) .ret))
theorem nt65 : Tryd.f65.ntmps = 26 := by kernel_rfl
theorem rs65 : Tryd.f65.results.toList = [.cell 6 65] := by kernel_rfl
theorem lite65 : Tryd.f65.body.map (lite okDraw) = some L65 := by kernel_rfl
def L66r0 : List AOp := [
  ⟨(some 2), .box 24 (.tmp 0), none, 0⟩,
  ⟨(some 3), .box 24 (.tmp 1), none, 0⟩,
  ⟨(some 4), .alloc 24, none, 0⟩]
def L66r1 : List AOp := [
  ⟨(some 5), .load 24 (.tmp 2), none, 0⟩,
  ⟨(some 6), .load 24 (.tmp 3), none, 0⟩,
  ⟨(some 7), .call { callee := .value (.func 80), args := #[.tmp 5, .tmp 6], argTypes := #[24, 24] }, none, 3⟩,
  ⟨(some 8), .load 82 (.global 3), none, 0⟩,
  ⟨(some 9), .call { callee := .value (.func 79), args := #[.tmp 7, .tmp 8], argTypes := #[93, 82] }, none, 1267650600228229401496703205391⟩,
  ⟨none, .store 24 (.tmp 4) (.tmp 9), none, 1267650600228229401496703205407⟩]
def L66 : LC := (.seq (.region L66r0) (.seq (.regionD L66r1) .ret))
theorem nt66 : Tryd.f66.ntmps = 10 := by kernel_rfl
theorem rs66 : Tryd.f66.results.toList = [.cell 4 24] := by kernel_rfl
theorem lite66 : Tryd.f66.body.map (lite okDraw) = some L66 := by kernel_rfl
def L67r0 : List AOp := [
  ⟨(some 1), .box 24 (.tmp 0), none, 0⟩,
  ⟨(some 2), .alloc 24, none, 0⟩]
def L67r1 : List AOp := [
  ⟨(some 6), .fieldAddr 82 (.global 1) 0, none, 0⟩,
  ⟨(some 7), .load 24 (.tmp 6), none, 0⟩,
  ⟨(some 8), .build 24 #[(0, .const (.int .u64 2))], none, 0⟩,
  ⟨(some 9), .call { callee := .value (.func 78), args := #[.tmp 7, .tmp 8], argTypes := #[24, 24] }, none, 0⟩,
  ⟨(some 5), .move (.tmp 9), none, 0⟩,
  ⟨(some 10), .extract (.tmp 5) 0, none, 0⟩,
  ⟨(some 11), .extract (.tmp 5) 1, none, 0⟩,
  ⟨(some 3), .alloc 24, none, 0⟩,
  ⟨none, .store 24 (.tmp 3) (.tmp 10), none, 0⟩,
  ⟨(some 4), .assign (.tmp 11), none, 0⟩]
def L67r2 : List AOp := [
  ⟨(some 12), .load 24 (.tmp 1), none, 0⟩,
  ⟨(some 13), .load 24 (.tmp 3), none, 0⟩,
  ⟨(some 14), .load 82 (.global 1), none, 0⟩,
  ⟨(some 15), .call { callee := .value (.func 85), args := #[.tmp 12, .tmp 13, .tmp 14], argTypes := #[24, 24, 82] }, none, 0⟩,
  ⟨none, .store 24 (.tmp 2) (.tmp 15), none, 0⟩]
def L67 : LC := (.seq (.region L67r0) (.seq (.region L67r1) (.seq (.region L67r2) .ret)))
theorem nt67 : Tryd.f67.ntmps = 16 := by kernel_rfl
theorem rs67 : Tryd.f67.results.toList = [.cell 2 24] := by kernel_rfl
theorem lite67 : Tryd.f67.body.map (lite okDraw) = some L67 := by kernel_rfl
def L69r0 : List AOp := [
  ⟨(some 2), .box 24 (.tmp 0), none, 0⟩,
  ⟨(some 3), .box 24 (.tmp 1), none, 0⟩,
  ⟨(some 4), .alloc 24, none, 0⟩]
def L69r1 : List AOp := [
  ⟨(some 10), .load 24 (.tmp 2), none, 0⟩,
  ⟨(some 11), .load 24 (.tmp 3), none, 0⟩,
  ⟨(some 12), .call { callee := .value (.func 78), args := #[.tmp 10, .tmp 11], argTypes := #[24, 24] }, none, 0⟩,
  ⟨(some 9), .move (.tmp 12), none, 0⟩,
  ⟨(some 13), .extract (.tmp 9) 0, none, 0⟩,
  ⟨(some 14), .extract (.tmp 9) 1, none, 0⟩,
  ⟨(some 5), .alloc 24, none, 0⟩,
  ⟨none, .store 24 (.tmp 5) (.tmp 13), none, 0⟩,
  ⟨(some 6), .assign (.tmp 14), none, 0⟩]
def L69r2 : List AOp := [
  ⟨(some 16), .load 24 (.tmp 5), none, 0⟩,
  ⟨(some 17), .fieldAddr 82 (.global 3) 0, none, 0⟩,
  ⟨(some 18), .load 24 (.tmp 17), none, 0⟩,
  ⟨(some 19), .call { callee := .value (.func 82), args := #[.tmp 16, .tmp 18], argTypes := #[24, 24] }, none, 0⟩,
  ⟨(some 15), .move (.tmp 19), none, 0⟩,
  ⟨(some 20), .extract (.tmp 15) 0, none, 0⟩,
  ⟨(some 21), .extract (.tmp 15) 1, none, 0⟩,
  ⟨(some 7), .alloc 24, none, 0⟩,
  ⟨none, .store 24 (.tmp 7) (.tmp 20), none, 0⟩,
  ⟨(some 8), .assign (.tmp 21), none, 0⟩]
def L69r3 : List AOp := [
  ⟨(some 22), .move (.tmp 6), none, 0⟩,
  ⟨(some 23), .load 24 (.tmp 5), none, 0⟩,
  ⟨(some 24), .load 24 (.tmp 7), none, 0⟩,
  ⟨(some 25), .call { callee := .value (.func 87), args := #[.tmp 22, .tmp 23, .tmp 24], argTypes := #[22, 24, 24] }, none, 0⟩,
  ⟨none, .store 24 (.tmp 4) (.tmp 25), none, 0⟩]
def L69 : LC := (.seq (.region L69r0) (.seq (.region L69r1) (.seq (.region L69r2) (.seq (.region L69r3) .ret))))
theorem nt69 : Tryd.f69.ntmps = 26 := by kernel_rfl
theorem rs69 : Tryd.f69.results.toList = [.cell 4 24] := by kernel_rfl
theorem lite69 : Tryd.f69.body.map (lite okDraw) = some L69 := by kernel_rfl
def L70r0 : List AOp := [
  ⟨(some 2), .box 24 (.tmp 0), none, 0⟩,
  ⟨(some 3), .box 24 (.tmp 1), none, 0⟩,
  ⟨(some 4), .alloc 24, none, 0⟩]
def L70r1 : List AOp := [
  ⟨(some 10), .load 24 (.tmp 2), none, 0⟩,
  ⟨(some 11), .load 24 (.tmp 3), none, 0⟩,
  ⟨(some 12), .call { callee := .value (.func 82), args := #[.tmp 10, .tmp 11], argTypes := #[24, 24] }, none, 0⟩,
  ⟨(some 9), .move (.tmp 12), none, 0⟩,
  ⟨(some 13), .extract (.tmp 9) 0, none, 0⟩,
  ⟨(some 14), .extract (.tmp 9) 1, none, 0⟩,
  ⟨(some 5), .alloc 24, none, 0⟩,
  ⟨none, .store 24 (.tmp 5) (.tmp 13), none, 0⟩,
  ⟨(some 6), .assign (.tmp 14), none, 0⟩]
def L70r2 : List AOp := [
  ⟨(some 16), .load 24 (.tmp 5), none, 0⟩,
  ⟨(some 17), .fieldAddr 82 (.global 3) 0, none, 0⟩,
  ⟨(some 18), .load 24 (.tmp 17), none, 0⟩,
  ⟨(some 19), .call { callee := .value (.func 78), args := #[.tmp 16, .tmp 18], argTypes := #[24, 24] }, none, 0⟩,
  ⟨(some 15), .move (.tmp 19), none, 0⟩,
  ⟨(some 20), .extract (.tmp 15) 0, none, 0⟩,
  ⟨(some 21), .extract (.tmp 15) 1, none, 0⟩,
  ⟨(some 7), .alloc 24, none, 0⟩,
  ⟨none, .store 24 (.tmp 7) (.tmp 20), none, 0⟩,
  ⟨(some 8), .assign (.tmp 21), none, 0⟩]
def L70r3 : List AOp := [
  ⟨(some 22), .move (.tmp 6), none, 0⟩,
  ⟨(some 23), .move (.tmp 8), none, 0⟩,
  ⟨(some 24), .binOp .xor 22 (.const (.int .u64 1)) (.tmp 23) 22, none, 0⟩,
  ⟨(some 25), .binOp .or 22 (.tmp 22) (.tmp 24) 22, none, 0⟩,
  ⟨(some 26), .load 24 (.tmp 5), none, 0⟩,
  ⟨(some 27), .load 24 (.tmp 7), none, 0⟩,
  ⟨(some 28), .call { callee := .value (.func 87), args := #[.tmp 25, .tmp 26, .tmp 27], argTypes := #[22, 24, 24] }, none, 0⟩,
  ⟨none, .store 24 (.tmp 4) (.tmp 28), none, 0⟩]
def L70 : LC := (.seq (.region L70r0) (.seq (.region L70r1) (.seq (.region L70r2) (.seq (.region L70r3) .ret))))
theorem nt70 : Tryd.f70.ntmps = 29 := by kernel_rfl
theorem rs70 : Tryd.f70.results.toList = [.cell 4 24] := by kernel_rfl
theorem lite70 : Tryd.f70.body.map (lite okDraw) = some L70 := by kernel_rfl
def L71r0 : List AOp := [
  ⟨(some 1), .box 24 (.tmp 0), none, 0⟩,
  ⟨(some 2), .alloc 24, none, 0⟩]
def L71r1 : List AOp := [
  ⟨(some 3), .load 24 (.tmp 1), none, 0⟩,
  ⟨(some 4), .load 24 (.tmp 1), none, 0⟩,
  ⟨(some 5), .load 24 (.tmp 1), none, 0⟩,
  ⟨(some 6), .call { callee := .value (.func 70), args := #[.tmp 4, .tmp 5], argTypes := #[24, 24] }, none, 6⟩,
  ⟨(some 7), .call { callee := .value (.func 70), args := #[.tmp 3, .tmp 6], argTypes := #[24, 24] }, none, 1267650600228229401496703205391⟩,
  ⟨none, .store 24 (.tmp 2) (.tmp 7), none, 1267650600228229401496703205407⟩]
def L71 : LC := (.seq (.region L71r0) (.seq (.regionD L71r1) .ret))
theorem nt71 : Tryd.f71.ntmps = 8 := by kernel_rfl
theorem rs71 : Tryd.f71.results.toList = [.cell 2 24] := by kernel_rfl
theorem lite71 : Tryd.f71.body.map (lite okDraw) = some L71 := by kernel_rfl
def L77r0 : List AOp := [
  ⟨(some 3), .box 24 (.tmp 0), none, 0⟩,
  ⟨(some 4), .box 24 (.tmp 1), none, 0⟩,
  ⟨(some 5), .box 82 (.tmp 2), none, 0⟩,
  ⟨(some 6), .alloc 24, none, 0⟩]
def L77r1 : List AOp := [
  ⟨(some 12), .load 24 (.tmp 3), none, 0⟩,
  ⟨(some 13), .load 82 (.tmp 5), none, 0⟩,
  ⟨(some 14), .call { callee := .value (.func 83), args := #[.tmp 12, .tmp 13], argTypes := #[24, 82] }, none, 3⟩,
  ⟨(some 15), .load 24 (.tmp 4), none, 0⟩,
  ⟨(some 16), .load 82 (.tmp 5), none, 0⟩,
  ⟨(some 17), .call { callee := .value (.func 83), args := #[.tmp 15, .tmp 16], argTypes := #[24, 82] }, none, 31⟩,
  ⟨(some 18), .call { callee := .value (.func 78), args := #[.tmp 14, .tmp 17], argTypes := #[24, 24] }, none, 63⟩,
  ⟨(some 11), .move (.tmp 18), none, 127⟩,
  ⟨(some 19), .extract (.tmp 11) 0, none, 255⟩,
  ⟨(some 20), .extract (.tmp 11) 1, none, 255⟩,
  ⟨(some 7), .alloc 24, none, 0⟩,
  ⟨none, .store 24 (.tmp 7) (.tmp 19), none, 1535⟩,
  ⟨(some 8), .assign (.tmp 20), none, 1267650600228229401496703209471⟩]
def L77r2 : List AOp := [
  ⟨(some 22), .load 24 (.tmp 7), none, 0⟩,
  ⟨(some 23), .fieldAddr 82 (.tmp 5) 0, none, 0⟩,
  ⟨(some 24), .load 24 (.tmp 23), none, 0⟩,
  ⟨(some 25), .call { callee := .value (.func 82), args := #[.tmp 22, .tmp 24], argTypes := #[24, 24] }, none, 0⟩,
  ⟨(some 21), .move (.tmp 25), none, 0⟩,
  ⟨(some 26), .extract (.tmp 21) 0, none, 0⟩,
  ⟨(some 27), .extract (.tmp 21) 1, none, 0⟩,
  ⟨(some 9), .alloc 24, none, 0⟩,
  ⟨none, .store 24 (.tmp 9) (.tmp 26), none, 0⟩,
  ⟨(some 10), .assign (.tmp 27), none, 0⟩]
def L77r3 : List AOp := [
  ⟨(some 28), .move (.tmp 8), none, 0⟩,
  ⟨(some 29), .load 24 (.tmp 7), none, 0⟩,
  ⟨(some 30), .load 24 (.tmp 9), none, 0⟩,
  ⟨(some 31), .call { callee := .value (.func 87), args := #[.tmp 28, .tmp 29, .tmp 30], argTypes := #[22, 24, 24] }, none, 0⟩,
  ⟨none, .store 24 (.tmp 6) (.tmp 31), none, 0⟩]
def L77 : LC := (.seq (.region L77r0) (.seq (.regionD L77r1) (.seq (.region L77r2) (.seq (.region L77r3) .ret))))
theorem nt77 : Tryd.f77.ntmps = 32 := by kernel_rfl
theorem rs77 : Tryd.f77.results.toList = [.cell 6 24] := by kernel_rfl
theorem lite77 : Tryd.f77.body.map (lite okDraw) = some L77 := by kernel_rfl
def L78r0 : List AOp := [
  ⟨(some 2), .box 24 (.tmp 0), none, 0⟩,
  ⟨(some 3), .box 24 (.tmp 1), none, 0⟩,
  ⟨(some 4), .alloc 24, none, 0⟩,
  ⟨(some 5), .assign (.const (.int .u64 0)), none, 0⟩]
def L78r1 : List AOp := [
  ⟨(some 6), .alloc 24, none, 0⟩]
def L78r2 : List AOp := [
  ⟨(some 7), .assign (.const (.int .u64 0)), none, 0⟩]
def L78r3 : List AOp := [
  ⟨(some 9), .move (.const (.int .i64 0)), none, 0⟩]
def L78r4 : List AOp := [
  ⟨(some 10), .binOp .lss 3 (.tmp 9) (.const (.int .i64 6)) 3, none, 0⟩]
def L78r5 : List AOp := [
  ⟨(some 11), .move (.tmp 9), none, 0⟩,
  ⟨(some 8), .assign (.tmp 11), none, 0⟩]
def L78r6 : List AOp := [
  ⟨(some 13), .move (.tmp 8), none, 0⟩,
  ⟨(some 14), .move (.tmp 8), none, 0⟩,
  ⟨(some 15), .indexAddr 24 (.tmp 2) (.tmp 14), none, 2⟩,
  ⟨(some 16), .load 22 (.tmp 15), none, 6⟩,
  ⟨(some 17), .move (.tmp 8), none, 0⟩,
  ⟨(some 18), .indexAddr 24 (.tmp 3) (.tmp 17), none, 16⟩,
  ⟨(some 19), .load 22 (.tmp 18), none, 48⟩,
  ⟨(some 20), .move (.tmp 7), none, 0⟩,
  ⟨(some 21), .call { callee := .value (.func 90), args := #[.tmp 16, .tmp 19, .tmp 20], argTypes := #[22, 22, 22] }, none, 254⟩,
  ⟨(some 12), .move (.tmp 21), none, 510⟩,
  ⟨(some 22), .extract (.tmp 12) 0, none, 1022⟩,
  ⟨(some 23), .extract (.tmp 12) 1, none, 1022⟩,
  ⟨(some 24), .indexAddr 24 (.tmp 6) (.tmp 13), none, 2047⟩,
  ⟨none, .store 22 (.tmp 24) (.tmp 22), none, 6143⟩,
  ⟨(some 7), .assign (.tmp 23), none, 1267650600228229401496703221759⟩]
def L78r7 : List AOp := [
  ⟨(some 25), .binOp .add 3 (.tmp 9) (.const (.int .i64 1)) 3, none, 0⟩,
  ⟨(some 9), .move (.tmp 25), none, 0⟩]
def L78r8 : List AOp := [
  ⟨(some 26), .load 24 (.tmp 6), none, 0⟩,
  ⟨(some 27), .move (.tmp 7), none, 0⟩,
  ⟨none, .store 24 (.tmp 4) (.tmp 26), none, 0⟩,
  ⟨(some 5), .assign (.tmp 27), none, 0⟩]
def L78 : LC := (.seq (.region L78r0) (.seq (.region L78r1) (.seq (.region L78r2) (.seq (.seq (.region L78r3) (.block 0 (.loop (.seq (.region L78r4) (.seq (.cond (.tmp 10) .skip (.exit 0)) (.seq (.block 1 (.seq (.region L78r5) (.regionD L78r6))) (.region L78r7))))))) (.seq (.region L78r8) .ret)))))
theorem nt78 : Tryd.f78.ntmps = 28 := by kernel_rfl
theorem rs78 : Tryd.f78.results.toList = [.cell 4 24, .tmp 5] := by kernel_rfl
theorem lite78 : Tryd.f78.body.map (lite okDraw) = some L78 := by kernel_rfl
def L79r0 : List AOp := [
  ⟨(some 2), .box 93 (.tmp 0), none, 0⟩,
  ⟨(some 3), .box 82 (.tmp 1), none, 0⟩,
  ⟨(some 4), .alloc 24, none, 0⟩]
def L79r1 : List AOp := [
  ⟨(some 5), .assign (.const (.int .u64 0)), none, 0⟩]
def L79r2 : List AOp := [
  ⟨(some 16), .move (.const (.int .i64 0)), none, 0⟩]
def L79r3 : List AOp := [
  ⟨(some 17), .binOp .lss 3 (.tmp 16) (.const (.int .i64 6)) 3, none, 0⟩]
def L79r4 : List AOp := [
  ⟨(some 18), .move (.tmp 16), none, 0⟩,
  ⟨(some 6), .assign (.tmp 18), none, 0⟩]
def L79r5 : List AOp := [
  ⟨(some 19), .move (.tmp 6), none, 0⟩,
  ⟨(some 20), .indexAddr 93 (.tmp 2) (.tmp 19), none, 1⟩,
  ⟨(some 21), .load 22 (.tmp 20), none, 3⟩,
  ⟨(some 22), .fieldAddr 82 (.tmp 3) 1, none, 0⟩,
  ⟨(some 23), .load 22 (.tmp 22), none, 8⟩,
  ⟨(some 24), .binOp .mul 22 (.tmp 21) (.tmp 23) 22, none, 1267650600228229401496703205407⟩,
  ⟨(some 7), .assign (.tmp 24), none, 1267650600228229401496703205439⟩]
def L79r6 : List AOp := [
  ⟨(some 8), .assign (.const (.int .u64 0)), none, 0⟩]
def L79r7 : List AOp := [
  ⟨(some 25), .move (.const (.int .i64 0)), none, 0⟩]
def L79r8 : List AOp := [
  ⟨(some 26), .binOp .lss 3 (.tmp 25) (.const (.int .i64 6)) 3, none, 0⟩]
def L79r9 : List AOp := [
  ⟨(some 27), .move (.tmp 25), none, 0⟩,
  ⟨(some 9), .assign (.tmp 27), none, 0⟩]
def L79r10 : List AOp := [
  ⟨(some 29), .move (.tmp 7), none, 0⟩,
  ⟨(some 30), .move (.tmp 9), none, 0⟩,
  ⟨(some 31), .fieldAddr 82 (.tmp 3) 0, none, 0⟩,
  ⟨(some 32), .indexAddr 24 (.tmp 31) (.tmp 30), none, 0⟩,
  ⟨(some 33), .load 22 (.tmp 32), none, 0⟩,
  ⟨(some 34), .call { callee := .value (.func 91), args := #[.tmp 29, .tmp 33], argTypes := #[22, 22] }, none, 0⟩,
  ⟨(some 28), .move (.tmp 34), none, 0⟩,
  ⟨(some 35), .extract (.tmp 28) 0, none, 0⟩,
  ⟨(some 36), .extract (.tmp 28) 1, none, 0⟩,
  ⟨(some 10), .assign (.tmp 35), none, 0⟩,
  ⟨(some 11), .assign (.tmp 36), none, 0⟩]
def L79r11 : List AOp := [
  ⟨(some 12), .assign (.const (.int .u64 0)), none, 0⟩]
def L79r12 : List AOp := [
  ⟨(some 38), .move (.tmp 11), none, 0⟩,
  ⟨(some 39), .move (.tmp 6), none, 0⟩,
  ⟨(some 40), .move (.tmp 9), none, 0⟩,
  ⟨(some 41), .binOp .add 3 (.tmp 39) (.tmp 40) 3, none, 0⟩,
  ⟨(some 42), .indexAddr 93 (.tmp 2) (.tmp 41), none, 0⟩,
  ⟨(some 43), .load 22 (.tmp 42), none, 0⟩,
  ⟨(some 44), .call { callee := .value (.func 92), args := #[.tmp 38, .tmp 43, .const (.int .u64 0)], argTypes := #[22, 22, 22] }, none, 0⟩,
  ⟨(some 37), .move (.tmp 44), none, 0⟩,
  ⟨(some 45), .extract (.tmp 37) 0, none, 0⟩,
  ⟨(some 46), .extract (.tmp 37) 1, none, 0⟩,
  ⟨(some 11), .assign (.tmp 45), none, 0⟩,
  ⟨(some 12), .assign (.tmp 46), none, 0⟩]
def L79r13 : List AOp := [
  ⟨(some 47), .move (.tmp 10), none, 0⟩,
  ⟨(some 48), .move (.tmp 12), none, 0⟩,
  ⟨(some 49), .binOp .add 22 (.tmp 47) (.tmp 48) 22, none, 0⟩,
  ⟨(some 10), .assign (.tmp 49), none, 0⟩]
def L79r14 : List AOp := [
  ⟨(some 51), .move (.tmp 11), none, 0⟩,
  ⟨(some 52), .move (.tmp 8), none, 0⟩,
  ⟨(some 53), .call { callee := .value (.func 92), args := #[.tmp 51, .tmp 52, .const (.int .u64 0)], argTypes := #[22, 22, 22] }, none, 0⟩,
  ⟨(some 50), .move (.tmp 53), none, 0⟩,
  ⟨(some 54), .extract (.tmp 50) 0, none, 0⟩,
  ⟨(some 55), .extract (.tmp 50) 1, none, 0⟩,
  ⟨(some 11), .assign (.tmp 54), none, 0⟩,
  ⟨(some 12), .assign (.tmp 55), none, 0⟩]
def L79r15 : List AOp := [
  ⟨(some 56), .move (.tmp 6), none, 0⟩,
  ⟨(some 57), .move (.tmp 9), none, 0⟩,
  ⟨(some 58), .binOp .add 3 (.tmp 56) (.tmp 57) 3, none, 0⟩,
  ⟨(some 59), .move (.tmp 11), none, 0⟩,
  ⟨(some 60), .move (.tmp 10), none, 0⟩,
  ⟨(some 61), .move (.tmp 12), none, 0⟩,
  ⟨(some 62), .binOp .add 22 (.tmp 60) (.tmp 61) 22, none, 0⟩,
  ⟨(some 63), .indexAddr 93 (.tmp 2) (.tmp 58), none, 0⟩,
  ⟨none, .store 22 (.tmp 63) (.tmp 59), none, 0⟩,
  ⟨(some 8), .assign (.tmp 62), none, 0⟩]
def L79r16 : List AOp := [
  ⟨(some 64), .binOp .add 3 (.tmp 25) (.const (.int .i64 1)) 3, none, 0⟩,
  ⟨(some 25), .move (.tmp 64), none, 0⟩]
def L79r17 : List AOp := [
  ⟨(some 13), .assign (.const (.int .u64 0)), none, 0⟩]
def L79r18 : List AOp := [
  ⟨(some 65), .move (.tmp 6), none, 0⟩,
  ⟨(some 66), .binOp .add 3 (.tmp 65) (.const (.int .i64 6)) 3, none, 0⟩,
  ⟨(some 14), .assign (.tmp 66), none, 0⟩]
def L79r19 : List AOp := [
  ⟨(some 67), .move (.tmp 14), none, 0⟩,
  ⟨(some 68), .binOp .lss 3 (.tmp 67) (.const (.int .i64 12)) 3, none, 0⟩]
def L79r21 : List AOp := [
  ⟨(some 72), .move (.tmp 14), none, 0⟩,
  ⟨(some 73), .move (.tmp 14), none, 0⟩,
  ⟨(some 74), .indexAddr 93 (.tmp 2) (.tmp 73), none, 0⟩,
  ⟨(some 75), .load 22 (.tmp 74), none, 0⟩,
  ⟨(some 76), .move (.tmp 8), none, 0⟩,
  ⟨(some 77), .call { callee := .value (.func 92), args := #[.tmp 75, .tmp 76, .const (.int .u64 0)], argTypes := #[22, 22, 22] }, none, 0⟩,
  ⟨(some 71), .move (.tmp 77), none, 0⟩,
  ⟨(some 78), .extract (.tmp 71) 0, none, 0⟩,
  ⟨(some 79), .extract (.tmp 71) 1, none, 0⟩,
  ⟨(some 80), .indexAddr 93 (.tmp 2) (.tmp 72), none, 0⟩,
  ⟨none, .store 22 (.tmp 80) (.tmp 78), none, 0⟩,
  ⟨(some 13), .assign (.tmp 79), none, 0⟩]
def L79r22 : List AOp := [
  ⟨(some 81), .move (.tmp 13), none, 0⟩,
  ⟨(some 8), .assign (.tmp 81), none, 0⟩]
def L79r20 : List AOp := [
  ⟨(some 69), .move (.tmp 14), none, 0⟩,
  ⟨(some 70), .binOp .add 3 (.tmp 69) (.const (.int .i64 1)) 3, none, 0⟩,
  ⟨(some 14), .assign (.tmp 70), none, 0⟩]
def L79r23 : List AOp := [
  ⟨(some 82), .move (.tmp 5), none, 0⟩,
  ⟨(some 83), .move (.tmp 8), none, 0⟩,
  ⟨(some 84), .binOp .add 22 (.tmp 82) (.tmp 83) 22, none, 0⟩,
  ⟨(some 5), .assign (.tmp 84), none, 0⟩]
def L79r24 : List AOp := [
  ⟨(some 85), .binOp .add 3 (.tmp 16) (.const (.int .i64 1)) 3, none, 0⟩,
  ⟨(some 16), .move (.tmp 85), none, 0⟩]
def L79r25 : List AOp := [
  ⟨(some 86), .slice 93 (.tmp 2) (some (.const (.int .i64 6))) none none, none, 0⟩,
  ⟨(some 87), .sliceToArrayPointer 24 (.tmp 86), none, 0⟩,
  ⟨(some 88), .load 24 (.tmp 87), none, 0⟩,
  ⟨(some 15), .alloc 24, none, 0⟩,
  ⟨none, .store 24 (.tmp 15) (.tmp 88), none, 0⟩]
def L79r26 : List AOp := [
  ⟨(some 89), .load 24 (.tmp 15), none, 0⟩,
  ⟨(some 90), .move (.tmp 5), none, 0⟩,
  ⟨(some 91), .fieldAddr 82 (.tmp 3) 0, none, 0⟩,
  ⟨(some 92), .load 24 (.tmp 91), none, 0⟩,
  ⟨(some 93), .call { callee := .value (.func 84), args := #[.tmp 89, .tmp 90, .tmp 92], argTypes := #[24, 22, 24] }, none, 0⟩,
  ⟨none, .store 24 (.tmp 15) (.tmp 93), none, 0⟩]
def L79r27 : List AOp := [
  ⟨(some 94), .load 24 (.tmp 15), none, 0⟩,
  ⟨(some 95), .fieldAddr 82 (.tmp 3) 0, none, 0⟩,
  ⟨(some 96), .load 24 (.tmp 95), none, 0⟩,
  ⟨(some 97), .call { callee := .value (.func 84), args := #[.tmp 94, .const (.int .u64 0), .tmp 96], argTypes := #[24, 22, 24] }, none, 0⟩,
  ⟨none, .store 24 (.tmp 4) (.tmp 97), none, 0⟩]
def L79 : LC := (.seq (.region L79r0) (.seq (.region L79r1) (.seq (.seq (.region L79r2) (.block 0 (.loop (.seq (.region L79r3) (.seq (.cond (.tmp 17) .skip (.exit 0)) (.seq (.block 1 (.seq (.region L79r4) (.seq (.regionD L79r5) (.seq (.region L79r6) (.seq (.seq (.region L79r7) (.block 2 (.loop (.seq (.region L79r8) (.seq (.cond (.tmp 26) .skip (.exit 2)) (.seq (.block 3 (.seq (.region L79r9) (.seq (.region L79r10) (.seq (.region L79r11) (.seq (.region L79r12) (.seq (.region L79r13) (.seq (.region L79r14) (.region L79r15)))))))) (.region L79r16))))))) (.seq (.region L79r17) (.seq (.seq (.region L79r18) (.block 4 (.loop (.seq (.seq (.region L79r19) (.cond (.tmp 68) .skip (.exit 4))) (.seq (.block 5 (.seq (.region L79r21) (.region L79r22))) (.region L79r20)))))) (.region L79r23)))))))) (.region L79r24))))))) (.seq (.region L79r25) (.seq (.region L79r26) (.seq (.region L79r27) .ret))))))
theorem nt79 : Tryd.f79.ntmps = 98 := by kernel_rfl
theorem rs79 : Tryd.f79.results.toList = [.cell 4 24] := by kernel_rfl
theorem lite79 : Tryd.f79.body.map (lite okDraw) = some L79 := by kernel_rfl
def L80r0 : List AOp := [
  ⟨(some 2), .box 24 (.tmp 0), none, 0⟩,
  ⟨(some 3), .box 24 (.tmp 1), none, 0⟩,
  ⟨(some 4), .alloc 93, none, 0⟩]
def L80r1 : List AOp := [
  ⟨(some 5), .alloc 93, none, 0⟩]
def L80r2 : List AOp := [
  ⟨(some 12), .move (.const (.int .i64 0)), none, 0⟩]
def L80r3 : List AOp := [
  ⟨(some 13), .binOp .lss 3 (.tmp 12) (.const (.int .i64 6)) 3, none, 0⟩]
def L80r4 : List AOp := [
  ⟨(some 14), .move (.tmp 12), none, 0⟩,
  ⟨(some 6), .assign (.tmp 14), none, 0⟩]
def L80r5 : List AOp := [
  ⟨(some 7), .assign (.const (.int .u64 0)), none, 0⟩]
def L80r6 : List AOp := [
  ⟨(some 15), .move (.const (.int .i64 0)), none, 0⟩]
def L80r7 : List AOp := [
  ⟨(some 16), .binOp .lss 3 (.tmp 15) (.const (.int .i64 6)) 3, none, 0⟩]
def L80r8 : List AOp := [
  ⟨(some 17), .move (.tmp 15), none, 0⟩,
  ⟨(some 8), .assign (.tmp 17), none, 0⟩]
def L80r9 : List AOp := [
  ⟨(some 19), .move (.tmp 6), none, 0⟩,
  ⟨(some 20), .indexAddr 24 (.tmp 2) (.tmp 19), none, 1⟩,
  ⟨(some 21), .load 22 (.tmp 20), none, 3⟩,
  ⟨(some 22), .move (.tmp 8), none, 0⟩,
  ⟨(some 23), .indexAddr 24 (.tmp 3) (.tmp 22), none, 8⟩,
  ⟨(some 24), .load 22 (.tmp 23), none, 24⟩,
  ⟨(some 25), .call { callee := .value (.func 91), args := #[.tmp 21, .tmp 24], argTypes := #[22, 22] }, none, 1267650600228229401496703205439⟩,
  ⟨(some 18), .move (.tmp 25), none, 1267650600228229401496703205503⟩,
  ⟨(some 26), .extract (.tmp 18) 0, none, 255⟩,
  ⟨(some 27), .extract (.tmp 18) 1, none, 255⟩,
  ⟨(some 9), .assign (.tmp 26), none, 511⟩,
  ⟨(some 10), .assign (.tmp 27), none, 1267650600228229401496703207423⟩]
def L80r10 : List AOp := [
  ⟨(some 11), .assign (.const (.int .u64 0)), none, 0⟩]
def L80r11 : List AOp := [
  ⟨(some 29), .move (.tmp 10), none, 0⟩,
  ⟨(some 30), .move (.tmp 6), none, 0⟩,
  ⟨(some 31), .move (.tmp 8), none, 0⟩,
  ⟨(some 32), .binOp .add 3 (.tmp 30) (.tmp 31) 3, none, 0⟩,
  ⟨(some 33), .indexAddr 93 (.tmp 5) (.tmp 32), none, 0⟩,
  ⟨(some 34), .load 22 (.tmp 33), none, 0⟩,
  ⟨(some 35), .call { callee := .value (.func 92), args := #[.tmp 29, .tmp 34, .const (.int .u64 0)], argTypes := #[22, 22, 22] }, none, 0⟩,
  ⟨(some 28), .move (.tmp 35), none, 0⟩,
  ⟨(some 36), .extract (.tmp 28) 0, none, 0⟩,
  ⟨(some 37), .extract (.tmp 28) 1, none, 0⟩,
  ⟨(some 10), .assign (.tmp 36), none, 0⟩,
  ⟨(some 11), .assign (.tmp 37), none, 0⟩]
def L80r12 : List AOp := [
  ⟨(some 38), .move (.tmp 9), none, 0⟩,
  ⟨(some 39), .move (.tmp 11), none, 0⟩,
  ⟨(some 40), .binOp .add 22 (.tmp 38) (.tmp 39) 22, none, 0⟩,
  ⟨(some 9), .assign (.tmp 40), none, 0⟩]
def L80r13 : List AOp := [
  ⟨(some 42), .move (.tmp 10), none, 0⟩,
  ⟨(some 43), .move (.tmp 7), none, 0⟩,
  ⟨(some 44), .call { callee := .value (.func 92), args := #[.tmp 42, .tmp 43, .const (.int .u64 0)], argTypes := #[22, 22, 22] }, none, 0⟩,
  ⟨(some 41), .move (.tmp 44), none, 0⟩,
  ⟨(some 45), .extract (.tmp 41) 0, none, 0⟩,
  ⟨(some 46), .extract (.tmp 41) 1, none, 0⟩,
  ⟨(some 10), .assign (.tmp 45), none, 0⟩,
  ⟨(some 11), .assign (.tmp 46), none, 0⟩]
def L80r14 : List AOp := [
  ⟨(some 47), .move (.tmp 6), none, 0⟩,
  ⟨(some 48), .move (.tmp 8), none, 0⟩,
  ⟨(some 49), .binOp .add 3 (.tmp 47) (.tmp 48) 3, none, 0⟩,
  ⟨(some 50), .move (.tmp 10), none, 0⟩,
  ⟨(some 51), .move (.tmp 9), none, 0⟩,
  ⟨(some 52), .move (.tmp 11), none, 0⟩,
  ⟨(some 53), .binOp .add 22 (.tmp 51) (.tmp 52) 22, none, 0⟩,
  ⟨(some 54), .indexAddr 93 (.tmp 5) (.tmp 49), none, 0⟩,
  ⟨none, .store 22 (.tmp 54) (.tmp 50), none, 0⟩,
  ⟨(some 7), .assign (.tmp 53), none, 0⟩]
def L80r15 : List AOp := [
  ⟨(some 55), .binOp .add 3 (.tmp 15) (.const (.int .i64 1)) 3, none, 0⟩,
  ⟨(some 15), .move (.tmp 55), none, 0⟩]
def L80r16 : List AOp := [
  ⟨(some 56), .move (.tmp 6), none, 0⟩,
  ⟨(some 57), .binOp .add 3 (.tmp 56) (.const (.int .i64 6)) 3, none, 0⟩,
  ⟨(some 58), .move (.tmp 7), none, 0⟩,
  ⟨(some 59), .indexAddr 93 (.tmp 5) (.tmp 57), none, 0⟩,
  ⟨none, .store 22 (.tmp 59) (.tmp 58), none, 0⟩]
def L80r17 : List AOp := [
  ⟨(some 60), .binOp .add 3 (.tmp 12) (.const (.int .i64 1)) 3, none, 0⟩,
  ⟨(some 12), .move (.tmp 60), none, 0⟩]
def L80r18 : List AOp := [
  ⟨(some 61), .load 93 (.tmp 5), none, 0⟩,
  ⟨none, .store 93 (.tmp 4) (.tmp 61), none, 0⟩]
def L80 : LC := (.seq (.region L80r0) (.seq (.region L80r1) (.seq (.seq (.region L80r2) (.block 0 (.loop (.seq (.region L80r3) (.seq (.cond (.tmp 13) .skip (.exit 0)) (.seq (.block 1 (.seq (.region L80r4) (.seq (.region L80r5) (.seq (.seq (.region L80r6) (.block 2 (.loop (.seq (.region L80r7) (.seq (.cond (.tmp 16) .skip (.exit 2)) (.seq (.block 3 (.seq (.region L80r8) (.seq (.regionD L80r9) (.seq (.region L80r10) (.seq (.region L80r11) (.seq (.region L80r12) (.seq (.region L80r13) (.region L80r14)))))))) (.region L80r15))))))) (.region L80r16))))) (.region L80r17))))))) (.seq (.region L80r18) .ret))))
theorem nt80 : Tryd.f80.ntmps = 62 := by kernel_rfl
theorem rs80 : Tryd.f80.results.toList = [.cell 4 93] := by kernel_rfl
theorem lite80 : Tryd.f80.body.map (lite okDraw) = some L80 := by kernel_rfl
def L81r0 : List AOp := [
  ⟨(some 3), .box 24 (.tmp 0), none, 0⟩,
  ⟨(some 4), .box 24 (.tmp 1), none, 0⟩,
  ⟨(some 5), .box 82 (.tmp 2), none, 0⟩,
  ⟨(some 6), .alloc 24, none, 0⟩]
def L81r1 : List AOp := [
  ⟨(some 7), .load 24 (.tmp 3), none, 0⟩,
  ⟨(some 8), .load 24 (.tmp 4), none, 0⟩,
  ⟨(some 9), .call { callee := .value (.func 80), args := #[.tmp 7, .tmp 8], argTypes := #[24, 24] }, none, 3⟩,
  ⟨(some 10), .load 82 (.tmp 5), none, 0⟩,
  ⟨(some 11), .call { callee := .value (.func 79), args := #[.tmp 9, .tmp 10], argTypes := #[93, 82] }, none, 1267650600228229401496703205391⟩,
  ⟨none, .store 24 (.tmp 6) (.tmp 11), none, 1267650600228229401496703205407⟩]
def L81 : LC := (.seq (.region L81r0) (.seq (.regionD L81r1) .ret))
theorem nt81 : Tryd.f81.ntmps = 12 := by kernel_rfl
theorem rs81 : Tryd.f81.results.toList = [.cell 6 24] := by kernel_rfl
theorem lite81 : Tryd.f81.body.map (lite okDraw) = some L81 := by kernel_rfl
def L82r0 : List AOp := [
  ⟨(some 2), .box 24 (.tmp 0), none, 0⟩,
  ⟨(some 3), .box 24 (.tmp 1), none, 0⟩,
  ⟨(some 4), .alloc 24, none, 0⟩,
  ⟨(some 5), .assign (.const (.int .u64 0)), none, 0⟩]
def L82r1 : List AOp := [
  ⟨(some 6), .alloc 24, none, 0⟩]
def L82r2 : List AOp := [
  ⟨(some 7), .assign (.const (.int .u64 0)), none, 0⟩]
def L82r3 : List AOp := [
  ⟨(some 9), .move (.const (.int .i64 0)), none, 0⟩]
def L82r4 : List AOp := [
  ⟨(some 10), .binOp .lss 3 (.tmp 9) (.const (.int .i64 6)) 3, none, 0⟩]
def L82r5 : List AOp := [
  ⟨(some 11), .move (.tmp 9), none, 0⟩,
  ⟨(some 8), .assign (.tmp 11), none, 0⟩]
def L82r6 : List AOp := [
  ⟨(some 13), .move (.tmp 8), none, 0⟩,
  ⟨(some 14), .move (.tmp 8), none, 0⟩,
  ⟨(some 15), .indexAddr 24 (.tmp 2) (.tmp 14), none, 2⟩,
  ⟨(some 16), .load 22 (.tmp 15), none, 6⟩,
  ⟨(some 17), .move (.tmp 8), none, 0⟩,
  ⟨(some 18), .indexAddr 24 (.tmp 3) (.tmp 17), none, 16⟩,
  ⟨(some 19), .load 22 (.tmp 18), none, 48⟩,
  ⟨(some 20), .move (.tmp 7), none, 0⟩,
  ⟨(some 21), .call { callee := .value (.func 92), args := #[.tmp 16, .tmp 19, .tmp 20], argTypes := #[22, 22, 22] }, none, 254⟩,
  ⟨(some 12), .move (.tmp 21), none, 510⟩,
  ⟨(some 22), .extract (.tmp 12) 0, none, 1022⟩,
  ⟨(some 23), .extract (.tmp 12) 1, none, 1022⟩,
  ⟨(some 24), .indexAddr 24 (.tmp 6) (.tmp 13), none, 2047⟩,
  ⟨none, .store 22 (.tmp 24) (.tmp 22), none, 6143⟩,
  ⟨(some 7), .assign (.tmp 23), none, 1267650600228229401496703221759⟩]
def L82r7 : List AOp := [
  ⟨(some 25), .binOp .add 3 (.tmp 9) (.const (.int .i64 1)) 3, none, 0⟩,
  ⟨(some 9), .move (.tmp 25), none, 0⟩]
def L82r8 : List AOp := [
  ⟨(some 26), .load 24 (.tmp 6), none, 0⟩,
  ⟨(some 27), .move (.tmp 7), none, 0⟩,
  ⟨none, .store 24 (.tmp 4) (.tmp 26), none, 0⟩,
  ⟨(some 5), .assign (.tmp 27), none, 0⟩]
def L82 : LC := (.seq (.region L82r0) (.seq (.region L82r1) (.seq (.region L82r2) (.seq (.seq (.region L82r3) (.block 0 (.loop (.seq (.region L82r4) (.seq (.cond (.tmp 10) .skip (.exit 0)) (.seq (.block 1 (.seq (.region L82r5) (.regionD L82r6))) (.region L82r7))))))) (.seq (.region L82r8) .ret)))))
theorem nt82 : Tryd.f82.ntmps = 28 := by kernel_rfl
theorem rs82 : Tryd.f82.results.toList = [.cell 4 24, .tmp 5] := by kernel_rfl
theorem lite82 : Tryd.f82.body.map (lite okDraw) = some L82 := by kernel_rfl
def L83r0 : List AOp := [
  ⟨(some 2), .box 24 (.tmp 0), none, 0⟩,
  ⟨(some 3), .box 82 (.tmp 1), none, 0⟩,
  ⟨(some 4), .alloc 24, none, 0⟩]
def L83r1 : List AOp := [
  ⟨(some 5), .load 24 (.tmp 2), none, 0⟩,
  ⟨(some 6), .fieldAddr 82 (.tmp 3) 0, none, 0⟩,
  ⟨(some 7), .load 24 (.tmp 6), none, 0⟩,
  ⟨(some 8), .call { callee := .value (.func 84), args := #[.tmp 5, .const (.int .u64 0), .tmp 7], argTypes := #[24, 22, 24] }, none, 0⟩,
  ⟨none, .store 24 (.tmp 4) (.tmp 8), none, 0⟩]
def L83 : LC := (.seq (.region L83r0) (.seq (.region L83r1) .ret))
theorem nt83 : Tryd.f83.ntmps = 9 := by kernel_rfl
theorem rs83 : Tryd.f83.results.toList = [.cell 4 24] := by kernel_rfl
theorem lite83 : Tryd.f83.body.map (lite okDraw) = some L83 := by kernel_rfl
def L84r0 : List AOp := [
  ⟨(some 3), .box 24 (.tmp 0), none, 0⟩,
  ⟨(some 5), .box 24 (.tmp 2), none, 0⟩,
  ⟨(some 6), .alloc 24, none, 0⟩]
def L84r1 : List AOp := [
  ⟨(some 10), .load 24 (.tmp 3), none, 0⟩,
  ⟨(some 11), .load 24 (.tmp 5), none, 0⟩,
  ⟨(some 12), .call { callee := .value (.func 78), args := #[.tmp 10, .tmp 11], argTypes := #[24, 24] }, none, 0⟩,
  ⟨(some 9), .move (.tmp 12), none, 0⟩,
  ⟨(some 13), .extract (.tmp 9) 0, none, 0⟩,
  ⟨(some 14), .extract (.tmp 9) 1, none, 0⟩,
  ⟨(some 7), .alloc 24, none, 0⟩,
  ⟨none, .store 24 (.tmp 7) (.tmp 13), none, 0⟩,
  ⟨(some 8), .assign (.tmp 14), none, 0⟩]
def L84r2 : List AOp := [
  ⟨(some 15), .move (.tmp 1), none, 0⟩,
  ⟨(some 16), .move (.tmp 8), none, 0⟩,
  ⟨(some 17), .binOp .xor 22 (.const (.int .u64 1)) (.tmp 16) 22, none, 0⟩,
  ⟨(some 18), .binOp .or 22 (.tmp 15) (.tmp 17) 22, none, 0⟩,
  ⟨(some 19), .load 24 (.tmp 3), none, 0⟩,
  ⟨(some 20), .load 24 (.tmp 7), none, 0⟩,
  ⟨(some 21), .call { callee := .value (.func 87), args := #[.tmp 18, .tmp 19, .tmp 20], argTypes := #[22, 24, 24] }, none, 0⟩,
  ⟨none, .store 24 (.tmp 6) (.tmp 21), none, 0⟩]
def L84 : LC := (.seq (.region L84r0) (.seq (.region L84r1) (.seq (.region L84r2) .ret)))
theorem nt84 : Tryd.f84.ntmps = 22 := by kernel_rfl
theorem rs84 : Tryd.f84.results.toList = [.cell 6 24] := by kernel_rfl
theorem lite84 : Tryd.f84.body.map (lite okDraw) = some L84 := by kernel_rfl
def L85r0 : List AOp := [
  ⟨(some 3), .box 24 (.tmp 0), none, 0⟩,
  ⟨(some 4), .box 24 (.tmp 1), none, 0⟩,
  ⟨(some 5), .box 82 (.tmp 2), none, 0⟩,
  ⟨(some 6), .alloc 24, none, 0⟩]
def L85r1 : List AOp := [
  ⟨(some 10), .load 24 (.tmp 3), none, 0⟩,
  ⟨(some 11), .fieldAddr 82 (.tmp 5) 2, none, 0⟩,
  ⟨(some 12), .load 24 (.tmp 11), none, 0⟩,
  ⟨(some 13), .load 82 (.tmp 5), none, 0⟩,
  ⟨(some 14), .call { callee := .value (.func 81), args := #[.tmp 10, .tmp 12, .tmp 13], argTypes := #[24, 24, 82] }, none, 0⟩,
  ⟨(some 7), .alloc 24, none, 0⟩,
  ⟨none, .store 24 (.tmp 7) (.tmp 14), none, 0⟩]
def L85r2 : List AOp := [
  ⟨(some 15), .build 24 #[(0, .const (.int .u64 1))], none, 0⟩,
  ⟨(some 16), .fieldAddr 82 (.tmp 5) 2, none, 0⟩,
  ⟨(some 17), .load 24 (.tmp 16), none, 0⟩,
  ⟨(some 18), .load 82 (.tmp 5), none, 0⟩,
  ⟨(some 19), .call { callee := .value (.func 81), args := #[.tmp 15, .tmp 17, .tmp 18], argTypes := #[24, 24, 82] }, none, 0⟩,
  ⟨(some 8), .alloc 24, none, 0⟩,
  ⟨none, .store 24 (.tmp 8) (.tmp 19), none, 0⟩]
def L85r3 : List AOp := [
  ⟨(some 9), .assign (.const (.int .i64 383)), none, 0⟩]
def L85r4 : List AOp := [
  ⟨(some 20), .move (.tmp 9), none, 0⟩,
  ⟨(some 21), .binOp .geq 3 (.tmp 20) (.const (.int .i64 0)) 3, none, 0⟩]
def L85r6 : List AOp := [
  ⟨(some 24), .load 24 (.tmp 8), none, 0⟩,
  ⟨(some 25), .load 24 (.tmp 8), none, 0⟩,
  ⟨(some 26), .load 82 (.tmp 5), none, 0⟩,
  ⟨(some 27), .call { callee := .value (.func 81), args := #[.tmp 24, .tmp 25, .tmp 26], argTypes := #[24, 24, 82] }, none, 0⟩,
  ⟨none, .store 24 (.tmp 8) (.tmp 27), none, 0⟩]
def L85r7 : List AOp := [
  ⟨(some 28), .load 24 (.tmp 4), none, 0⟩,
  ⟨(some 29), .move (.tmp 9), none, 0⟩,
  ⟨(some 30), .call { callee := .value (.func 64), args := #[.tmp 28, .tmp 29], argTypes := #[24, 3] }, none, 3⟩,
  ⟨(some 31), .load 24 (.tmp 8), none, 0⟩,
  ⟨(some 32), .load 24 (.tmp 8), none, 0⟩,
  ⟨(some 33), .load 24 (.tmp 7), none, 0⟩,
  ⟨(some 34), .load 82 (.tmp 5), none, 0⟩,
  ⟨(some 35), .call { callee := .value (.func 81), args := #[.tmp 32, .tmp 33, .tmp 34], argTypes := #[24, 24, 82] }, none, 119⟩,
  ⟨(some 36), .call { callee := .value (.func 87), args := #[.tmp 30, .tmp 31, .tmp 35], argTypes := #[22, 24, 24] }, none, 1267650600228229401496703205631⟩,
  ⟨none, .store 24 (.tmp 8) (.tmp 36), none, 1267650600228229401496703205887⟩]
def L85r5 : List AOp := [
  ⟨(some 22), .move (.tmp 9), none, 0⟩,
  ⟨(some 23), .binOp .sub 3 (.tmp 22) (.const (.int .i64 1)) 3, none, 0⟩,
  ⟨(some 9), .assign (.tmp 23), none, 0⟩]
def L85r8 : List AOp := [
  ⟨(some 37), .load 24 (.tmp 8), none, 0⟩,
  ⟨(some 38), .build 24 #[(0, .const (.int .u64 1))], none, 0⟩,
  ⟨(some 39), .load 82 (.tmp 5), none, 0⟩,
  ⟨(some 40), .call { callee := .value (.func 81), args := #[.tmp 37, .tmp 38, .tmp 39], argTypes := #[24, 24, 82] }, none, 0⟩,
  ⟨none, .store 24 (.tmp 6) (.tmp 40), none, 0⟩]
def L85 : LC := (.seq (.region L85r0) (.seq (.region L85r1) (.seq (.region L85r2) (.seq (.seq (.region L85r3) (.block 0 (.loop (.seq (.seq (.region L85r4) (.cond (.tmp 21) .skip (.exit 0))) (.seq (.block 1 (.seq (.region L85r6) (.regionD L85r7))) (.region L85r5)))))) (.seq (.region L85r8) .ret)))))
theorem nt85 : Tryd.f85.ntmps = 41 := by kernel_rfl
theorem rs85 : Tryd.f85.results.toList = [.cell 6 24] := by kernel_rfl
theorem lite85 : Tryd.f85.body.map (lite okDraw) = some L85 := by kernel_rfl
def L87r0 : List AOp := [
  ⟨(some 4), .box 24 (.tmp 1), none, 0⟩,
  ⟨(some 5), .box 24 (.tmp 2), none, 0⟩,
  ⟨(some 6), .alloc 24, none, 0⟩]
def L87r1 : List AOp := [
  ⟨(some 10), .move (.tmp 0), none, 0⟩,
  ⟨(some 11), .binOp .and 22 (.tmp 10) (.const (.int .u64 1)) 22, none, 0⟩,
  ⟨(some 12), .unOp .neg 22 (.tmp 11), none, 0⟩,
  ⟨(some 7), .assign (.tmp 12), none, 0⟩]
def L87r2 : List AOp := [
  ⟨(some 8), .alloc 24, none, 0⟩]
def L87r3 : List AOp := [
  ⟨(some 13), .move (.const (.int .i64 0)), none, 0⟩]
def L87r4 : List AOp := [
  ⟨(some 14), .binOp .lss 3 (.tmp 13) (.const (.int .i64 6)) 3, none, 0⟩]
def L87r5 : List AOp := [
  ⟨(some 15), .move (.tmp 13), none, 0⟩,
  ⟨(some 9), .assign (.tmp 15), none, 0⟩]
def L87r6 : List AOp := [
  ⟨(some 16), .move (.tmp 9), none, 0⟩,
  ⟨(some 17), .move (.tmp 9), none, 0⟩,
  ⟨(some 18), .indexAddr 24 (.tmp 4) (.tmp 17), none, 2⟩,
  ⟨(some 19), .load 22 (.tmp 18), none, 6⟩,
  ⟨(some 20), .move (.tmp 7), none, 0⟩,
  ⟨(some 21), .binOp .andNot 22 (.tmp 19) (.tmp 20) 22, none, 30⟩,
  ⟨(some 22), .move (.tmp 9), none, 0⟩,
  ⟨(some 23), .indexAddr 24 (.tmp 5) (.tmp 22), none, 64⟩,
  ⟨(some 24), .load 22 (.tmp 23), none, 192⟩,
  ⟨(some 25), .move (.tmp 7), none, 0⟩,
  ⟨(some 26), .binOp .and 22 (.tmp 24) (.tmp 25) 22, none, 960⟩,
  ⟨(some 27), .binOp .or 22 (.tmp 21) (.tmp 26) 22, none, 2046⟩,
  ⟨(some 28), .indexAddr 24 (.tmp 8) (.tmp 16), none, 1267650600228229401496703209471⟩,
  ⟨none, .store 22 (.tmp 28) (.tmp 27), none, 1267650600228229401496703213567⟩]
def L87r7 : List AOp := [
  ⟨(some 29), .binOp .add 3 (.tmp 13) (.const (.int .i64 1)) 3, none, 0⟩,
  ⟨(some 13), .move (.tmp 29), none, 0⟩]
def L87r8 : List AOp := [
  ⟨(some 30), .load 24 (.tmp 8), none, 0⟩,
  ⟨none, .store 24 (.tmp 6) (.tmp 30), none, 0⟩]
def L87 : LC := (.seq (.region L87r0) (.seq (.region L87r1) (.seq (.region L87r2) (.seq (.seq (.region L87r3) (.block 0 (.loop (.seq (.region L87r4) (.seq (.cond (.tmp 14) .skip (.exit 0)) (.seq (.block 1 (.seq (.region L87r5) (.regionD L87r6))) (.region L87r7))))))) (.seq (.region L87r8) .ret)))))
theorem nt87 : Tryd.f87.ntmps = 31 := by kernel_rfl
theorem rs87 : Tryd.f87.results.toList = [.cell 6 24] := by kernel_rfl
theorem lite87 : Tryd.f87.body.map (lite okDraw) = some L87 := by kernel_rfl
def L91r0 : List AOp := [
  ⟨(some 4), .assign (.const (.int .u64 0)), none, 0⟩,
  ⟨(some 5), .assign (.const (.int .u64 0)), none, 0⟩]
def L91r1 : List AOp := [
  ⟨(some 14), .move (.tmp 0), none, 0⟩,
  ⟨(some 15), .binOp .and 22 (.tmp 14) (.const (.int .u64 4294967295)) 22, none, 0⟩,
  ⟨(some 6), .assign (.tmp 15), none, 0⟩]
def L91r2 : List AOp := [
  ⟨(some 16), .move (.tmp 0), none, 0⟩,
  ⟨(some 17), .binOp .shr 22 (.tmp 16) (.const (.int .u64 32)) 97, none, 0⟩,
  ⟨(some 7), .assign (.tmp 17), none, 0⟩]
def L91r3 : List AOp := [
  ⟨(some 18), .move (.tmp 1), none, 0⟩,
  ⟨(some 19), .binOp .and 22 (.tmp 18) (.const (.int .u64 4294967295)) 22, none, 0⟩,
  ⟨(some 8), .assign (.tmp 19), none, 0⟩]
def L91r4 : List AOp := [
  ⟨(some 20), .move (.tmp 1), none, 0⟩,
  ⟨(some 21), .binOp .shr 22 (.tmp 20) (.const (.int .u64 32)) 97, none, 0⟩,
  ⟨(some 9), .assign (.tmp 21), none, 0⟩]
def L91r5 : List AOp := [
  ⟨(some 22), .move (.tmp 6), none, 0⟩,
  ⟨(some 23), .move (.tmp 8), none, 0⟩,
  ⟨(some 24), .binOp .mul 22 (.tmp 22) (.tmp 23) 22, none, 0⟩,
  ⟨(some 10), .assign (.tmp 24), none, 0⟩]
def L91r6 : List AOp := [
  ⟨(some 25), .move (.tmp 7), none, 0⟩,
  ⟨(some 26), .move (.tmp 8), none, 0⟩,
  ⟨(some 27), .binOp .mul 22 (.tmp 25) (.tmp 26) 22, none, 0⟩,
  ⟨(some 28), .move (.tmp 10), none, 0⟩,
  ⟨(some 29), .binOp .shr 22 (.tmp 28) (.const (.int .u64 32)) 97, none, 0⟩,
  ⟨(some 30), .binOp .add 22 (.tmp 27) (.tmp 29) 22, none, 0⟩,
  ⟨(some 11), .assign (.tmp 30), none, 0⟩]
def L91r7 : List AOp := [
  ⟨(some 31), .move (.tmp 11), none, 0⟩,
  ⟨(some 32), .binOp .and 22 (.tmp 31) (.const (.int .u64 4294967295)) 22, none, 0⟩,
  ⟨(some 12), .assign (.tmp 32), none, 0⟩]
def L91r8 : List AOp := [
  ⟨(some 33), .move (.tmp 11), none, 0⟩,
  ⟨(some 34), .binOp .shr 22 (.tmp 33) (.const (.int .u64 32)) 97, none, 0⟩,
  ⟨(some 13), .assign (.tmp 34), none, 0⟩]
def L91r9 : List AOp := [
  ⟨(some 35), .move (.tmp 12), none, 0⟩,
  ⟨(some 36), .move (.tmp 6), none, 0⟩,
  ⟨(some 37), .move (.tmp 9), none, 0⟩,
  ⟨(some 38), .binOp .mul 22 (.tmp 36) (.tmp 37) 22, none, 0⟩,
  ⟨(some 39), .binOp .add 22 (.tmp 35) (.tmp 38) 22, none, 0⟩,
  ⟨(some 12), .assign (.tmp 39), none, 0⟩]
def L91r10 : List AOp := [
  ⟨(some 40), .move (.tmp 7), none, 0⟩,
  ⟨(some 41), .move (.tmp 9), none, 0⟩,
  ⟨(some 42), .binOp .mul 22 (.tmp 40) (.tmp 41) 22, none, 0⟩,
  ⟨(some 43), .move (.tmp 13), none, 0⟩,
  ⟨(some 44), .binOp .add 22 (.tmp 42) (.tmp 43) 22, none, 0⟩,
  ⟨(some 45), .move (.tmp 12), none, 0⟩,
  ⟨(some 46), .binOp .shr 22 (.tmp 45) (.const (.int .u64 32)) 97, none, 0⟩,
  ⟨(some 47), .binOp .add 22 (.tmp 44) (.tmp 46) 22, none, 0⟩,
  ⟨(some 4), .assign (.tmp 47), none, 0⟩]
def L91r11 : List AOp := [
  ⟨(some 48), .move (.tmp 0), none, 0⟩,
  ⟨(some 49), .move (.tmp 1), none, 0⟩,
  ⟨(some 50), .binOp .mul 22 (.tmp 48) (.tmp 49) 22, none, 0⟩,
  ⟨(some 5), .assign (.tmp 50), none, 0⟩]
def L91 : LC := (.seq (.region L91r0) (.seq (.region L91r1) (.seq (.region L91r2) (.seq (.region L91r3) (.seq (.region L91r4) (.seq (.region L91r5) (.seq (.region L91r6) (.seq (.region L91r7) (.seq (.region L91r8) (.seq (.region L91r9) (.seq (.region L91r10) (.seq (.region L91r11) .ret))))))))))))
theorem nt91 : Tryd.f91.ntmps = 51 := by kernel_rfl
theorem rs91 : Tryd.f91.results.toList = [.tmp 4, .tmp 5] := by kernel_rfl
theorem lite91 : Tryd.f91.body.map (lite okDraw) = some L91 := by kernel_rfl
end Eng


namespace Eng
open Go Go.Proofs Go.ChangeShapes Go.WideShapes Go.ChangeAt Go.RowKit
def U6 (a : List Int) : Prop := a.length = 6 ∧ ∀ x ∈ a, 0 ≤ x ∧ x < 18446744073709551616
def I64 (i : Int) : Prop := -9223372036854775808 ≤ i ∧ i < 9223372036854775808
def U64 (n : Int) : Prop := 0 ≤ n ∧ n < 18446744073709551616
theorem U6.at {a : List Int} (h : U6 a) (j : Nat) : U64 (a.getD j 0) := by
  rcases Nat.lt_or_ge j a.length with hj | hj
  · rw [List.getD_eq_getElem?_getD, List.getElem?_eq_getElem hj, Option.getD_some]
    exact h.2 _ (List.getElem_mem hj)
  · rw [List.getD_eq_getElem?_getD, List.getElem?_eq_none hj]
    exact ⟨by decide, by decide⟩
theorem own : ownKnob Tryd.prog.godebug = none := by kernel_rfl
theorem laidOut : laidOutB Tryd.prog = true := by kernel_rfl
theorem ct24 : Tryd.prog.cellTypes Tryd.prog.depth 24 = some (List.replicate 6 22) := by kernel_rfl
theorem co24 : Tryd.prog.cellsOf 24 = 6 := by kernel_rfl
theorem U6_of {xs : List Int} (hl : xs.length = 6) (h : ∀ x ∈ xs, IntKind.u64.min ≤ x ∧ x ≤ IntKind.u64.max) : U6 xs :=
  ⟨hl, fun x hx => by
    have := h x hx
    have h0 : IntKind.u64.min = 0 := by decide
    have h1 : IntKind.u64.max = 18446744073709551615 := by decide
    omega⟩
end Eng


namespace Eng
open Go Go.Proofs Go.RowKit
def subEntry : Array Value → Sem Value := fun args => do
  let (x, y, b) ← Extern.MathBitsCarry.three "Sub64" args
  pure (Extern.MathBitsCarry.pair ((x + Extern.MathBitsCarry.m64 - y - b) % Extern.MathBitsCarry.m64) (if x < y + b then 1 else 0))
theorem run_sub64 {P : Program} (x y c : Int) (hx : 0 ≤ x) (hx1 : x < 18446744073709551616) (hy : 0 ≤ y) (hy1 : y < 18446744073709551616) (hc0 : 0 ≤ c) (hc : c ≤ 1) (w : World) :
    (subEntry #[.int .u64 x, .int .u64 y, .int .u64 c]).run P w =
      .ok (.tuple #[.int .u64 ((x - y - c) % 18446744073709551616), .int .u64 (if x < y + c then 1 else 0)]) w := by
  have key : ∀ k : Nat, k ≤ 1 → (subEntry #[.int .u64 x, .int .u64 y, .int .u64 (k : Int)]).run P w =
      .ok (Extern.MathBitsCarry.pair ((x.toNat + Extern.MathBitsCarry.m64 - y.toNat - k) % Extern.MathBitsCarry.m64) (if x.toNat < y.toNat + k then 1 else 0)) w := by
    intro k hk
    have : k = 0 ∨ k = 1 := by omega
    rcases this with rfl | rfl <;> rfl
  obtain ⟨k, rfl⟩ := Int.eq_ofNat_of_zero_le hc0
  rw [key k (by omega)]
  obtain ⟨X, rfl⟩ := Int.eq_ofNat_of_zero_le hx
  obtain ⟨Y, rfl⟩ := Int.eq_ofNat_of_zero_le hy
  simp only [Extern.MathBitsCarry.pair, Extern.MathBitsCarry.m64, Int.toNat_natCast]
  have e1 : Int.ofNat ((X + 2 ^ 64 - Y - k) % 2 ^ 64) = ((X : Int) - Y - k) % 18446744073709551616 := by
    simp only [Int.ofNat_eq_natCast]; omega
  have e2 : Int.ofNat (if X < Y + k then 1 else 0) = (if (X : Int) < Y + k then 1 else 0) := by
    by_cases h : X < Y + k
    · rw [if_pos h, if_pos (by omega)]; rfl
    · rw [if_neg h, if_neg (by omega)]; rfl
  rw [e1, e2]

noncomputable def subX : List AV → Option AV
  | [.int .u64 a, .int .u64 b, .int .u64 c] => @ite _ (0 ≤ a ∧ a < 18446744073709551616 ∧ 0 ≤ b ∧ b < 18446744073709551616 ∧ 0 ≤ c ∧ c ≤ 1) (Classical.propDecidable _) (some (.tup [.int .u64 ((a - b - c) % 18446744073709551616), .int .u64 (if a < b + c then 1 else 0)])) none
  | _ => none
noncomputable def addX : List AV → Option AV
  | [.int .u64 a, .int .u64 b, .int .u64 c] => @ite _ (0 ≤ a ∧ 0 ≤ b ∧ 0 ≤ c ∧ c ≤ 1) (Classical.propDecidable _) (some (.tup [.int .u64 ((a + b + c) % 18446744073709551616), .int .u64 ((a + b + c) / 18446744073709551616)])) none
  | _ => none

theorem ext_run {P : Program} {f : FuncId} {fn : Func} {e : Array Value → Sem Value} (hf : P.funcs[f]? = some fn) (hm : (fn.name == "runtime.NumGoroutine") = false) (hb : fn.body.isNone = true) (hn : (Extern.findNext fn).isNone = true)
    (he : Extern.find fn = some e) {args : Array Value} {v : Value} {w : World} (h : (e args).run P w = .ok v w) : (callFunc f args).run P w = .ok (.value v) w := by
  have h1 : fn.name ≠ "runtime.NumGoroutine" := by simpa using hm
  have h2 : Extern.findNext fn = none := by simpa using hn
  have h3 : fn.body = none := by simpa using hb
  simp [callFunc, hf, h1, h3, h2, he, h]

theorem three_of {σ : Sg} {X : Nat → Prop} {w : World} {a b c : Int} {vals : List Value} (h : RvL σ X w false [.int .u64 a, .int .u64 b, .int .u64 c] vals) : vals = [.int .u64 a, .int .u64 b, .int .u64 c] := by
  simp only [RvL, Rv] at h
  obtain ⟨_, _, rfl, rfl, _, _, rfl, rfl, _, _, rfl, rfl, rfl⟩ := h
  rfl

theorem ext90 : ExtOk Tryd.prog 90 subX := by
  intro σ X w args vals v hv hx
  unfold subX at hx
  split at hx
  · split at hx
    · rename_i a b c h
      cases hx
      rw [three_of hv]
      refine ⟨_, ext_run Tryd.func90 (by kernel_rfl) (by kernel_rfl) (by kernel_rfl) (e := subEntry) (by kernel_rfl) (run_sub64 a b c h.1 h.2.1 h.2.2.1 h.2.2.2.1 h.2.2.2.2.1 h.2.2.2.2.2 w), ?_⟩
      simp [Rv, RvL]
    · cases hx
  · cases hx
theorem ext92 : ExtOk Tryd.prog 92 addX := by
  intro σ X w args vals v hv hx
  unfold addX at hx
  split at hx
  · split at hx
    · rename_i a b c h
      cases hx
      rw [three_of hv]
      refine ⟨_, ext_run Tryd.func92 (by kernel_rfl) (by kernel_rfl) (by kernel_rfl) (e := add64Entry) (by kernel_rfl) (run_add64 a b c h.1 h.2.1 h.2.2.1 h.2.2.2 w), ?_⟩
      simp [Rv, RvL]
    · cases hx
  · cases hx
theorem subX_eq (a b c : Int) (ha : U64 a) (hb : U64 b) (hc0 : 0 ≤ c) (hc : c ≤ 1) : subX [.int .u64 a, .int .u64 b, .int .u64 c] = some (.tup [.int .u64 ((a - b - c) % 18446744073709551616), .int .u64 (if a < b + c then 1 else 0)]) := by
  simp only [subX]; rw [if_pos ⟨ha.1, ha.2, hb.1, hb.2, hc0, hc⟩]
theorem addX_eq (a b c : Int) (ha : U64 a) (hb : U64 b) (hc0 : 0 ≤ c) (hc : c ≤ 1) : addX [.int .u64 a, .int .u64 b, .int .u64 c] = some (.tup [.int .u64 ((a + b + c) % 18446744073709551616), .int .u64 ((a + b + c) / 18446744073709551616)]) := by
  simp only [addX]; rw [if_pos ⟨ha.1, hb.1, hc0, hc⟩]
end Eng


namespace Eng
open Go Go.Proofs
set_option linter.unusedSimpArgs false

def one6 : List Int := [1, 0, 0, 0, 0, 0]
@[go_sem] theorem one6_len : one6.length = 6 := by decide
theorem U6_one : U6 one6 := ⟨rfl, by decide⟩
theorem U6_zero : U6 (List.replicate 6 0) := ⟨rfl, by decide⟩
end Eng


namespace Eng
open Go

/-- The digits of a number, the lowest first, none a nought at the end. -/
def dig (n : Nat) : List Int := if h : n = 0 then [] else ((n % 4294967296 : Nat) : Int) :: dig (n / 4294967296)
termination_by n
decreasing_by omega

theorem dig_zero : dig 0 = [] := by rw [dig]; simp
theorem dig_pos {n : Nat} (h : n ≠ 0) : dig n = ((n % 4294967296 : Nat) : Int) :: dig (n / 4294967296) := by
  rw [dig]; simp [h]

def D32 (l : List Int) : Prop := ∀ x ∈ l, 0 ≤ x ∧ x < 4294967296
def val : List Int → Nat
  | [] => 0
  | x :: l => x.toNat + 4294967296 * val l

theorem val_dig (n : Nat) : val (dig n) = n := by
  induction n using Nat.strongRecOn with
  | ind n ih =>
    by_cases h : n = 0
    · subst h; rw [dig_zero]; rfl
    · rw [dig_pos h, val, ih _ (by omega)]
      simp only [Int.toNat_natCast]
      omega
theorem dig_inj {a b : Nat} (h : dig a = dig b) : a = b := by rw [← val_dig a, ← val_dig b, h]
theorem dig_D32 (n : Nat) : D32 (dig n) := by
  induction n using Nat.strongRecOn with
  | ind n ih =>
    by_cases h : n = 0
    · subst h; rw [dig_zero]; intro x hx; simp at hx
    · rw [dig_pos h]
      intro x hx
      rcases List.mem_cons.1 hx with rfl | hx
      · omega
      · exact ih _ (by omega) x hx
theorem dig_getD (n i : Nat) : (dig n).getD i 0 = ((n / 4294967296 ^ i % 4294967296 : Nat) : Int) := by
  induction i generalizing n with
  | zero =>
    by_cases h : n = 0
    · subst h; rw [dig_zero]; rfl
    · rw [dig_pos h]; simp
  | succ i ih =>
    by_cases h : n = 0
    · subst h; rw [dig_zero]; simp
    · rw [dig_pos h, List.getD_cons_succ, ih, Nat.div_div_eq_div_mul, Nat.pow_succ, Nat.mul_comm]
theorem dig_len_le (n k : Nat) : (dig n).length ≤ k ↔ n < 4294967296 ^ k := by
  induction k generalizing n with
  | zero =>
    by_cases h : n = 0
    · subst h; rw [dig_zero]; simp
    · rw [dig_pos h]; simp; omega
  | succ k ih =>
    by_cases h : n = 0
    · subst h; rw [dig_zero]; simp; exact Nat.pow_pos (by decide)
    · rw [dig_pos h, List.length_cons, Nat.succ_le_succ_iff, ih, Nat.pow_succ, Nat.div_lt_iff_lt_mul (by decide)]
/-- A list of digits whose last one is no nought is that of its number. -/
theorem dig_val : ∀ (l : List Int), D32 l → (l = [] ∨ l.getD (l.length - 1) 0 ≠ 0) → dig (val l) = l
  | [], _, _ => by rw [val, dig_zero]
  | x :: l, hd, hl => by
    have hx := hd x (by simp)
    have hd' : D32 l := fun y hy => hd y (by simp [hy])
    rcases hl with h | h
    · cases h
    · by_cases hl0 : l = []
      · subst hl0
        simp at h
        have : val [x] = x.toNat := by simp [val]
        rw [this, dig_pos (by omega), Nat.mod_eq_of_lt (by omega), Nat.div_eq_of_lt (by omega), dig_zero]
        congr 1
        omega
      · have hlen : 0 < l.length := List.length_pos_iff.2 hl0
        have ih := dig_val l hd' (.inr (by
          rw [show (x :: l).length - 1 = (l.length - 1) + 1 by simp; omega, List.getD_cons_succ] at h
          exact h))
        have hne : val l ≠ 0 := by
          intro h0
          rw [h0, dig_zero] at ih
          exact hl0 ih.symm
        have e : val (x :: l) = x.toNat + 4294967296 * val l := rfl
        rw [e, dig_pos (by omega), show (x.toNat + 4294967296 * val l) % 4294967296 = x.toNat by omega, show (x.toNat + 4294967296 * val l) / 4294967296 = val l by omega, ih]
        congr 1
        omega
/- Sums and differences, digit by digit. -/
theorem add_dig (B x y i : Nat) (hB : 0 < B) : (x + y) / B ^ i % B = (x / B ^ i % B + y / B ^ i % B + (x % B ^ i + y % B ^ i) / B ^ i) % B := by
  have hp : 0 < B ^ i := Nat.pow_pos hB
  have h : (x + y) / B ^ i = x / B ^ i + y / B ^ i + (x % B ^ i + y % B ^ i) / B ^ i := by
    have e : x + y = (x % B ^ i + y % B ^ i) + B ^ i * (x / B ^ i + y / B ^ i) := by
      have h1 := Nat.mod_add_div x (B ^ i)
      have h2 := Nat.mod_add_div y (B ^ i)
      rw [Nat.mul_add]; omega
    rw [e, Nat.add_mul_div_left _ _ hp]
    omega
  rw [h]
  rw [Nat.add_mod (x / B ^ i + y / B ^ i), Nat.add_mod (x / B ^ i) (y / B ^ i)]
  rw [Nat.add_mod (x / B ^ i % B + y / B ^ i % B)]
theorem add_car (B x y i : Nat) (hB : 0 < B) : (x % B ^ (i + 1) + y % B ^ (i + 1)) / B ^ (i + 1) = (x / B ^ i % B + y / B ^ i % B + (x % B ^ i + y % B ^ i) / B ^ i) / B := by
  have hp : 0 < B ^ i := Nat.pow_pos hB
  rw [Nat.mod_pow_succ, Nat.mod_pow_succ, Nat.pow_succ, ← Nat.div_div_eq_div_mul]
  congr 1
  rw [show x % B ^ i + B ^ i * (x / B ^ i % B) + (y % B ^ i + B ^ i * (y / B ^ i % B)) = (x % B ^ i + y % B ^ i) + B ^ i * (x / B ^ i % B + y / B ^ i % B) by rw [Nat.mul_add]; omega]
  rw [Nat.add_mul_div_left _ _ hp]
  omega
def borrow (B x y i : Nat) : Nat := if x % B ^ i < y % B ^ i then 1 else 0
theorem bor_succ (B x y i : Nat) (hB : 0 < B) : borrow B x y (i + 1) = if x / B ^ i % B < y / B ^ i % B + borrow B x y i then 1 else 0 := by
  have hp : 0 < B ^ i := Nat.pow_pos hB
  unfold borrow
  rw [Nat.mod_pow_succ, Nat.mod_pow_succ]
  have hx := Nat.mod_lt x hp
  have hy := Nat.mod_lt y hp
  generalize x / B ^ i % B = dx
  generalize y / B ^ i % B = dy
  generalize x % B ^ i = rx at *
  generalize y % B ^ i = ry at *
  generalize B ^ i = M at *
  have key : rx + M * dx < ry + M * dy ↔ dx < dy + (if rx < ry then 1 else 0) := by
    constructor
    · intro h
      split
      · rename_i hr
        have : M * dx < M * (dy + 1) := by rw [Nat.mul_add]; omega
        exact Nat.lt_of_mul_lt_mul_left this
      · rename_i hr
        have : M * dx < M * dy := by omega
        have := Nat.lt_of_mul_lt_mul_left this
        omega
    · intro h
      split at h
      · rename_i hr
        have : M * dx ≤ M * dy := Nat.mul_le_mul_left _ (by omega)
        omega
      · rename_i hr
        have : M * (dx + 1) ≤ M * dy := Nat.mul_le_mul_left _ (by omega)
        rw [Nat.mul_add] at this
        omega
  by_cases h : dx < dy + (if rx < ry then 1 else 0)
  · rw [if_pos h, if_pos (key.2 h)]
  · rw [if_neg h, if_neg (fun h' => h (key.1 h'))]
/-- The digits of a difference, as integers. -/
theorem sub_dig (B x y i : Nat) (hB : 0 < B) : (((x : Int) - y) / (B : Int) ^ i) % B = (((x / B ^ i % B : Nat) : Int) - ((y / B ^ i % B : Nat) : Int) - (borrow B x y i : Int)) % B := by
  have hp : 0 < B ^ i := Nat.pow_pos hB
  have e : ((x : Int) - y) / (B : Int) ^ i = ((x / B ^ i : Nat) : Int) - ((y / B ^ i : Nat) : Int) - (borrow B x y i : Int) := by
    have h1 := Nat.mod_add_div x (B ^ i)
    have h2 := Nat.mod_add_div y (B ^ i)
    have hx := Nat.mod_lt x hp
    have hy := Nat.mod_lt y hp
    rw [← Int.natCast_pow]
    unfold borrow
    generalize x / B ^ i = qx at *
    generalize y / B ^ i = qy at *
    generalize x % B ^ i = rx at *
    generalize y % B ^ i = ry at *
    generalize B ^ i = M at *
    have e1 : (x : Int) - y = ((rx : Int) - ry) + (M : Int) * ((qx : Int) - qy) := by
      rw [← h1, ← h2]; push_cast; rw [Int.mul_sub]; omega
    rw [e1, Int.add_mul_ediv_left _ _ (by omega)]
    have hM : (0 : Int) < M := by omega
    split
    · rename_i hr
      have : ((rx : Int) - ry) / M = -1 := by
        rw [show (rx : Int) - ry = ((rx : Int) - ry + M) + M * (-1) by omega, Int.add_mul_ediv_left _ _ (by omega), Int.ediv_eq_zero_of_lt (by omega) (by omega)]
        rfl
      rw [this]; omega
    · rename_i hr
      rw [Int.ediv_eq_zero_of_lt (by omega) (by omega)]; omega
  rw [e]
  rw [Int.emod_eq_emod_iff_emod_sub_eq_zero]
  have a1 := Nat.mod_add_div (x / B ^ i) B
  have a2 := Nat.mod_add_div (y / B ^ i) B
  generalize x / B ^ i = qx at *
  generalize y / B ^ i = qy at *
  have : ((qx : Int) - qy - (borrow B x y i : Int)) - (((qx % B : Nat) : Int) - ((qy % B : Nat) : Int) - (borrow B x y i : Int)) = B * (((qx / B : Nat) : Int) - ((qy / B : Nat) : Int)) := by
    have b1 : (qx : Int) = ((qx % B : Nat) : Int) + (B : Int) * ((qx / B : Nat) : Int) := by exact_mod_cast a1.symm
    have b2 : (qy : Int) = ((qy % B : Nat) : Int) + (B : Int) * ((qy / B : Nat) : Int) := by exact_mod_cast a2.symm
    rw [Int.mul_sub]; omega
  rw [this]
  exact Int.mul_emod_right _ _
theorem dig_injEq (a b : Nat) : (dig a = dig b) = (a = b) := propext ⟨dig_inj, fun h => by rw [h]⟩
theorem wrap_succ' {n : Nat} (hn : n ≤ 4611686018427387904) : IntKind.i64.wrap ((n : Int) + 1) = ((n + 1 : Nat) : Int) := by
  rw [wrap_i64 (by omega) (by omega)]; omega
theorem D32.at {l : List Int} (h : D32 l) (i : Nat) : 0 ≤ l.getD i 0 ∧ l.getD i 0 < 4294967296 := by
  rcases Nat.lt_or_ge i l.length with hj | hj
  · rw [List.getD_eq_getElem?_getD, List.getElem?_eq_getElem hj, Option.getD_some]
    exact h _ (List.getElem_mem hj)
  · rw [List.getD_eq_getElem?_getD, List.getElem?_eq_none hj]
    exact ⟨by decide, by decide⟩
def D64 (l : List Int) : Prop := ∀ x ∈ l, 0 ≤ x ∧ x < 18446744073709551616
def v64 : List Int → Nat
  | [] => 0
  | x :: l => x.toNat + 18446744073709551616 * v64 l
theorem v64_lt : ∀ {l : List Int}, D64 l → v64 l < 18446744073709551616 ^ l.length
  | [], _ => by simp [v64]
  | x :: l, h => by
    have := v64_lt (l := l) fun y hy => h y (by simp [hy])
    have hx := h x (by simp)
    rw [v64, List.length_cons, Nat.pow_succ]
    generalize 18446744073709551616 ^ l.length = M at *
    omega
theorem v64_getD : ∀ {l : List Int}, D64 l → ∀ i, l.getD i 0 = ((v64 l / 18446744073709551616 ^ i % 18446744073709551616 : Nat) : Int)
  | [], _, i => by simp [v64]
  | x :: l, h, 0 => by
    have hx := h x (by simp)
    simp [v64]; omega
  | x :: l, h, i + 1 => by
    have hx := h x (by simp)
    rw [List.getD_cons_succ, v64_getD (fun y hy => h y (by simp [hy])) i, v64, Nat.pow_succ, Nat.mul_comm (18446744073709551616 ^ i), ← Nat.div_div_eq_div_mul]
    rw [show (x.toNat + 18446744073709551616 * v64 l) / 18446744073709551616 = v64 l by omega]
theorem pow_two32 (i : Nat) : 4294967296 ^ (2 * i) = 18446744073709551616 ^ i := by rw [Nat.pow_mul]
theorem pow_two33 (i : Nat) : 4294967296 ^ (2 * i + 1) = 18446744073709551616 ^ i * 4294967296 := by rw [Nat.pow_succ, pow_two32]
theorem ofInt_bv (v : BitVec 64) : BitVec.ofInt 64 (v.toNat : Int) = v := by
  apply BitVec.eq_of_toNat_eq
  rw [ofInt_toNat (by omega) (by have := v.isLt; omega)]; simp
theorem bv_ofInt {x : Int} (h0 : 0 ≤ x) (h1 : x < 18446744073709551616) : ((BitVec.ofInt 64 x).toNat : Int) = x := by
  rw [ofInt_toNat h0 (by omega)]; omega

/- Limbs of 64 bits. -/
def lim6 (x : Nat) : List Int := tab 6 (fun j => ((x / 18446744073709551616 ^ j % 18446744073709551616 : Nat) : Int))
theorem lim6_len (x : Nat) : (lim6 x).length = 6 := tab_len _ _
theorem lim6_getD (x : Nat) {j : Nat} (h : j < 6) : (lim6 x).getD j 0 = ((x / 18446744073709551616 ^ j % 18446744073709551616 : Nat) : Int) := tab_getD _ _ h
theorem lim6_D64 (x : Nat) : D64 (lim6 x) := by
  intro y hy
  simp only [lim6, tab, List.mem_map] at hy
  obtain ⟨j, _, rfl⟩ := hy
  omega
theorem lim6_v64 {a : List Int} (hl : a.length = 6) (h : D64 a) : lim6 (v64 a) = a := (eq_tab hl fun i _ => v64_getD h i).symm
theorem part_lt {B r q j k : Nat} (hB : 0 < B) (h : k < j) : (r + B ^ j * q) / B ^ k % B = r / B ^ k % B := by
  obtain ⟨m, rfl⟩ : ∃ m, j = k + 1 + m := ⟨j - (k + 1), by omega⟩
  have : B ^ (k + 1 + m) * q = B ^ k * (B * (B ^ m * q)) := by rw [Nat.pow_add, Nat.pow_succ, Nat.mul_assoc, Nat.mul_assoc]
  rw [this, Nat.add_mul_div_left _ _ (Nat.pow_pos hB), Nat.add_mul_mod_self_left]
theorem part_eq {B r q j : Nat} (hB : 0 < B) : (r + B ^ j * q) / B ^ j = r / B ^ j + q := Nat.add_mul_div_left _ _ (Nat.pow_pos hB)
theorem part_gt {B r k : Nat} (h : r < B ^ k) : r / B ^ k % B = 0 := by rw [Nat.div_eq_of_lt h]; simp
theorem lim6_mod (x : Nat) : lim6 (x % 4294967296 ^ 12) = lim6 x := tab_ext fun k hk => by
  have e : x = x % 4294967296 ^ 12 + 18446744073709551616 ^ 6 * (x / 4294967296 ^ 12) := by
    have := Nat.mod_add_div x (4294967296 ^ 12)
    rw [show 18446744073709551616 ^ 6 = 4294967296 ^ 12 from rfl]; omega
  congr 1
  conv => rhs; rw [e]
  rw [part_lt (by decide) hk]
theorem lim6_zero : lim6 0 = List.replicate 6 0 := by rw [rep_tab]; exact tab_ext fun k _ => by simp
/-- One digit more. -/
theorem lim6_lo (x j : Nat) : (lim6 (x % 4294967296 ^ (2 * j))).set j (((x / 4294967296 ^ (2 * j) % 4294967296 : Nat) : Int)) = lim6 (x % 4294967296 ^ (2 * j + 1)) := by
  refine tab_set _ _ _ _ _ fun k hk => ?_
  have hr : x % 4294967296 ^ (2 * j) < 18446744073709551616 ^ j := by rw [← pow_two32]; exact Nat.mod_lt _ (Nat.pow_pos (by decide))
  rw [Nat.mod_pow_succ, pow_two32]
  rw [pow_two32] at hr
  generalize x % 18446744073709551616 ^ j = r at *
  have hd : x / 18446744073709551616 ^ j % 4294967296 < 4294967296 := Nat.mod_lt _ (by decide)
  generalize x / 18446744073709551616 ^ j % 4294967296 = d at *
  split
  · rename_i e; subst e
    rw [part_eq (by decide), Nat.div_eq_of_lt hr, Nat.mod_eq_of_lt (by omega)]; omega
  · rename_i e
    rcases Nat.lt_or_ge k j with h | h
    · rw [part_lt (by decide) h]
    · have hk1 : 18446744073709551616 ^ (j + 1) ≤ 18446744073709551616 ^ k := Nat.pow_le_pow_right (by decide) (by omega)
      have e2 : 18446744073709551616 ^ (j + 1) = 18446744073709551616 ^ j * 18446744073709551616 := Nat.pow_succ ..
      have h3 : 18446744073709551616 ^ j * d ≤ 18446744073709551616 ^ j * 4294967295 := Nat.mul_le_mul_left _ (by omega)
      rw [part_gt (by omega), part_gt (by omega)]
theorem lim6_hi (x j : Nat) (hj : j < 6) : (lim6 (x % 4294967296 ^ (2 * j + 1))).set j ((lim6 (x % 4294967296 ^ (2 * j + 1))).getD j 0 + ((x / 4294967296 ^ (2 * j + 1) % 4294967296 : Nat) : Int) * 4294967296) = lim6 (x % 4294967296 ^ (2 * (j + 1))) := by
  refine tab_set _ _ _ _ _ fun k hk => ?_
  rw [lim6_getD _ hj]
  have hr : x % 4294967296 ^ (2 * j + 1) < 18446744073709551616 ^ j * 4294967296 := by rw [← pow_two33]; exact Nat.mod_lt _ (Nat.pow_pos (by decide))
  rw [show 2 * (j + 1) = (2 * j + 1) + 1 by omega, Nat.mod_pow_succ, pow_two33]
  rw [pow_two33] at hr
  generalize x % (18446744073709551616 ^ j * 4294967296) = r at *
  have hd : x / (18446744073709551616 ^ j * 4294967296) % 4294967296 < 4294967296 := Nat.mod_lt _ (by decide)
  generalize x / (18446744073709551616 ^ j * 4294967296) % 4294967296 = d at *
  rw [Nat.mul_assoc]
  have hrj : r / 18446744073709551616 ^ j < 4294967296 := by
    rw [Nat.div_lt_iff_lt_mul (Nat.pow_pos (by decide)), Nat.mul_comm]; exact hr
  split
  · rename_i e; subst e
    rw [part_eq (by decide), Nat.mod_eq_of_lt (by omega), Nat.mod_eq_of_lt (by omega)]
    omega
  · rename_i e
    rcases Nat.lt_or_ge k j with h | h
    · rw [part_lt (by decide) h]
    · have hk1 : 18446744073709551616 ^ (j + 1) ≤ 18446744073709551616 ^ k := Nat.pow_le_pow_right (by decide) (by omega)
      have e2 : 18446744073709551616 ^ (j + 1) = 18446744073709551616 ^ j * 18446744073709551616 := Nat.pow_succ ..
      have h3 : 18446744073709551616 ^ j * (4294967296 * d) ≤ 18446744073709551616 ^ j * (4294967296 * 4294967295) := Nat.mul_le_mul_left _ (by omega)
      rw [part_gt (by omega), part_gt (by omega)]
/-- How many bits. -/
def nb (x : Nat) : Nat := if x = 0 then 0 else x.log2 + 1
end Eng


namespace Eng
open Go Go.Proofs
set_option linter.unusedSimpArgs false
set_option linter.unusedVariables false
theorem m2 (i : Nat) : 2 * (i + 1) = 2 * i + 2 := rfl
end Eng


namespace Eng
open Go Go.Proofs
set_option linter.unusedSimpArgs false
def subC (a b : List Int) : Nat → Int
  | 0 => 0
  | i + 1 => if a.getD i 0 < b.getD i 0 + subC a b i then 1 else 0
def subD (a b : List Int) (i : Nat) : Int := (a.getD i 0 - b.getD i 0 - subC a b i) % 18446744073709551616
def addC (a b : List Int) : Nat → Int
  | 0 => 0
  | i + 1 => (a.getD i 0 + b.getD i 0 + addC a b i) / 18446744073709551616
def addD (a b : List Int) (i : Nat) : Int := (a.getD i 0 + b.getD i 0 + addC a b i) % 18446744073709551616
theorem subC_bit (a b : List Int) (i : Nat) : 0 ≤ subC a b i ∧ subC a b i ≤ 1 := by
  cases i with
  | zero => simp [subC]
  | succ i => rw [subC]; split <;> omega
theorem addC_bit {a b : List Int} (ha : U6 a) (hb : U6 b) (i : Nat) : 0 ≤ addC a b i ∧ addC a b i ≤ 1 := by
  induction i with
  | zero => simp [addC]
  | succ i ih =>
    have h1 := ha.at i
    have h2 := hb.at i
    unfold U64 at h1 h2
    rw [addC]; omega

noncomputable def S78 : List AV → Option Ret := nz (sumOf (fun p : List Int × List Int => match p with | (a, b) => (U6 a) ∧ (U6 b)) (fun p : List Int × List Int => match p with | (a, b) => [.agg (ints .u64 a), .agg (ints .u64 b)]) (fun p : List Int × List Int => match p with | (a, b) => ⟨.tup [.agg (ints .u64 (tab 6 (subD a b))), .int .u64 (subC a b 6)], none⟩))
theorem S78_eq (a : List Int) (b : List Int) (h0 : U6 a) (h1 : U6 b) : S78 [.agg (ints .u64 a), .agg (ints .u64 b)] = some ⟨.tup [.agg (ints .u64 (tab 6 (subD a b))), .int .u64 (subC a b 6)], none⟩ :=
  sumOf_eq (dom := (fun p : List Int × List Int => match p with | (a, b) => (U6 a) ∧ (U6 b))) (enc := (fun p : List Int × List Int => match p with | (a, b) => [.agg (ints .u64 a), .agg (ints .u64 b)])) (out := (fun p : List Int × List Int => match p with | (a, b) => ⟨.tup [.agg (ints .u64 (tab 6 (subD a b))), .int .u64 (subC a b 6)], none⟩)) (a, b) ⟨h0, h1⟩ (fun y _ e => by
    obtain ⟨y0, y1⟩ := y
    simp only [List.cons.injEq, AV.agg.injEq, ints_injEq, and_true] at e
    first | with_reducible rfl | simp only [e] | rfl)
theorem S78_inv {args : List AV} {r : Ret} (h : sumOf (fun p : List Int × List Int => match p with | (a, b) => (U6 a) ∧ (U6 b)) (fun p : List Int × List Int => match p with | (a, b) => [.agg (ints .u64 a), .agg (ints .u64 b)]) (fun p : List Int × List Int => match p with | (a, b) => ⟨.tup [.agg (ints .u64 (tab 6 (subD a b))), .int .u64 (subC a b 6)], none⟩) args = some r) : ∃ (a : List Int) (b : List Int), ((U6 a) ∧ (U6 b)) ∧ args = [.agg (ints .u64 a), .agg (ints .u64 b)] ∧ r = ⟨.tup [.agg (ints .u64 (tab 6 (subD a b))), .int .u64 (subC a b 6)], none⟩ := by
  obtain ⟨x, h1, h2, h3⟩ := sumOf_inv h
  obtain ⟨a, b⟩ := x
  exact ⟨a, b, h1, h2.symm, h3⟩


set_option maxRecDepth 100000 in
theorem snd78 : SndE Tryd.prog NoG 78 S78 := by
  refine snd_nz (snd_by [] [(90, subX)] Tryd.func78 (by kernel_rfl) lite78 nt78 rs78 trivial ⟨ext90, trivial⟩ (fun hT args r h => ?_))
  obtain ⟨a, b, ⟨hd0, hd1⟩, rfl, rfl⟩ := S78_inv h
  clear h
  have hM := hM0
  refine ⟨Nat.le_of_ble_eq_true rfl, fun F => ?_⟩
  unfold L78
  have hl := hd0.1
  have hl' := hd1.1
  refine Lwp.seq (Lwp.regI hT ?_)
  simp only [L78r0, go_sem, eq_self, Nat.reduceAdd, Nat.reduceLT, Nat.reduceEqDiff, reduceCtorEq, decide_true, ty24]
  refine Lwp.seq (Lwp.regI hT ?_)
  simp only [L78r1, go_sem, eq_self, Nat.reduceAdd, Nat.reduceLT, Nat.reduceEqDiff, reduceCtorEq, decide_true, ty24]
  refine Lwp.seq (Lwp.regI hT ?_)
  simp only [L78r2, go_sem, eq_self, Nat.reduceAdd, Nat.reduceLT, decide_true]
  refine Lwp.seq ?_
  refine Lwp.seq (Lwp.regI hT ?_)
  simp only [L78r3, go_sem, eq_self, Nat.reduceAdd, Nat.reduceLT, decide_true]
  refine Lwp.block (Lwp.range (fun i => { nt := 28, env := [(2, .own 0 0), (3, .own 1 0), (4, .own 2 0), (6, .own 4 0), (7, .int .u64 (subC a b i)), (9, .int .i64 i)], mem := [(0, ints .u64 a), (1, ints .u64 b), (2, ints .u64 (List.replicate 6 0)), (4, ints .u64 (upto 6 (subD a b) i))], next := 20 }) 6 ?_ (fun i hi => ?_) ?_)
  · refine weak_of rfl ?_ ?_ ?_
    · (simp only [go_sem, eq_self, Nat.reduceEqDiff, reduceCtorEq, subC]; try rfl)
    · (simp only [go_sem, eq_self, Nat.reduceEqDiff, reduceCtorEq, upto_zero]; try rfl)
    · (simp only [go_sem, eq_self, Nat.reduceEqDiff, reduceCtorEq, upto_zero]; try rfl)
  · have h1 : (i : Int) < 6 := by omega
    have h2 : (0 : Int) ≤ i := by omega
    have h3 : i ≤ 5 := by omega
    have h4 := wrap_succ hi (by decide)
    have h5 := upto_set 6 (subD a b) i _ rfl
    have h6 := subX_eq _ _ _ (hd0.at i) (hd1.at i) (subC_bit a b i).1 (subC_bit a b i).2
    refine Lwp.seq (Lwp.regI hT ?_)
    simp only [L78r4, go_sem, eq_self, Nat.reduceAdd, Nat.reduceLT, Nat.reduceEqDiff, decide_true, h1]
    refine Lwp.seq (Lwp.cond rfl (fun _ => Lwp.skip ?_) (fun h => by cases h))
    refine Lwp.seq (Lwp.block ?_)
    refine Lwp.seq (Lwp.regI hT ?_)
    simp only [L78r5, go_sem, eq_self, Nat.reduceAdd, Nat.reduceLT, Nat.reduceEqDiff, decide_true]
    refine Lwp.regD hT hM ?_
    simp only [L78r6, go_sem, eq_self, Nat.reduceAdd, Nat.reduceSub, Nat.reduceLT, Nat.reduceLeDiff, Nat.reduceEqDiff, Nat.reduceDiv, Nat.reduceMod, Nat.reducePow, reduceCtorEq, decide_true, decide_false, Bool.false_eq_true, ty22, ty24, h1, h2, h3, hl, hl', hi, upto_len, h6]
    refine Lwp.regI hT ?_
    simp only [L78r7, go_sem, eq_self, Nat.reduceAdd, Nat.reduceLT, Nat.reduceEqDiff, decide_true, h4]
    refine weak_of rfl ?_ ?_ ?_
    · (simp only [go_sem, eq_self, Nat.reduceEqDiff, subC]; try rfl)
    · (simp only [go_sem, eq_self, Nat.reduceEqDiff, reduceCtorEq, ← h5, subD]; try rfl)
    · (simp only [go_sem, eq_self, Nat.reduceEqDiff, reduceCtorEq, ← h5, subD]; try rfl)
  · refine Lwp.seq (Lwp.regI hT ?_)
    simp only [L78r4, go_sem, eq_self, Nat.reduceAdd, Nat.reduceLT, Nat.reduceEqDiff, Int.reduceLT, decide_true, decide_false]
    refine Lwp.seq (Lwp.cond rfl (fun h => by cases h) (fun _ => Lwp.exit ?_))
    simp only [go_sem, eq_self]
    refine Lwp.seq (Lwp.regI hT ?_)
    simp only [L78r8, go_sem, eq_self, Nat.reduceAdd, Nat.reduceLT, Nat.reduceLeDiff, Nat.reduceEqDiff, reduceCtorEq, decide_true, ty24, upto_len]
    refine Lwp.ret (post_val (v := .tup [.agg (ints .u64 (tab 6 (subD a b))), .int .u64 (subC a b 6)]) ?_ ?_)
    · simp only [go_sem, eq_self, Nat.reduceLT, Nat.reduceLeDiff, Nat.reduceEqDiff, reduceCtorEq, ty24, upto_full, tab_len]
    · simp only [go_sem, eq_self]

noncomputable def S82 : List AV → Option Ret := nz (sumOf (fun p : List Int × List Int => match p with | (a, b) => (U6 a) ∧ (U6 b)) (fun p : List Int × List Int => match p with | (a, b) => [.agg (ints .u64 a), .agg (ints .u64 b)]) (fun p : List Int × List Int => match p with | (a, b) => ⟨.tup [.agg (ints .u64 (tab 6 (addD a b))), .int .u64 (addC a b 6)], none⟩))
theorem S82_eq (a : List Int) (b : List Int) (h0 : U6 a) (h1 : U6 b) : S82 [.agg (ints .u64 a), .agg (ints .u64 b)] = some ⟨.tup [.agg (ints .u64 (tab 6 (addD a b))), .int .u64 (addC a b 6)], none⟩ :=
  sumOf_eq (dom := (fun p : List Int × List Int => match p with | (a, b) => (U6 a) ∧ (U6 b))) (enc := (fun p : List Int × List Int => match p with | (a, b) => [.agg (ints .u64 a), .agg (ints .u64 b)])) (out := (fun p : List Int × List Int => match p with | (a, b) => ⟨.tup [.agg (ints .u64 (tab 6 (addD a b))), .int .u64 (addC a b 6)], none⟩)) (a, b) ⟨h0, h1⟩ (fun y _ e => by
    obtain ⟨y0, y1⟩ := y
    simp only [List.cons.injEq, AV.agg.injEq, ints_injEq, and_true] at e
    first | with_reducible rfl | simp only [e] | rfl)
theorem S82_inv {args : List AV} {r : Ret} (h : sumOf (fun p : List Int × List Int => match p with | (a, b) => (U6 a) ∧ (U6 b)) (fun p : List Int × List Int => match p with | (a, b) => [.agg (ints .u64 a), .agg (ints .u64 b)]) (fun p : List Int × List Int => match p with | (a, b) => ⟨.tup [.agg (ints .u64 (tab 6 (addD a b))), .int .u64 (addC a b 6)], none⟩) args = some r) : ∃ (a : List Int) (b : List Int), ((U6 a) ∧ (U6 b)) ∧ args = [.agg (ints .u64 a), .agg (ints .u64 b)] ∧ r = ⟨.tup [.agg (ints .u64 (tab 6 (addD a b))), .int .u64 (addC a b 6)], none⟩ := by
  obtain ⟨x, h1, h2, h3⟩ := sumOf_inv h
  obtain ⟨a, b⟩ := x
  exact ⟨a, b, h1, h2.symm, h3⟩


set_option maxRecDepth 100000 in
theorem snd82 : SndE Tryd.prog NoG 82 S82 := by
  refine snd_nz (snd_by [] [(92, addX)] Tryd.func82 (by kernel_rfl) lite82 nt82 rs82 trivial ⟨ext92, trivial⟩ (fun hT args r h => ?_))
  obtain ⟨a, b, ⟨hd0, hd1⟩, rfl, rfl⟩ := S82_inv h
  clear h
  have hM := hM0
  refine ⟨Nat.le_of_ble_eq_true rfl, fun F => ?_⟩
  unfold L82
  have hl := hd0.1
  have hl' := hd1.1
  refine Lwp.seq (Lwp.regI hT ?_)
  simp only [L82r0, go_sem, eq_self, Nat.reduceAdd, Nat.reduceLT, Nat.reduceEqDiff, reduceCtorEq, decide_true, ty24]
  refine Lwp.seq (Lwp.regI hT ?_)
  simp only [L82r1, go_sem, eq_self, Nat.reduceAdd, Nat.reduceLT, Nat.reduceEqDiff, reduceCtorEq, decide_true, ty24]
  refine Lwp.seq (Lwp.regI hT ?_)
  simp only [L82r2, go_sem, eq_self, Nat.reduceAdd, Nat.reduceLT, decide_true]
  refine Lwp.seq ?_
  refine Lwp.seq (Lwp.regI hT ?_)
  simp only [L82r3, go_sem, eq_self, Nat.reduceAdd, Nat.reduceLT, decide_true]
  refine Lwp.block (Lwp.range (fun i => { nt := 28, env := [(2, .own 0 0), (3, .own 1 0), (4, .own 2 0), (6, .own 4 0), (7, .int .u64 (addC a b i)), (9, .int .i64 i)], mem := [(0, ints .u64 a), (1, ints .u64 b), (2, ints .u64 (List.replicate 6 0)), (4, ints .u64 (upto 6 (addD a b) i))], next := 20 }) 6 ?_ (fun i hi => ?_) ?_)
  · refine weak_of rfl ?_ ?_ ?_
    · (simp only [go_sem, eq_self, Nat.reduceEqDiff, reduceCtorEq, addC]; try rfl)
    · (simp only [go_sem, eq_self, Nat.reduceEqDiff, reduceCtorEq, upto_zero]; try rfl)
    · (simp only [go_sem, eq_self, Nat.reduceEqDiff, reduceCtorEq, upto_zero]; try rfl)
  · have h1 : (i : Int) < 6 := by omega
    have h2 : (0 : Int) ≤ i := by omega
    have h3 : i ≤ 5 := by omega
    have h4 := wrap_succ hi (by decide)
    have h5 := upto_set 6 (addD a b) i _ rfl
    have h6 := addX_eq _ _ _ (hd0.at i) (hd1.at i) (addC_bit hd0 hd1 i).1 (addC_bit hd0 hd1 i).2
    refine Lwp.seq (Lwp.regI hT ?_)
    simp only [L82r4, go_sem, eq_self, Nat.reduceAdd, Nat.reduceLT, Nat.reduceEqDiff, decide_true, h1]
    refine Lwp.seq (Lwp.cond rfl (fun _ => Lwp.skip ?_) (fun h => by cases h))
    refine Lwp.seq (Lwp.block ?_)
    refine Lwp.seq (Lwp.regI hT ?_)
    simp only [L82r5, go_sem, eq_self, Nat.reduceAdd, Nat.reduceLT, Nat.reduceEqDiff, decide_true]
    refine Lwp.regD hT hM ?_
    simp only [L82r6, go_sem, eq_self, Nat.reduceAdd, Nat.reduceSub, Nat.reduceLT, Nat.reduceLeDiff, Nat.reduceEqDiff, Nat.reduceDiv, Nat.reduceMod, Nat.reducePow, reduceCtorEq, decide_true, decide_false, Bool.false_eq_true, ty22, ty24, h1, h2, h3, hl, hl', hi, upto_len, h6]
    refine Lwp.regI hT ?_
    simp only [L82r7, go_sem, eq_self, Nat.reduceAdd, Nat.reduceLT, Nat.reduceEqDiff, decide_true, h4]
    refine weak_of rfl ?_ ?_ ?_
    · (simp only [go_sem, eq_self, Nat.reduceEqDiff, addC]; try rfl)
    · (simp only [go_sem, eq_self, Nat.reduceEqDiff, reduceCtorEq, ← h5, addD]; try rfl)
    · (simp only [go_sem, eq_self, Nat.reduceEqDiff, reduceCtorEq, ← h5, addD]; try rfl)
  · refine Lwp.seq (Lwp.regI hT ?_)
    simp only [L82r4, go_sem, eq_self, Nat.reduceAdd, Nat.reduceLT, Nat.reduceEqDiff, Int.reduceLT, decide_true, decide_false]
    refine Lwp.seq (Lwp.cond rfl (fun h => by cases h) (fun _ => Lwp.exit ?_))
    simp only [go_sem, eq_self]
    refine Lwp.seq (Lwp.regI hT ?_)
    simp only [L82r8, go_sem, eq_self, Nat.reduceAdd, Nat.reduceLT, Nat.reduceLeDiff, Nat.reduceEqDiff, reduceCtorEq, decide_true, ty24, upto_len]
    refine Lwp.ret (post_val (v := .tup [.agg (ints .u64 (tab 6 (addD a b))), .int .u64 (addC a b 6)]) ?_ ?_)
    · simp only [go_sem, eq_self, Nat.reduceLT, Nat.reduceLeDiff, Nat.reduceEqDiff, reduceCtorEq, ty24, upto_full, tab_len]
    · simp only [go_sem, eq_self]

noncomputable def S55 : List AV → Option Ret := nz (sumOf (fun p : List Int × List Int => match p with | (a, b) => (U6 a) ∧ (U6 b)) (fun p : List Int × List Int => match p with | (a, b) => [.agg (ints .u64 a), .agg (ints .u64 b)]) (fun p : List Int × List Int => match p with | (a, b) => ⟨.int .u64 (subC a b 6), none⟩))
theorem S55_eq (a : List Int) (b : List Int) (h0 : U6 a) (h1 : U6 b) : S55 [.agg (ints .u64 a), .agg (ints .u64 b)] = some ⟨.int .u64 (subC a b 6), none⟩ :=
  sumOf_eq (dom := (fun p : List Int × List Int => match p with | (a, b) => (U6 a) ∧ (U6 b))) (enc := (fun p : List Int × List Int => match p with | (a, b) => [.agg (ints .u64 a), .agg (ints .u64 b)])) (out := (fun p : List Int × List Int => match p with | (a, b) => ⟨.int .u64 (subC a b 6), none⟩)) (a, b) ⟨h0, h1⟩ (fun y _ e => by
    obtain ⟨y0, y1⟩ := y
    simp only [List.cons.injEq, AV.agg.injEq, ints_injEq, and_true] at e
    first | with_reducible rfl | simp only [e] | rfl)
theorem S55_inv {args : List AV} {r : Ret} (h : sumOf (fun p : List Int × List Int => match p with | (a, b) => (U6 a) ∧ (U6 b)) (fun p : List Int × List Int => match p with | (a, b) => [.agg (ints .u64 a), .agg (ints .u64 b)]) (fun p : List Int × List Int => match p with | (a, b) => ⟨.int .u64 (subC a b 6), none⟩) args = some r) : ∃ (a : List Int) (b : List Int), ((U6 a) ∧ (U6 b)) ∧ args = [.agg (ints .u64 a), .agg (ints .u64 b)] ∧ r = ⟨.int .u64 (subC a b 6), none⟩ := by
  obtain ⟨x, h1, h2, h3⟩ := sumOf_inv h
  obtain ⟨a, b⟩ := x
  exact ⟨a, b, h1, h2.symm, h3⟩


set_option maxRecDepth 100000 in
theorem snd55 : SndE Tryd.prog NoG 55 S55 := by
  refine snd_nz (snd_by [(78, S78)] [] Tryd.func55 (by kernel_rfl) lite55 nt55 rs55 ⟨snd78, trivial⟩ trivial (fun hT args r h => ?_))
  obtain ⟨a, b, ⟨hd0, hd1⟩, rfl, rfl⟩ := S55_inv h
  clear h
  have hM := hM0
  refine ⟨Nat.le_of_ble_eq_true rfl, fun F => ?_⟩
  unfold L55
  have hl := hd0.1
  have hl' := hd1.1
  refine Lwp.seq (Lwp.regI hT ?_)
  simp only [L55r0, go_sem, eq_self, Nat.reduceAdd, Nat.reduceLT, Nat.reduceEqDiff, reduceCtorEq, decide_true]
  refine Lwp.seq (Lwp.regI hT ?_)
  simp only [L55r1, go_sem, eq_self, Nat.reduceAdd, Nat.reduceLT, Nat.reduceLeDiff, Nat.reduceEqDiff, reduceCtorEq, decide_true, ty24, hl, hl', S78_eq _ _ hd0 hd1, tab_len]
  refine Lwp.seq (Lwp.regI hT ?_)
  simp only [L55r2, go_sem, eq_self, Nat.reduceAdd, Nat.reduceLT, Nat.reduceEqDiff, reduceCtorEq, decide_true]
  refine Lwp.ret (post_val (v := .int .u64 (subC a b 6)) ?_ ?_)
  · simp only [go_sem, eq_self, Nat.reduceEqDiff, reduceCtorEq]
  · simp only [go_sem, eq_self]
end Eng


namespace Eng
open Go Go.Proofs
set_option linter.unusedSimpArgs false
set_option linter.unusedVariables false
noncomputable def S32 : List AV → Option Ret := nz (sumOf (fun p : Nat => match p with | x => ((dig x).length ≤ 1000000)) (fun p : Nat => match p with | x => [.slc (dig (x)).length (ints .u64 (dig (x)))]) (fun p : Nat => match p with | x => ⟨.agg (ints .u64 (lim6 x)), none⟩))
theorem S32_eq (x : Nat) (h0 : (dig x).length ≤ 1000000) : S32 [.slc (dig (x)).length (ints .u64 (dig (x)))] = some ⟨.agg (ints .u64 (lim6 x)), none⟩ :=
  sumOf_eq (dom := (fun p : Nat => match p with | x => ((dig x).length ≤ 1000000))) (enc := (fun p : Nat => match p with | x => [.slc (dig (x)).length (ints .u64 (dig (x)))])) (out := (fun p : Nat => match p with | x => ⟨.agg (ints .u64 (lim6 x)), none⟩)) x h0 (fun y _ e => by
    simp only [List.cons.injEq, AV.slc.injEq, ints_injEq, dig_injEq,  and_true] at e
    first | with_reducible rfl | simp only [e] | rfl)
theorem S32_inv {args : List AV} {r : Ret} (h : sumOf (fun p : Nat => match p with | x => ((dig x).length ≤ 1000000)) (fun p : Nat => match p with | x => [.slc (dig (x)).length (ints .u64 (dig (x)))]) (fun p : Nat => match p with | x => ⟨.agg (ints .u64 (lim6 x)), none⟩) args = some r) : ∃ (x : Nat), (((dig x).length ≤ 1000000)) ∧ args = [.slc (dig (x)).length (ints .u64 (dig (x)))] ∧ r = ⟨.agg (ints .u64 (lim6 x)), none⟩ := by
  obtain ⟨x, h1, h2, h3⟩ := sumOf_inv h
  exact ⟨x, h1, h2.symm, h3⟩


def St25 (x i : Nat) : AState := { nt := 39, env := [(0, .slc (dig (x)).length (ints .u64 (dig (x)))), (2, .own 0 0), (3, .own 1 0), (4, .int .i64 i)], mem := [(0, ints .u64 (List.replicate 6 0)), (1, ints .u64 (lim6 (x % 4294967296 ^ i)))], next := 60 }

set_option maxRecDepth 100000 in
theorem snd32 : SndE Tryd.prog NoG 32 S32 := by
  refine snd_nz (snd_by [] [] Tryd.func32 (by kernel_rfl) lite32 nt32 rs32 trivial trivial (fun hT args r h => ?_))
  obtain ⟨x, hd0, rfl, rfl⟩ := S32_inv h
  clear h
  have hM := hM0
  refine ⟨Nat.le_of_ble_eq_true rfl, fun F => ?_⟩
  unfold L32
  refine Lwp.seq (Lwp.regI hT ?_)
  simp only [L32r0, go_sem, eq_self, Nat.reduceLT, decide_true, ty23]
  refine Lwp.seq (Lwp.regI hT ?_)
  simp only [L32r1, go_sem, eq_self, Nat.reduceAdd, Nat.reduceLT, reduceCtorEq, decide_true, ty23]
  refine Lwp.seq (Lwp.seq (Lwp.region hT ?_))
  simp only [L32r2, go_sem, eq_self, Nat.reduceAdd, Nat.reduceLT]
  refine Lwp.block (Lwp.whl (St25 x) (fun i => i ≤ 12) (fun i => 12 - i) 0 (by decide) ?_ (fun i hi => ?_))
  · refine weak_of rfl ?_ ?_ ?_
    · (simp only [go_sem, eq_self, Nat.reduceEqDiff, reduceCtorEq, St25, Nat.pow_zero, Nat.mod_one, lim6_zero]; try rfl)
    · (simp only [go_sem, eq_self, reduceCtorEq, St25, Nat.pow_zero, Nat.mod_one, lim6_zero]; try rfl)
    · (simp only [go_sem, eq_self, reduceCtorEq, St25, Nat.pow_zero, Nat.mod_one, lim6_zero]; try rfl)
  · have fin : lim6 (x % 4294967296 ^ i) = lim6 x → ∀ (env : List (Nat × AV)) (nx : Nat), find env 2 = some (.own 0 0) → find env 3 = some (.own 1 0) → Lwp okDraw (tb Tryd.prog [] []) F ((LC.region L32r8).seq LC.ret) (Post (tb Tryd.prog [] []) [.cell 2 23] ⟨.agg (ints .u64 (lim6 x)), none⟩) { nt := 39, env := env, mem := [(0, ints .u64 (List.replicate 6 0)), (1, ints .u64 (lim6 (x % 4294967296 ^ i)))], next := nx } := by
      intro h1 env nx e1 e2
      refine Lwp.seq (Lwp.regI hT ?_)
      simp only [L32r8, go_sem, eq_self, Nat.reduceAdd, Nat.reduceLT, Nat.reduceLeDiff, Nat.reduceEqDiff, reduceCtorEq, decide_true, ty23, e1, e2, h1, lim6_len]
      refine Lwp.ret (post_val (v := .agg (ints .u64 (lim6 x))) ?_ ?_)
      · simp only [go_sem, eq_self, Nat.reduceLT, Nat.reduceLeDiff, Nat.reduceEqDiff, reduceCtorEq, ty23, e1, lim6_len]
      · simp only [go_sem, eq_self]
    refine Lwp.seq (Lwp.seq (Lwp.region hT ?_))
    by_cases h12 : i < 12
    · have a1 : (i : Int) < 12 := by omega
      by_cases hl : i < (dig x).length
      · have a2 : (i : Int) < (dig x).length := by omega
        have a3 : (0 : Int) ≤ i := by omega
        have a4 := wrap_succ' (n := i) (by omega)
        have g := dig_getD x i
        simp only [L32r3, St25, go_sem, eq_self, Nat.reduceAdd, Nat.reduceLT, Nat.reduceEqDiff, reduceCtorEq, decide_true, ty31, a1, a2]
        refine Lwp.cond rfl (fun _ => Lwp.skip ?_) (fun h => by cases h)
        simp only [go_sem]
        refine Lwp.seq (Lwp.block (Lwp.seq (Lwp.region hT ?_)))
        rcases Nat.mod_two_eq_zero_or_one i with hp | hp
        · obtain ⟨j, rfl⟩ : ∃ j, i = 2 * j := ⟨i / 2, by omega⟩
          have c1 : (((2 * j : Nat) : Int).tmod 2 == 0) = true := by rw [Int.tmod_eq_emod_of_nonneg (by omega)]; simp; try omega
          have c2 : IntKind.i64.wrap (((2 * j : Nat) : Int).tdiv 2) = (j : Int) := by rw [Int.tdiv_eq_ediv_of_nonneg (by omega), wrap_i64 (by omega) (by omega)]; omega
          have c3 : (0 : Int) ≤ (j : Int) := by omega
          have c4 : (j : Int) < 6 := by omega
          have c5 : j ≤ 5 := by omega
          have c6 : j < 6 := by omega
          simp only [L32r5, go_sem, eq_self, Nat.reduceAdd, Nat.reduceLT, Nat.reduceEqDiff, Int.reduceEq, reduceCtorEq, c1]
          refine Lwp.cond rfl (fun _ => ?_) (fun h => by cases h)
          refine Lwp.regI hT ?_
          simp only [L32r6, go_sem, eq_self, Nat.reduceAdd, Nat.reduceLT, Nat.reduceLeDiff, Nat.reduceEqDiff, Int.reduceEq, reduceCtorEq, decide_true, Bool.false_eq_true, ty22, ty23, ty31, c2, c3, c4, c5, a2, a3, hl, lim6_len, g, lim6_lo]
          refine Lwp.regI hT ?_
          simp only [L32r4, go_sem, eq_self, Nat.reduceAdd, Nat.reduceLT, Nat.reduceEqDiff, reduceCtorEq, decide_true, a4]
          refine ⟨2 * j + 1, by omega, by omega, ?_⟩
          refine weak_of rfl ?_ ?_ ?_
          · (simp only [go_sem, eq_self, Nat.reduceEqDiff, reduceCtorEq]; try rfl)
          · (simp only [go_sem, eq_self, reduceCtorEq]; try rfl)
          · (simp only [go_sem, eq_self, reduceCtorEq]; try rfl)
        · obtain ⟨j, rfl⟩ : ∃ j, i = 2 * j + 1 := ⟨i / 2, by omega⟩
          have c1 : (((2 * j + 1 : Nat) : Int).tmod 2 == 0) = false := by rw [Int.tmod_eq_emod_of_nonneg (by omega)]; simp; try omega
          have c2 : IntKind.i64.wrap (((2 * j + 1 : Nat) : Int).tdiv 2) = (j : Int) := by rw [Int.tdiv_eq_ediv_of_nonneg (by omega), wrap_i64 (by omega) (by omega)]; omega
          have c3 : (0 : Int) ≤ (j : Int) := by omega
          have c4 : (j : Int) < 6 := by omega
          have c5 : j ≤ 5 := by omega
          have c6 : j < 6 := by omega
          have hi' := lim6_hi x j c6
          have gl := lim6_getD (x % 4294967296 ^ (2 * j + 1)) c6
          have hsm : x % 4294967296 ^ (2 * j + 1) / 18446744073709551616 ^ j < 4294967296 := Nat.div_lt_of_lt_mul (by rw [← pow_two33]; exact Nat.mod_lt _ (Nat.pow_pos (by decide)))
          have gl2 : 0 ≤ (lim6 (x % 4294967296 ^ (2 * j + 1))).getD j 0 ∧ (lim6 (x % 4294967296 ^ (2 * j + 1))).getD j 0 < 4294967296 := by
            rw [gl, Nat.mod_eq_of_lt (by omega)]; generalize x % 4294967296 ^ (2 * j + 1) / 18446744073709551616 ^ j = q at hsm ⊢; omega
          have dd := (dig_D32 x).at (2 * j + 1)
          clear gl
          have c7 : IntKind.u64.wrap ((dig x).getD (2 * j + 1) 0 * 4294967296) = (dig x).getD (2 * j + 1) 0 * 4294967296 := wrap_u64 (by omega) (by omega)
          have c8 : IntKind.u64.wrap ((lim6 (x % 4294967296 ^ (2 * j + 1))).getD j 0 + (dig x).getD (2 * j + 1) 0 * 4294967296) = (lim6 (x % 4294967296 ^ (2 * j + 1))).getD j 0 + (dig x).getD (2 * j + 1) 0 * 4294967296 := wrap_u64 (by omega) (by omega)
          rw [← g] at hi'
          simp only [L32r5, go_sem, eq_self, Nat.reduceAdd, Nat.reduceLT, Nat.reduceEqDiff, Int.reduceEq, reduceCtorEq, c1]
          refine Lwp.cond rfl (fun h => by cases h) (fun _ => ?_)
          refine Lwp.regD hT hM ?_
          simp only [L32r7, go_sem, eq_self, Nat.reduceAdd, Nat.reduceSub, Nat.reduceLT, Nat.reduceLeDiff, Nat.reduceEqDiff, Nat.reduceDiv, Nat.reduceMod, Nat.reducePow, Int.reduceEq, reduceCtorEq, decide_true, decide_false, Bool.false_eq_true, ty22, ty23, ty31, c2, c3, c4, c5, c6, c7, c8, a2, a3, hl, lim6_len, hi']
          refine Lwp.regI hT ?_
          simp only [L32r4, go_sem, eq_self, Nat.reduceAdd, Nat.reduceLT, Nat.reduceEqDiff, reduceCtorEq, decide_true, a4]
          refine ⟨2 * j + 2, by omega, by omega, ?_⟩
          refine weak_of rfl ?_ ?_ ?_
          · (simp only [go_sem, eq_self, Nat.reduceEqDiff, reduceCtorEq, show 2 * j + 2 = 2 * (j + 1) from rfl]; try rfl)
          · (simp only [go_sem, eq_self, reduceCtorEq, show 2 * j + 2 = 2 * (j + 1) from rfl]; try rfl)
          · (simp only [go_sem, eq_self, reduceCtorEq, show 2 * j + 2 = 2 * (j + 1) from rfl]; try rfl)
      · have a2 : ¬ (i : Int) < (dig x).length := by omega
        simp only [L32r3, St25, go_sem, eq_self, Nat.reduceAdd, Nat.reduceLT, Nat.reduceEqDiff, reduceCtorEq, decide_true, decide_false, ty31, a1, a2]
        refine Lwp.cond rfl (fun h => by cases h) (fun _ => Lwp.exit ?_)
        simp only [go_sem, eq_self]
        refine fin ?_ _ _ rfl rfl
        rw [Nat.mod_eq_of_lt ((dig_len_le x i).1 (by omega))]
    · have h12' : i = 12 := by omega
      subst h12'
      have a1 : ¬ ((12 : Nat) : Int) < 12 := by omega
      simp only [L32r3, St25, go_sem, eq_self, Nat.reduceAdd, Nat.reduceSub, Nat.reduceLT, Nat.reduceEqDiff, Nat.reducePow, Int.reduceLT, reduceCtorEq, decide_false, Bool.false_eq_true, ty31]
      refine Lwp.cond rfl (fun h => by cases h) (fun _ => Lwp.exit ?_)
      simp only [go_sem, eq_self]
      refine fin (lim6_mod x) _ _ rfl rfl
end Eng


namespace Eng
open Go Go.Proofs
set_option linter.unusedSimpArgs false
set_option linter.unusedVariables false
/- Sums and differences of limbs. -/
theorem v64_lim6 {x : Nat} (h : x < 18446744073709551616 ^ 6) : v64 (lim6 x) = x := by
  have key : ∀ n, v64 ((List.range n).map (fun j => ((x / 18446744073709551616 ^ j % 18446744073709551616 : Nat) : Int))) = x % 18446744073709551616 ^ n := by
    have app : ∀ a b : List Int, v64 (a ++ b) = v64 a + 18446744073709551616 ^ a.length * v64 b := by
      intro a b
      induction a with
      | nil => simp [v64]
      | cons y a ih =>
        simp only [List.cons_append, v64, ih, List.length_cons, Nat.pow_succ]
        rw [Nat.mul_add, Nat.add_assoc, ← Nat.mul_assoc, Nat.mul_comm 18446744073709551616 (18446744073709551616 ^ _)]
    intro n
    induction n with
    | zero => simp [v64, Nat.mod_one]
    | succ n ih =>
      rw [List.range_succ, List.map_append, app, ih, Nat.mod_pow_succ]
      simp only [List.length_map, List.length_range, List.map_cons, List.map_nil, v64, Int.toNat_natCast, Nat.mul_zero, Nat.add_zero]
  unfold lim6 tab
  rw [key, Nat.mod_eq_of_lt h]
theorem U6_lim (x : Nat) : U6 (lim6 x) := ⟨lim6_len x, lim6_D64 x⟩
theorem addC_lim (x y : Nat) : ∀ i, i ≤ 6 → addC (lim6 x) (lim6 y) i = (((x % 18446744073709551616 ^ i + y % 18446744073709551616 ^ i) / 18446744073709551616 ^ i : Nat) : Int)
  | 0, _ => by simp [addC, Nat.mod_one]
  | i + 1, h => by
    rw [addC, addC_lim x y i (by omega), lim6_getD x (by omega), lim6_getD y (by omega), add_car 18446744073709551616 x y i (by decide)]
    omega
theorem addD_lim (x y : Nat) : tab 6 (addD (lim6 x) (lim6 y)) = lim6 (x + y) := tab_ext fun i hi => by
  rw [addD, addC_lim x y i (by omega), lim6_getD x hi, lim6_getD y hi, add_dig 18446744073709551616 x y i (by decide)]
  omega
theorem addC_six {x y : Nat} (hx : x < 18446744073709551616 ^ 6) (hy : y < 18446744073709551616 ^ 6) : addC (lim6 x) (lim6 y) 6 = if x + y < 18446744073709551616 ^ 6 then 0 else 1 := by
  rw [addC_lim x y 6 (by decide), Nat.mod_eq_of_lt hx, Nat.mod_eq_of_lt hy]
  split
  · rename_i h; rw [Nat.div_eq_of_lt h]; rfl
  · rename_i h
    have : (x + y) / 18446744073709551616 ^ 6 = 1 := by
      rw [Nat.div_eq_iff (by decide)]; omega
    rw [this]; rfl
theorem subC_lim (x y : Nat) : ∀ i, i ≤ 6 → subC (lim6 x) (lim6 y) i = ((borrow 18446744073709551616 x y i : Nat) : Int)
  | 0, _ => by simp [subC, borrow, Nat.mod_one]
  | i + 1, h => by
    rw [subC, subC_lim x y i (by omega), lim6_getD x (by omega), lim6_getD y (by omega), bor_succ 18446744073709551616 x y i (by decide)]
    split <;> split <;> omega
theorem subC_six {x y : Nat} (hx : x < 18446744073709551616 ^ 6) (hy : y < 18446744073709551616 ^ 6) : subC (lim6 x) (lim6 y) 6 = if x < y then 1 else 0 := by
  rw [subC_lim x y 6 (by decide), borrow, Nat.mod_eq_of_lt hx, Nat.mod_eq_of_lt hy]
  split <;> rfl
/-- The limbs of an integer. -/
def limZ (z : Int) : List Int := tab 6 (fun j => z / (18446744073709551616 : Int) ^ j % 18446744073709551616)
theorem limZ_nat (x : Nat) : limZ (x : Int) = lim6 x := tab_ext fun i _ => by
  rfl
theorem subD_lim (x y : Nat) : tab 6 (subD (lim6 x) (lim6 y)) = limZ ((x : Int) - y) := tab_ext fun i hi => by
  have h := sub_dig 18446744073709551616 x y i (by decide)
  rw [subD, subC_lim x y i (by omega), lim6_getD x hi, lim6_getD y hi]
  exact h.symm
theorem limZ_add (z : Int) : limZ (z + 18446744073709551616 ^ 6) = limZ z := tab_ext fun i hi => by
  obtain ⟨m, hm⟩ : ∃ m, 6 = i + 1 + m := ⟨6 - (i + 1), by omega⟩
  have : (18446744073709551616 : Int) ^ 6 = 18446744073709551616 ^ i * (18446744073709551616 * 18446744073709551616 ^ m) := by rw [hm, Int.pow_add, Int.pow_succ, Int.mul_assoc]
  rw [this, Int.add_mul_ediv_left _ _ (by have : (0 : Int) < 18446744073709551616 ^ i := Int.pow_pos (by decide); omega), Int.add_mul_emod_self_left]
end Eng


namespace Eng
open Go Go.Proofs
set_option linter.unusedSimpArgs false
set_option linter.unusedVariables false
theorem S82_lim {x y : Nat} (hx : x < 18446744073709551616 ^ 6) (hy : y < 18446744073709551616 ^ 6) : S82 [.agg (ints .u64 (lim6 x)), .agg (ints .u64 (lim6 y))] = some ⟨.tup [.agg (ints .u64 (lim6 (x + y))), .int .u64 (if x + y < 18446744073709551616 ^ 6 then 0 else 1)], none⟩ := by
  rw [S82_eq _ _ (U6_lim x) (U6_lim y), addD_lim, addC_six hx hy]
theorem S78_lim (x y : Nat) : S78 [.agg (ints .u64 (lim6 x)), .agg (ints .u64 (lim6 y))] = some ⟨.tup [.agg (ints .u64 (limZ ((x : Int) - y))), .int .u64 ((borrow 18446744073709551616 x y 6 : Nat) : Int)], none⟩ := by
  rw [S78_eq _ _ (U6_lim x) (U6_lim y), subD_lim, subC_lim x y 6 (by decide)]
theorem limZ_back {x y : Nat} (hy : y < 18446744073709551616 ^ 6) : limZ (((x + y : Nat) : Int) - y) = lim6 x := by
  rw [show ((x + y : Nat) : Int) - y = (x : Int) by omega, limZ_nat]

end Eng

