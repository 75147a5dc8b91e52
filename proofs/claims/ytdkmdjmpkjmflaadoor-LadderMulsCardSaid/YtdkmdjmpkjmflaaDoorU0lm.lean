/- Contracts of the program's functions, and laws over them. There is no further condition. -/
import Derived.Test.YtdkmdjmpkjmflaaDoorED
import Derived.Test.YtdkmdjmpkjmflaaDoorChecked
import Derived.KernelRfl
set_option linter.unusedVariables false
set_option linter.unusedSimpArgs false
set_option linter.unusedSectionVars false
set_option exponentiation.threshold 2000
namespace Eng
open Go Go.Proofs
theorem ty4 : tyOf Tryd.prog 4 = some ⟨.bool, 1, 1, [.bool false], false, true, true⟩ := by kernel_rfl
theorem ty22 : tyOf Tryd.prog 22 = some ⟨.int .u64, 1, 8, [.int .u64 0], false, true, true⟩ := by kernel_rfl
theorem ty23 : tyOf Tryd.prog 23 = some ⟨.array 6 22, 6, 48, ints .u64 (List.replicate 6 0), true, true, true⟩ := by kernel_rfl
theorem ty24 : tyOf Tryd.prog 24 = some ⟨.array 6 22, 6, 48, ints .u64 (List.replicate 6 0), true, true, true⟩ := by kernel_rfl
theorem ty27 : tyOf Tryd.prog 27 = some ⟨.struct #[⟨ "X", 24, 0, false, "", "", 0⟩, ⟨ "Y", 24, 6, false, "", "", 48⟩, ⟨ "None", 4, 12, false, "", "", 96⟩], 13, 104, [.int .u64 0, .int .u64 0, .int .u64 0, .int .u64 0, .int .u64 0, .int .u64 0, .int .u64 0, .int .u64 0, .int .u64 0, .int .u64 0, .int .u64 0, .int .u64 0, .bool false], true, true, true⟩ := by kernel_rfl
theorem ty30 : tyOf Tryd.prog 30 = some ⟨.slice 22, 1, 24, [.nils], false, true, false⟩ := by kernel_rfl
theorem ty31 : tyOf Tryd.prog 31 = some ⟨.slice 22, 1, 24, [.nils], false, true, false⟩ := by kernel_rfl
theorem ty33 : tyOf Tryd.prog 33 = some ⟨.struct #[⟨ "None", 4, 0, false, "", "", 0⟩, ⟨ "X", 31, 1, false, "", "", 8⟩, ⟨ "Y", 31, 2, false, "", "", 32⟩], 3, 56, [.bool false, .nils, .nils], true, true, false⟩ := by kernel_rfl
theorem ty39 : tyOf Tryd.prog 39 = some ⟨.interface #[("Error", 105)], 1, 16, [.nili], false, true, true⟩ := by kernel_rfl
theorem ty43 : tyOf Tryd.prog 43 = some ⟨.int .i64, 1, 8, [.int .i64 0], false, true, true⟩ := by kernel_rfl
theorem ty65 : tyOf Tryd.prog 65 = some ⟨.struct #[⟨ "X", 24, 0, false, "", "", 0⟩, ⟨ "Y", 24, 6, false, "", "", 48⟩, ⟨ "Z", 24, 12, false, "", "", 96⟩], 18, 144, ints .u64 (List.replicate 18 0), true, true, true⟩ := by kernel_rfl
theorem ty82 : tyOf Tryd.prog 82 = some ⟨.struct #[⟨ "M", 24, 0, false, "", "", 0⟩, ⟨ "Inv", 22, 6, false, "", "", 48⟩, ⟨ "Two", 24, 7, false, "", "", 56⟩], 13, 104, ints .u64 (List.replicate 13 0), true, true, true⟩ := by kernel_rfl
theorem ty93 : tyOf Tryd.prog 93 = some ⟨.array 12 22, 12, 96, ints .u64 (List.replicate 12 0), true, true, true⟩ := by kernel_rfl
end Eng


namespace Eng
open Go Go.Proofs
theorem hM0 : Tryd.prog.follows .mixedOrders = true := by kernel_rfl
theorem eq24 : eqArr Tryd.prog 24 = true := by kernel_rfl
def L6r0 : List AOp := [
  ⟨(some 2), .box 24 (.tmp 0), none, 0⟩,
  ⟨(some 3), .box 27 (.tmp 1), none, 0⟩,
  ⟨(some 4), .assign (.const (.bool false)), none, 0⟩]
def L6r1 : List AOp := [
  ⟨(some 9), .call { callee := .value (.func 14), args := #[], argTypes := #[] }, none, 0⟩,
  ⟨(some 5), .assign (.tmp 9), none, 0⟩]
def L6r2 : List AOp := [
  ⟨(some 11), .load 24 (.tmp 2), none, 0⟩,
  ⟨(some 12), .load 27 (.tmp 3), none, 0⟩,
  ⟨(some 13), .call { callee := .value (.func 27), args := #[.tmp 11, .tmp 12], argTypes := #[24, 27] }, none, 0⟩,
  ⟨(some 10), .move (.tmp 13), none, 0⟩,
  ⟨(some 14), .extract (.tmp 10) 0, none, 0⟩,
  ⟨(some 15), .extract (.tmp 10) 1, none, 0⟩,
  ⟨(some 6), .alloc 27, none, 0⟩,
  ⟨none, .store 27 (.tmp 6) (.tmp 14), none, 0⟩,
  ⟨(some 7), .assign (.tmp 15), none, 0⟩]
def L6r3 : List AOp := [
  ⟨(some 16), .load 27 (.tmp 3), none, 0⟩,
  ⟨(some 17), .call { callee := .value (.func 22), args := #[.tmp 16], argTypes := #[27] }, none, 0⟩,
  ⟨(some 8), .assign (.tmp 17), none, 0⟩]
def L6r4 : List AOp := [
  ⟨(some 18), .move (.tmp 8), none, 0⟩,
  ⟨(some 19), .unOp .not 4 (.tmp 18), none, 0⟩]
def L6r5 : List AOp := [
  ⟨(some 20), .move (.tmp 5), none, 0⟩,
  ⟨(some 21), .move (.tmp 20), none, 0⟩,
  ⟨(some 22), .move (.tmp 7), (some (21, true)), 0⟩,
  ⟨(some 23), .makeInterface 43 (.const (.int .i64 4)), (some (21, true)), 0⟩,
  ⟨(some 24), .binOp .eql 39 (.tmp 22) (.tmp 23) 39, (some (21, true)), 0⟩,
  ⟨(some 25), .pick (.tmp 21) (.tmp 24) (.const (.bool false)), none, 0⟩,
  ⟨(some 26), .move (.tmp 25), none, 0⟩,
  ⟨(some 27), .load 27 (.tmp 6), (some (26, true)), 0⟩,
  ⟨(some 28), .build 27 #[], (some (26, true)), 0⟩,
  ⟨(some 29), .binOp .eql 27 (.tmp 27) (.tmp 28) 27, (some (26, true)), 0⟩,
  ⟨(some 30), .pick (.tmp 26) (.tmp 29) (.const (.bool false)), none, 0⟩,
  ⟨(some 4), .assign (.tmp 30), none, 0⟩]
def L6r6 : List AOp := [
  ⟨(some 31), .move (.tmp 5), none, 1267650600228229401496703205376⟩,
  ⟨(some 32), .move (.tmp 31), none, 1267650600228229401496703205377⟩,
  ⟨(some 33), .move (.tmp 7), (some (32, true)), 1267650600228229401496703205379⟩,
  ⟨(some 34), .binOp .eql 39 (.tmp 33) (.const .nilIface) 39, (some (32, true)), 1267650600228229401496703205383⟩,
  ⟨(some 35), .pick (.tmp 32) (.tmp 34) (.const (.bool false)), none, 1267650600228229401496703205391⟩,
  ⟨(some 36), .move (.tmp 35), none, 1267650600228229401496703205407⟩,
  ⟨(some 37), .load 27 (.tmp 6), (some (36, true)), 63⟩,
  ⟨(some 38), .load 24 (.tmp 2), (some (36, true)), 63⟩,
  ⟨(some 39), .call { callee := .value (.func 18), args := #[.tmp 38], argTypes := #[23] }, (some (36, true)), 191⟩,
  ⟨(some 40), .load 27 (.tmp 3), (some (36, true)), 63⟩,
  ⟨(some 41), .call { callee := .value (.func 24), args := #[.tmp 40], argTypes := #[27] }, (some (36, true)), 959⟩,
  ⟨(some 42), .call { callee := .value (.func 17), args := #[.tmp 39, .tmp 41], argTypes := #[31, 33] }, (some (36, true)), 1983⟩,
  ⟨(some 43), .call { callee := .value (.func 16), args := #[.tmp 42], argTypes := #[33] }, (some (36, true)), 4031⟩,
  ⟨(some 44), .binOp .eql 27 (.tmp 37) (.tmp 43) 27, (some (36, true)), 1267650600228229401496703213567⟩,
  ⟨(some 45), .pick (.tmp 36) (.tmp 44) (.const (.bool false)), none, 1267650600228229401496703221759⟩,
  ⟨(some 4), .assign (.tmp 45), none, 1267650600228229401496703238143⟩]
def L6 : LC := (.seq (.region L6r0) (.seq (.region L6r1) (.seq (.region L6r2) (.seq (.region L6r3) (.seq (.seq (.region L6r4) (.cond (.tmp 19) (.seq (.region L6r5) .ret) .skip)) (.seq (.regionD L6r6) .ret))))))
theorem nt6 : Tryd.f6.ntmps = 46 := by kernel_rfl
theorem rs6 : Tryd.f6.results.toList = [.tmp 4] := by kernel_rfl
theorem lite6 : Tryd.f6.body.map (lite okDraw) = some L6 := by kernel_rfl
def L14r0 : List AOp := [
  ⟨(some 0), .assign (.const (.bool false)), none, 0⟩]
def L14r1 : List AOp := [
  ⟨(some 1), .build 24 #[(0, .const (.int .u64 1))], none, 0⟩,
  ⟨(some 2), .call { callee := .value (.func 15), args := #[.tmp 1], argTypes := #[24] }, none, 0⟩,
  ⟨(some 3), .call { callee := .value (.func 19), args := #[], argTypes := #[] }, none, 0⟩,
  ⟨(some 4), .call { callee := .value (.func 16), args := #[.tmp 3], argTypes := #[33] }, none, 0⟩,
  ⟨(some 5), .binOp .eql 27 (.tmp 2) (.tmp 4) 27, none, 0⟩,
  ⟨(some 6), .move (.tmp 5), none, 0⟩,
  ⟨(some 7), .build 24 #[], (some (6, true)), 0⟩,
  ⟨(some 8), .call { callee := .value (.func 15), args := #[.tmp 7], argTypes := #[24] }, (some (6, true)), 0⟩,
  ⟨(some 9), .build 27 #[(2, .const (.bool true))], (some (6, true)), 0⟩,
  ⟨(some 10), .binOp .eql 27 (.tmp 8) (.tmp 9) 27, (some (6, true)), 0⟩,
  ⟨(some 11), .pick (.tmp 6) (.tmp 10) (.const (.bool false)), none, 0⟩,
  ⟨(some 0), .assign (.tmp 11), none, 0⟩]
def L14 : LC := (.seq (.region L14r0) (.seq (.region L14r1) .ret))
theorem nt14 : Tryd.f14.ntmps = 12 := by kernel_rfl
theorem rs14 : Tryd.f14.results.toList = [.tmp 0] := by kernel_rfl
theorem lite14 : Tryd.f14.body.map (lite okDraw) = some L14 := by kernel_rfl
def L15r0 : List AOp := [
  ⟨(some 1), .box 24 (.tmp 0), none, 0⟩,
  ⟨(some 2), .alloc 27, none, 0⟩]
def L15r1 : List AOp := [
  ⟨(some 3), .load 24 (.tmp 1), none, 0⟩,
  ⟨(some 4), .call { callee := .value (.func 39), args := #[], argTypes := #[] }, none, 0⟩,
  ⟨(some 5), .call { callee := .value (.func 38), args := #[.tmp 4], argTypes := #[27] }, none, 2⟩,
  ⟨(some 6), .call { callee := .value (.func 37), args := #[.tmp 3, .tmp 5, .func 40], argTypes := #[24, 65, 69] }, none, 1267650600228229401496703205383⟩,
  ⟨(some 7), .call { callee := .value (.func 41), args := #[.tmp 6], argTypes := #[65] }, none, 1267650600228229401496703205391⟩,
  ⟨none, .store 27 (.tmp 2) (.tmp 7), none, 1267650600228229401496703205407⟩]
def L15 : LC := (.seq (.region L15r0) (.seq (.regionD L15r1) .ret))
theorem nt15 : Tryd.f15.ntmps = 8 := by kernel_rfl
theorem rs15 : Tryd.f15.results.toList = [.cell 2 27] := by kernel_rfl
theorem lite15 : Tryd.f15.body.map (lite okDraw) = some L15 := by kernel_rfl
def L16r0 : List AOp := [
  ⟨(some 1), .box 33 (.tmp 0), none, 0⟩,
  ⟨(some 2), .alloc 27, none, 0⟩]
def L16r1 : List AOp := [
  ⟨(some 3), .fieldAddr 33 (.tmp 1) 0, none, 0⟩,
  ⟨(some 4), .load 4 (.tmp 3), none, 0⟩]
def L16r2 : List AOp := [
  ⟨(some 5), .build 27 #[(2, .const (.bool true))], none, 0⟩,
  ⟨none, .store 27 (.tmp 2) (.tmp 5), none, 0⟩]
def L16r3 : List AOp := [
  ⟨(some 6), .fieldAddr 33 (.tmp 1) 1, none, 0⟩,
  ⟨(some 7), .load 31 (.tmp 6), none, 1⟩,
  ⟨(some 8), .call { callee := .value (.func 32), args := #[.tmp 7], argTypes := #[31] }, none, 3⟩,
  ⟨(some 9), .fieldAddr 33 (.tmp 1) 2, none, 0⟩,
  ⟨(some 10), .load 31 (.tmp 9), none, 8⟩,
  ⟨(some 11), .call { callee := .value (.func 32), args := #[.tmp 10], argTypes := #[31] }, none, 1267650600228229401496703205407⟩,
  ⟨(some 12), .build 27 #[(0, .tmp 8), (1, .tmp 11)], none, 1267650600228229401496703205439⟩,
  ⟨none, .store 27 (.tmp 2) (.tmp 12), none, 1267650600228229401496703205503⟩]
def L16 : LC := (.seq (.region L16r0) (.seq (.seq (.region L16r1) (.cond (.tmp 4) (.seq (.region L16r2) .ret) .skip)) (.seq (.regionD L16r3) .ret)))
theorem nt16 : Tryd.f16.ntmps = 13 := by kernel_rfl
theorem rs16 : Tryd.f16.results.toList = [.cell 2 27] := by kernel_rfl
theorem lite16 : Tryd.f16.body.map (lite okDraw) = some L16 := by kernel_rfl
def L17r0 : List AOp := [
  ⟨(some 3), .box 33 (.tmp 1), none, 0⟩,
  ⟨(some 4), .alloc 33, none, 0⟩]
def L17r1 : List AOp := [
  ⟨(some 8), .build 33 #[(0, .const (.bool true))], none, 0⟩,
  ⟨(some 5), .alloc 33, none, 0⟩,
  ⟨none, .store 33 (.tmp 5) (.tmp 8), none, 0⟩]
def L17r2 : List AOp := [
  ⟨(some 9), .move (.tmp 0), none, 0⟩,
  ⟨(some 10), .call { callee := .value (.func 42), args := #[.tmp 9], argTypes := #[31] }, none, 0⟩,
  ⟨(some 11), .binOp .sub 3 (.tmp 10) (.const (.int .i64 1)) 3, none, 0⟩,
  ⟨(some 6), .assign (.tmp 11), none, 0⟩]
def L17r3 : List AOp := [
  ⟨(some 12), .move (.tmp 6), none, 0⟩,
  ⟨(some 13), .binOp .geq 3 (.tmp 12) (.const (.int .i64 0)) 3, none, 0⟩]
def L17r5 : List AOp := [
  ⟨(some 16), .load 33 (.tmp 5), none, 0⟩,
  ⟨(some 17), .load 33 (.tmp 5), none, 0⟩,
  ⟨(some 18), .call { callee := .value (.func 23), args := #[.tmp 16, .tmp 17], argTypes := #[33, 33] }, none, 0⟩,
  ⟨none, .store 33 (.tmp 5) (.tmp 18), none, 0⟩]
def L17r6 : List AOp := [
  ⟨(some 19), .move (.tmp 0), none, 0⟩,
  ⟨(some 20), .move (.tmp 6), none, 0⟩,
  ⟨(some 21), .call { callee := .value (.func 43), args := #[.tmp 19, .tmp 20], argTypes := #[31, 3] }, none, 0⟩,
  ⟨(some 7), .assign (.tmp 21), none, 0⟩]
def L17r7 : List AOp := [
  ⟨(some 22), .move (.tmp 7), none, 0⟩]
def L17r8 : List AOp := [
  ⟨(some 23), .load 33 (.tmp 5), none, 0⟩,
  ⟨(some 24), .load 33 (.tmp 3), none, 0⟩,
  ⟨(some 25), .call { callee := .value (.func 23), args := #[.tmp 23, .tmp 24], argTypes := #[33, 33] }, none, 0⟩,
  ⟨none, .store 33 (.tmp 5) (.tmp 25), none, 0⟩]
def L17r4 : List AOp := [
  ⟨(some 14), .move (.tmp 6), none, 0⟩,
  ⟨(some 15), .binOp .sub 3 (.tmp 14) (.const (.int .i64 1)) 3, none, 0⟩,
  ⟨(some 6), .assign (.tmp 15), none, 0⟩]
def L17r9 : List AOp := [
  ⟨(some 26), .load 33 (.tmp 5), none, 0⟩,
  ⟨none, .store 33 (.tmp 4) (.tmp 26), none, 0⟩]
def L17 : LC := (.seq (.region L17r0) (.seq (.region L17r1) (.seq (.seq (.region L17r2) (.block 0 (.loop (.seq (.seq (.region L17r3) (.cond (.tmp 13) .skip (.exit 0))) (.seq (.block 1 (.seq (.region L17r5) (.seq (.region L17r6) (.seq (.region L17r7) (.cond (.tmp 22) (.region L17r8) .skip))))) (.region L17r4)))))) (.seq (.region L17r9) .ret))))
theorem nt17 : Tryd.f17.ntmps = 27 := by kernel_rfl
theorem rs17 : Tryd.f17.results.toList = [.cell 4 33] := by kernel_rfl
theorem lite17 : Tryd.f17.body.map (lite okDraw) = some L17 := by kernel_rfl
def L18r0 : List AOp := [
  ⟨(some 1), .box 23 (.tmp 0), none, 0⟩,
  ⟨(some 2), .assign (.const (.slice none 0 0)), none, 0⟩]
def L18r1 : List AOp := [
  ⟨(some 3), .assign (.const (.slice none 0 0)), none, 0⟩]
def L18r2 : List AOp := [
  ⟨(some 4), .assign (.const (.int .i64 0)), none, 0⟩]
def L18r3 : List AOp := [
  ⟨(some 5), .move (.tmp 4), none, 0⟩,
  ⟨(some 6), .binOp .lss 3 (.tmp 5) (.const (.int .i64 6)) 3, none, 0⟩]
def L18r5 : List AOp := [
  ⟨(some 9), .move (.tmp 3), none, 0⟩,
  ⟨(some 10), .move (.tmp 4), none, 0⟩,
  ⟨(some 11), .indexAddr 23 (.tmp 1) (.tmp 10), none, 0⟩,
  ⟨(some 12), .load 22 (.tmp 11), none, 0⟩,
  ⟨(some 13), .buildSlice 30 1 #[(0, .tmp 12)], none, 0⟩,
  ⟨(some 14), .call { callee := .builtin .append, args := #[.tmp 9, .tmp 13], argTypes := #[30, 30] }, none, 0⟩,
  ⟨(some 3), .assign (.tmp 14), none, 0⟩]
def L18r4 : List AOp := [
  ⟨(some 7), .move (.tmp 4), none, 0⟩,
  ⟨(some 8), .binOp .add 3 (.tmp 7) (.const (.int .i64 1)) 3, none, 0⟩,
  ⟨(some 4), .assign (.tmp 8), none, 0⟩]
def L18r6 : List AOp := [
  ⟨(some 15), .move (.tmp 3), none, 0⟩,
  ⟨(some 16), .call { callee := .value (.func 44), args := #[.tmp 15], argTypes := #[30] }, none, 0⟩,
  ⟨(some 2), .assign (.tmp 16), none, 0⟩]
def L18 : LC := (.seq (.region L18r0) (.seq (.region L18r1) (.seq (.seq (.region L18r2) (.block 0 (.loop (.seq (.seq (.region L18r3) (.cond (.tmp 6) .skip (.exit 0))) (.seq (.block 1 (.region L18r5)) (.region L18r4)))))) (.seq (.region L18r6) .ret))))
theorem nt18 : Tryd.f18.ntmps = 17 := by kernel_rfl
theorem rs18 : Tryd.f18.results.toList = [.tmp 2] := by kernel_rfl
theorem lite18 : Tryd.f18.body.map (lite okDraw) = some L18 := by kernel_rfl
def L19r0 : List AOp := [
  ⟨(some 0), .alloc 33, none, 0⟩]
def L19r1 : List AOp := [
  ⟨(some 1), .buildSlice 31 12 #[(0, .const (.int .u64 1920338615)), (1, .const (.int .u64 978607672)), (2, .const (.int .u64 3210029420)), (3, .const (.int .u64 1426256477)), (4, .const (.int .u64 2186553912)), (5, .const (.int .u64 1509376480)), (6, .const (.int .u64 2343017368)), (7, .const (.int .u64 1847409506)), (8, .const (.int .u64 4079005044)), (9, .const (.int .u64 2394015518)), (10, .const (.int .u64 3196781879)), (11, .const (.int .u64 2861025826))], none, 0⟩,
  ⟨(some 2), .buildSlice 31 12 #[(0, .const (.int .u64 2431258207)), (1, .const (.int .u64 2051218812)), (2, .const (.int .u64 494829981)), (3, .const (.int .u64 174109134)), (4, .const (.int .u64 3052452032)), (5, .const (.int .u64 3923390739)), (6, .const (.int .u64 681186428)), (7, .const (.int .u64 4176747965)), (8, .const (.int .u64 2459098153)), (9, .const (.int .u64 1570674879)), (10, .const (.int .u64 2519084143)), (11, .const (.int .u64 907533898))], none, 0⟩,
  ⟨(some 3), .build 33 #[(1, .tmp 1), (2, .tmp 2)], none, 0⟩,
  ⟨none, .store 33 (.tmp 0) (.tmp 3), none, 0⟩]
def L19 : LC := (.seq (.region L19r0) (.seq (.region L19r1) .ret))
theorem nt19 : Tryd.f19.ntmps = 4 := by kernel_rfl
theorem rs19 : Tryd.f19.results.toList = [.cell 0 33] := by kernel_rfl
theorem lite19 : Tryd.f19.body.map (lite okDraw) = some L19 := by kernel_rfl
def L22r0 : List AOp := [
  ⟨(some 1), .box 27 (.tmp 0), none, 0⟩,
  ⟨(some 2), .assign (.const (.bool false)), none, 0⟩]
def L22r1 : List AOp := [
  ⟨(some 7), .fieldAddr 27 (.tmp 1) 2, none, 0⟩,
  ⟨(some 8), .load 4 (.tmp 7), none, 0⟩]
def L22r2 : List AOp := [
  ⟨(some 9), .load 27 (.tmp 1), none, 0⟩,
  ⟨(some 10), .build 27 #[(2, .const (.bool true))], none, 0⟩,
  ⟨(some 11), .binOp .eql 27 (.tmp 9) (.tmp 10) 27, none, 0⟩,
  ⟨(some 2), .assign (.tmp 11), none, 0⟩]
def L22r3 : List AOp := [
  ⟨(some 12), .fieldAddr 27 (.tmp 1) 0, none, 0⟩,
  ⟨(some 13), .load 24 (.tmp 12), none, 0⟩,
  ⟨(some 14), .call { callee := .value (.func 18), args := #[.tmp 13], argTypes := #[23] }, none, 0⟩,
  ⟨(some 3), .assign (.tmp 14), none, 0⟩]
def L22r4 : List AOp := [
  ⟨(some 15), .fieldAddr 27 (.tmp 1) 1, none, 0⟩,
  ⟨(some 16), .load 24 (.tmp 15), none, 0⟩,
  ⟨(some 17), .call { callee := .value (.func 18), args := #[.tmp 16], argTypes := #[23] }, none, 0⟩,
  ⟨(some 4), .assign (.tmp 17), none, 0⟩]
def L22r5 : List AOp := [
  ⟨(some 18), .move (.tmp 3), none, 0⟩,
  ⟨(some 19), .call { callee := .value (.func 47), args := #[], argTypes := #[] }, none, 0⟩,
  ⟨(some 20), .call { callee := .value (.func 46), args := #[.tmp 18, .tmp 19], argTypes := #[31, 31] }, none, 0⟩,
  ⟨(some 21), .binOp .geq 3 (.tmp 20) (.const (.int .i64 0)) 3, none, 0⟩,
  ⟨(some 22), .move (.tmp 21), none, 0⟩,
  ⟨(some 23), .move (.tmp 4), (some (22, false)), 0⟩,
  ⟨(some 24), .call { callee := .value (.func 47), args := #[], argTypes := #[] }, (some (22, false)), 0⟩,
  ⟨(some 25), .call { callee := .value (.func 46), args := #[.tmp 23, .tmp 24], argTypes := #[31, 31] }, (some (22, false)), 0⟩,
  ⟨(some 26), .binOp .geq 3 (.tmp 25) (.const (.int .i64 0)) 3, (some (22, false)), 0⟩,
  ⟨(some 27), .pick (.tmp 22) (.const (.bool true)) (.tmp 26), none, 0⟩]
def L22r6 : List AOp := [
  ⟨(some 2), .assign (.const (.bool false)), none, 0⟩]
def L22r7 : List AOp := [
  ⟨(some 28), .move (.tmp 4), none, 0⟩,
  ⟨(some 29), .move (.tmp 4), none, 0⟩,
  ⟨(some 30), .call { callee := .value (.func 48), args := #[.tmp 28, .tmp 29], argTypes := #[31, 31] }, none, 0⟩,
  ⟨(some 5), .assign (.tmp 30), none, 0⟩]
def L22r8 : List AOp := [
  ⟨(some 31), .move (.tmp 3), none, 0⟩,
  ⟨(some 32), .move (.tmp 3), none, 0⟩,
  ⟨(some 33), .call { callee := .value (.func 48), args := #[.tmp 31, .tmp 32], argTypes := #[31, 31] }, none, 0⟩,
  ⟨(some 34), .move (.tmp 3), none, 0⟩,
  ⟨(some 35), .call { callee := .value (.func 48), args := #[.tmp 33, .tmp 34], argTypes := #[31, 31] }, none, 0⟩,
  ⟨(some 6), .assign (.tmp 35), none, 0⟩]
def L22r9 : List AOp := [
  ⟨(some 36), .move (.tmp 6), none, 0⟩,
  ⟨(some 37), .buildSlice 31 1 #[(0, .const (.int .u64 3))], none, 0⟩,
  ⟨(some 38), .move (.tmp 3), none, 0⟩,
  ⟨(some 39), .call { callee := .value (.func 48), args := #[.tmp 37, .tmp 38], argTypes := #[31, 31] }, none, 0⟩,
  ⟨(some 40), .call { callee := .value (.func 50), args := #[.tmp 36, .tmp 39], argTypes := #[31, 31] }, none, 0⟩,
  ⟨(some 41), .call { callee := .value (.func 51), args := #[], argTypes := #[] }, none, 0⟩,
  ⟨(some 42), .call { callee := .value (.func 49), args := #[.tmp 40, .tmp 41], argTypes := #[31, 31] }, none, 0⟩,
  ⟨(some 6), .assign (.tmp 42), none, 0⟩]
def L22r10 : List AOp := [
  ⟨(some 43), .move (.tmp 5), none, 0⟩,
  ⟨(some 44), .move (.tmp 6), none, 0⟩,
  ⟨(some 45), .call { callee := .value (.func 46), args := #[.tmp 43, .tmp 44], argTypes := #[31, 31] }, none, 0⟩,
  ⟨(some 46), .binOp .eql 3 (.tmp 45) (.const (.int .i64 0)) 3, none, 0⟩,
  ⟨(some 2), .assign (.tmp 46), none, 0⟩]
def L22 : LC := (.seq (.region L22r0) (.seq (.seq (.region L22r1) (.cond (.tmp 8) (.seq (.region L22r2) .ret) .skip)) (.seq (.region L22r3) (.seq (.region L22r4) (.seq (.seq (.region L22r5) (.cond (.tmp 27) (.seq (.region L22r6) .ret) .skip)) (.seq (.region L22r7) (.seq (.region L22r8) (.seq (.region L22r9) (.seq (.region L22r10) .ret)))))))))
theorem nt22 : Tryd.f22.ntmps = 47 := by kernel_rfl
theorem rs22 : Tryd.f22.results.toList = [.tmp 2] := by kernel_rfl
theorem lite22 : Tryd.f22.body.map (lite okDraw) = some L22 := by kernel_rfl
def L23r0 : List AOp := [
  ⟨(some 2), .box 33 (.tmp 0), none, 0⟩,
  ⟨(some 3), .box 33 (.tmp 1), none, 0⟩,
  ⟨(some 4), .alloc 33, none, 0⟩]
def L23r1 : List AOp := [
  ⟨(some 10), .fieldAddr 33 (.tmp 2) 0, none, 0⟩,
  ⟨(some 11), .load 4 (.tmp 10), none, 0⟩]
def L23r2 : List AOp := [
  ⟨(some 12), .load 33 (.tmp 3), none, 0⟩,
  ⟨none, .store 33 (.tmp 4) (.tmp 12), none, 0⟩]
def L23r3 : List AOp := [
  ⟨(some 13), .fieldAddr 33 (.tmp 3) 0, none, 0⟩,
  ⟨(some 14), .load 4 (.tmp 13), none, 0⟩]
def L23r4 : List AOp := [
  ⟨(some 15), .load 33 (.tmp 2), none, 0⟩,
  ⟨none, .store 33 (.tmp 4) (.tmp 15), none, 0⟩]
def L23r5 : List AOp := [
  ⟨(some 5), .assign (.const (.slice none 0 0)), none, 0⟩]
def L23r6 : List AOp := [
  ⟨(some 6), .assign (.const (.slice none 0 0)), none, 0⟩]
def L23r7 : List AOp := [
  ⟨(some 16), .fieldAddr 33 (.tmp 2) 1, none, 0⟩,
  ⟨(some 17), .load 31 (.tmp 16), none, 0⟩,
  ⟨(some 18), .fieldAddr 33 (.tmp 3) 1, none, 0⟩,
  ⟨(some 19), .load 31 (.tmp 18), none, 0⟩,
  ⟨(some 20), .call { callee := .value (.func 46), args := #[.tmp 17, .tmp 19], argTypes := #[31, 31] }, none, 0⟩,
  ⟨(some 21), .binOp .eql 3 (.tmp 20) (.const (.int .i64 0)) 3, none, 0⟩]
def L23r8 : List AOp := [
  ⟨(some 22), .fieldAddr 33 (.tmp 2) 2, none, 0⟩,
  ⟨(some 23), .load 31 (.tmp 22), none, 0⟩,
  ⟨(some 24), .fieldAddr 33 (.tmp 3) 2, none, 0⟩,
  ⟨(some 25), .load 31 (.tmp 24), none, 0⟩,
  ⟨(some 26), .call { callee := .value (.func 49), args := #[.tmp 23, .tmp 25], argTypes := #[31, 31] }, none, 0⟩,
  ⟨(some 27), .call { callee := .builtin .len, args := #[.tmp 26], argTypes := #[31] }, none, 0⟩,
  ⟨(some 28), .binOp .eql 3 (.tmp 27) (.const (.int .i64 0)) 3, none, 0⟩]
def L23r9 : List AOp := [
  ⟨(some 29), .build 33 #[(0, .const (.bool true))], none, 0⟩,
  ⟨none, .store 33 (.tmp 4) (.tmp 29), none, 0⟩]
def L23r10 : List AOp := [
  ⟨(some 30), .buildSlice 31 1 #[(0, .const (.int .u64 3))], none, 0⟩,
  ⟨(some 31), .fieldAddr 33 (.tmp 2) 1, none, 0⟩,
  ⟨(some 32), .load 31 (.tmp 31), none, 0⟩,
  ⟨(some 33), .fieldAddr 33 (.tmp 2) 1, none, 0⟩,
  ⟨(some 34), .load 31 (.tmp 33), none, 0⟩,
  ⟨(some 35), .call { callee := .value (.func 48), args := #[.tmp 32, .tmp 34], argTypes := #[31, 31] }, none, 0⟩,
  ⟨(some 36), .call { callee := .value (.func 48), args := #[.tmp 30, .tmp 35], argTypes := #[31, 31] }, none, 0⟩,
  ⟨(some 37), .buildSlice 31 1 #[(0, .const (.int .u64 3))], none, 0⟩,
  ⟨(some 38), .call { callee := .value (.func 50), args := #[.tmp 36, .tmp 37], argTypes := #[31, 31] }, none, 0⟩,
  ⟨(some 5), .assign (.tmp 38), none, 0⟩]
def L23r11 : List AOp := [
  ⟨(some 39), .fieldAddr 33 (.tmp 2) 2, none, 0⟩,
  ⟨(some 40), .load 31 (.tmp 39), none, 0⟩,
  ⟨(some 41), .fieldAddr 33 (.tmp 2) 2, none, 0⟩,
  ⟨(some 42), .load 31 (.tmp 41), none, 0⟩,
  ⟨(some 43), .call { callee := .value (.func 49), args := #[.tmp 40, .tmp 42], argTypes := #[31, 31] }, none, 0⟩,
  ⟨(some 6), .assign (.tmp 43), none, 0⟩]
def L23r12 : List AOp := [
  ⟨(some 44), .fieldAddr 33 (.tmp 3) 2, none, 0⟩,
  ⟨(some 45), .load 31 (.tmp 44), none, 0⟩,
  ⟨(some 46), .fieldAddr 33 (.tmp 2) 2, none, 0⟩,
  ⟨(some 47), .load 31 (.tmp 46), none, 0⟩,
  ⟨(some 48), .call { callee := .value (.func 50), args := #[.tmp 45, .tmp 47], argTypes := #[31, 31] }, none, 0⟩,
  ⟨(some 5), .assign (.tmp 48), none, 0⟩]
def L23r13 : List AOp := [
  ⟨(some 49), .fieldAddr 33 (.tmp 3) 1, none, 0⟩,
  ⟨(some 50), .load 31 (.tmp 49), none, 0⟩,
  ⟨(some 51), .fieldAddr 33 (.tmp 2) 1, none, 0⟩,
  ⟨(some 52), .load 31 (.tmp 51), none, 0⟩,
  ⟨(some 53), .call { callee := .value (.func 50), args := #[.tmp 50, .tmp 52], argTypes := #[31, 31] }, none, 0⟩,
  ⟨(some 6), .assign (.tmp 53), none, 0⟩]
def L23r14 : List AOp := [
  ⟨(some 54), .move (.tmp 5), none, 0⟩,
  ⟨(some 55), .move (.tmp 6), none, 0⟩,
  ⟨(some 56), .call { callee := .value (.func 52), args := #[.tmp 55], argTypes := #[31] }, none, 0⟩,
  ⟨(some 57), .call { callee := .value (.func 48), args := #[.tmp 54, .tmp 56], argTypes := #[31, 31] }, none, 0⟩,
  ⟨(some 7), .assign (.tmp 57), none, 0⟩]
def L23r15 : List AOp := [
  ⟨(some 58), .move (.tmp 7), none, 0⟩,
  ⟨(some 59), .move (.tmp 7), none, 0⟩,
  ⟨(some 60), .call { callee := .value (.func 48), args := #[.tmp 58, .tmp 59], argTypes := #[31, 31] }, none, 3⟩,
  ⟨(some 61), .fieldAddr 33 (.tmp 2) 1, none, 0⟩,
  ⟨(some 62), .load 31 (.tmp 61), none, 8⟩,
  ⟨(some 63), .call { callee := .value (.func 50), args := #[.tmp 60, .tmp 62], argTypes := #[31, 31] }, none, 31⟩,
  ⟨(some 64), .fieldAddr 33 (.tmp 3) 1, none, 0⟩,
  ⟨(some 65), .load 31 (.tmp 64), none, 64⟩,
  ⟨(some 66), .call { callee := .value (.func 50), args := #[.tmp 63, .tmp 65], argTypes := #[31, 31] }, none, 1267650600228229401496703205631⟩,
  ⟨(some 8), .assign (.tmp 66), none, 1267650600228229401496703205887⟩]
def L23r16 : List AOp := [
  ⟨(some 67), .move (.tmp 7), none, 0⟩,
  ⟨(some 68), .fieldAddr 33 (.tmp 2) 1, none, 0⟩,
  ⟨(some 69), .load 31 (.tmp 68), none, 2⟩,
  ⟨(some 70), .move (.tmp 8), none, 0⟩,
  ⟨(some 71), .call { callee := .value (.func 50), args := #[.tmp 69, .tmp 70], argTypes := #[31, 31] }, none, 14⟩,
  ⟨(some 72), .call { callee := .value (.func 48), args := #[.tmp 67, .tmp 71], argTypes := #[31, 31] }, none, 31⟩,
  ⟨(some 73), .fieldAddr 33 (.tmp 2) 2, none, 0⟩,
  ⟨(some 74), .load 31 (.tmp 73), none, 64⟩,
  ⟨(some 75), .call { callee := .value (.func 50), args := #[.tmp 72, .tmp 74], argTypes := #[31, 31] }, none, 1267650600228229401496703205631⟩,
  ⟨(some 9), .assign (.tmp 75), none, 1267650600228229401496703205887⟩]
def L23r17 : List AOp := [
  ⟨(some 76), .move (.tmp 8), none, 0⟩,
  ⟨(some 77), .move (.tmp 9), none, 0⟩,
  ⟨(some 78), .build 33 #[(1, .tmp 76), (2, .tmp 77)], none, 0⟩,
  ⟨none, .store 33 (.tmp 4) (.tmp 78), none, 0⟩]
def L23 : LC := (.seq (.region L23r0) (.seq (.seq (.region L23r1) (.cond (.tmp 11) (.seq (.region L23r2) .ret) .skip)) (.seq (.seq (.region L23r3) (.cond (.tmp 14) (.seq (.region L23r4) .ret) .skip)) (.seq (.region L23r5) (.seq (.region L23r6) (.seq (.seq (.region L23r7) (.cond (.tmp 21) (.seq (.seq (.region L23r8) (.cond (.tmp 28) (.seq (.region L23r9) .ret) .skip)) (.seq (.region L23r10) (.region L23r11))) (.seq (.region L23r12) (.region L23r13)))) (.seq (.region L23r14) (.seq (.regionD L23r15) (.seq (.regionD L23r16) (.seq (.region L23r17) .ret))))))))))
theorem nt23 : Tryd.f23.ntmps = 79 := by kernel_rfl
theorem rs23 : Tryd.f23.results.toList = [.cell 4 33] := by kernel_rfl
theorem lite23 : Tryd.f23.body.map (lite okDraw) = some L23 := by kernel_rfl
def L24r0 : List AOp := [
  ⟨(some 1), .box 27 (.tmp 0), none, 0⟩,
  ⟨(some 2), .alloc 33, none, 0⟩]
def L24r1 : List AOp := [
  ⟨(some 3), .fieldAddr 27 (.tmp 1) 2, none, 0⟩,
  ⟨(some 4), .load 4 (.tmp 3), none, 0⟩]
def L24r2 : List AOp := [
  ⟨(some 5), .build 33 #[(0, .const (.bool true))], none, 0⟩,
  ⟨none, .store 33 (.tmp 2) (.tmp 5), none, 0⟩]
def L24r3 : List AOp := [
  ⟨(some 6), .fieldAddr 27 (.tmp 1) 0, none, 0⟩,
  ⟨(some 7), .load 24 (.tmp 6), none, 1⟩,
  ⟨(some 8), .call { callee := .value (.func 18), args := #[.tmp 7], argTypes := #[23] }, none, 3⟩,
  ⟨(some 9), .fieldAddr 27 (.tmp 1) 1, none, 0⟩,
  ⟨(some 10), .load 24 (.tmp 9), none, 8⟩,
  ⟨(some 11), .call { callee := .value (.func 18), args := #[.tmp 10], argTypes := #[23] }, none, 1267650600228229401496703205407⟩,
  ⟨(some 12), .build 33 #[(1, .tmp 8), (2, .tmp 11)], none, 1267650600228229401496703205439⟩,
  ⟨none, .store 33 (.tmp 2) (.tmp 12), none, 1267650600228229401496703205503⟩]
def L24 : LC := (.seq (.region L24r0) (.seq (.seq (.region L24r1) (.cond (.tmp 4) (.seq (.region L24r2) .ret) .skip)) (.seq (.regionD L24r3) .ret)))
theorem nt24 : Tryd.f24.ntmps = 13 := by kernel_rfl
theorem rs24 : Tryd.f24.results.toList = [.cell 2 33] := by kernel_rfl
theorem lite24 : Tryd.f24.body.map (lite okDraw) = some L24 := by kernel_rfl
def L27r0 : List AOp := [
  ⟨(some 2), .box 24 (.tmp 0), none, 0⟩,
  ⟨(some 3), .box 27 (.tmp 1), none, 0⟩,
  ⟨(some 4), .alloc 27, none, 0⟩,
  ⟨(some 5), .assign (.const .nilIface), none, 0⟩]
def L27r1 : List AOp := [
  ⟨(some 6), .load 27 (.tmp 3), none, 0⟩,
  ⟨(some 7), .call { callee := .value (.func 29), args := #[.tmp 6], argTypes := #[27] }, none, 0⟩,
  ⟨(some 8), .unOp .not 4 (.tmp 7), none, 0⟩]
def L27r2 : List AOp := [
  ⟨(some 9), .build 27 #[], none, 0⟩,
  ⟨(some 10), .makeInterface 43 (.const (.int .i64 4)), none, 0⟩,
  ⟨none, .store 27 (.tmp 4) (.tmp 9), none, 0⟩,
  ⟨(some 5), .assign (.tmp 10), none, 0⟩]
def L27r3 : List AOp := [
  ⟨(some 11), .load 24 (.tmp 2), none, 0⟩,
  ⟨(some 12), .load 27 (.tmp 3), none, 0⟩,
  ⟨(some 13), .call { callee := .value (.func 38), args := #[.tmp 12], argTypes := #[27] }, none, 2⟩,
  ⟨(some 14), .call { callee := .value (.func 37), args := #[.tmp 11, .tmp 13, .func 40], argTypes := #[24, 65, 69] }, none, 1267650600228229401496703205383⟩,
  ⟨(some 15), .call { callee := .value (.func 41), args := #[.tmp 14], argTypes := #[65] }, none, 1267650600228229401496703205391⟩,
  ⟨none, .store 27 (.tmp 4) (.tmp 15), none, 1267650600228229401496703205407⟩,
  ⟨(some 5), .assign (.const .nilIface), none, 1267650600228229401496703205439⟩]
def L27 : LC := (.seq (.region L27r0) (.seq (.seq (.region L27r1) (.cond (.tmp 8) (.seq (.region L27r2) .ret) .skip)) (.seq (.regionD L27r3) .ret)))
theorem nt27 : Tryd.f27.ntmps = 16 := by kernel_rfl
theorem rs27 : Tryd.f27.results.toList = [.cell 4 27, .tmp 5] := by kernel_rfl
theorem lite27 : Tryd.f27.body.map (lite okDraw) = some L27 := by kernel_rfl
def L29r0 : List AOp := [
  ⟨(some 1), .box 27 (.tmp 0), none, 0⟩,
  ⟨(some 2), .assign (.const (.bool false)), none, 0⟩]
def L29r1 : List AOp := [
  ⟨(some 6), .fieldAddr 27 (.tmp 1) 2, none, 0⟩,
  ⟨(some 7), .load 4 (.tmp 6), none, 0⟩,
  ⟨(some 5), .assign (.tmp 7), none, 0⟩]
def L29r2 : List AOp := [
  ⟨(some 8), .load 27 (.tmp 1), none, 0⟩,
  ⟨(some 9), .build 27 #[(2, .const (.bool true))], none, 0⟩,
  ⟨(some 10), .binOp .eql 27 (.tmp 8) (.tmp 9) 27, none, 0⟩,
  ⟨(some 2), .assign (.tmp 10), none, 0⟩]
def L29r3 : List AOp := [
  ⟨(some 12), .fieldAddr 27 (.tmp 1) 0, none, 0⟩,
  ⟨(some 13), .load 24 (.tmp 12), none, 1⟩,
  ⟨(some 14), .call { callee := .value (.func 56), args := #[], argTypes := #[] }, none, 0⟩,
  ⟨(some 15), .call { callee := .value (.func 55), args := #[.tmp 13, .tmp 14], argTypes := #[24, 24] }, none, 1267650600228229401496703205383⟩,
  ⟨(some 16), .binOp .eql 22 (.tmp 15) (.const (.int .u64 0)) 22, none, 1267650600228229401496703205391⟩,
  ⟨(some 17), .move (.tmp 16), none, 1267650600228229401496703205407⟩,
  ⟨(some 18), .fieldAddr 27 (.tmp 1) 1, (some (17, false)), 63⟩,
  ⟨(some 19), .load 24 (.tmp 18), (some (17, false)), 127⟩,
  ⟨(some 20), .call { callee := .value (.func 56), args := #[], argTypes := #[] }, (some (17, false)), 63⟩,
  ⟨(some 21), .call { callee := .value (.func 55), args := #[.tmp 19, .tmp 20], argTypes := #[24, 24] }, (some (17, false)), 1267650600228229401496703205887⟩,
  ⟨(some 22), .binOp .eql 22 (.tmp 21) (.const (.int .u64 0)) 22, (some (17, false)), 1267650600228229401496703206399⟩,
  ⟨(some 23), .pick (.tmp 17) (.const (.bool true)) (.tmp 22), none, 1267650600228229401496703207423⟩,
  ⟨(some 11), .assign (.tmp 23), none, 1267650600228229401496703209471⟩]
def L29r4 : List AOp := [
  ⟨(some 2), .assign (.const (.bool false)), none, 0⟩]
def L29r5 : List AOp := [
  ⟨(some 24), .fieldAddr 27 (.tmp 1) 0, none, 0⟩,
  ⟨(some 25), .load 24 (.tmp 24), none, 1⟩,
  ⟨(some 26), .fieldAddr 27 (.tmp 1) 0, none, 0⟩,
  ⟨(some 27), .load 24 (.tmp 26), none, 4⟩,
  ⟨(some 28), .call { callee := .value (.func 57), args := #[.tmp 25, .tmp 27], argTypes := #[24, 24] }, none, 15⟩,
  ⟨(some 29), .fieldAddr 27 (.tmp 1) 0, none, 0⟩,
  ⟨(some 30), .load 24 (.tmp 29), none, 32⟩,
  ⟨(some 31), .call { callee := .value (.func 57), args := #[.tmp 28, .tmp 30], argTypes := #[24, 24] }, none, 127⟩,
  ⟨(some 3), .alloc 24, none, 0⟩,
  ⟨none, .store 24 (.tmp 3) (.tmp 31), none, 1267650600228229401496703205887⟩]
def L29r6 : List AOp := [
  ⟨(some 32), .load 24 (.tmp 3), none, 0⟩,
  ⟨(some 33), .build 24 #[(0, .const (.int .u64 3))], none, 0⟩,
  ⟨(some 34), .fieldAddr 27 (.tmp 1) 0, none, 0⟩,
  ⟨(some 35), .load 24 (.tmp 34), none, 4⟩,
  ⟨(some 36), .call { callee := .value (.func 57), args := #[.tmp 33, .tmp 35], argTypes := #[24, 24] }, none, 14⟩,
  ⟨(some 37), .call { callee := .value (.func 58), args := #[.tmp 32, .tmp 36], argTypes := #[24, 24] }, none, 31⟩,
  ⟨(some 38), .call { callee := .value (.func 59), args := #[], argTypes := #[] }, none, 63⟩,
  ⟨(some 39), .call { callee := .value (.func 35), args := #[.tmp 37, .tmp 38], argTypes := #[24, 24] }, none, 127⟩,
  ⟨(some 4), .alloc 24, none, 0⟩,
  ⟨none, .store 24 (.tmp 4) (.tmp 39), none, 1267650600228229401496703205887⟩]
def L29r7 : List AOp := [
  ⟨(some 40), .fieldAddr 27 (.tmp 1) 1, none, 0⟩,
  ⟨(some 41), .load 24 (.tmp 40), none, 1⟩,
  ⟨(some 42), .fieldAddr 27 (.tmp 1) 1, none, 0⟩,
  ⟨(some 43), .load 24 (.tmp 42), none, 4⟩,
  ⟨(some 44), .call { callee := .value (.func 57), args := #[.tmp 41, .tmp 43], argTypes := #[24, 24] }, none, 15⟩,
  ⟨(some 45), .load 24 (.tmp 4), none, 0⟩,
  ⟨(some 46), .binOp .eql 24 (.tmp 44) (.tmp 45) 24, none, 1267650600228229401496703205439⟩,
  ⟨(some 2), .assign (.tmp 46), none, 1267650600228229401496703205503⟩]
def L29 : LC := (.seq (.region L29r0) (.seq (.block 0 (.seq (.region L29r1) (.cond (.tmp 5) (.seq (.region L29r2) .ret) (.seq (.regionD L29r3) (.cond (.tmp 11) (.seq (.region L29r4) .ret) .skip))))) (.seq (.regionD L29r5) (.seq (.regionD L29r6) (.seq (.regionD L29r7) .ret)))))
theorem nt29 : Tryd.f29.ntmps = 47 := by kernel_rfl
theorem rs29 : Tryd.f29.results.toList = [.tmp 2] := by kernel_rfl
theorem lite29 : Tryd.f29.body.map (lite okDraw) = some L29 := by kernel_rfl
def L32r0 : List AOp := [
  ⟨(some 2), .alloc 23, none, 0⟩]
def L32r1 : List AOp := [
  ⟨(some 3), .alloc 23, none, 0⟩]
def L32r2 : List AOp := [
  ⟨(some 4), .assign (.const (.int .i64 0)), none, 0⟩]
def L32r3 : List AOp := [
  ⟨(some 5), .move (.tmp 4), none, 0⟩,
  ⟨(some 6), .binOp .lss 3 (.tmp 5) (.const (.int .i64 12)) 3, none, 0⟩,
  ⟨(some 7), .move (.tmp 6), none, 0⟩,
  ⟨(some 8), .move (.tmp 4), (some (7, true)), 0⟩,
  ⟨(some 9), .move (.tmp 0), (some (7, true)), 0⟩,
  ⟨(some 10), .call { callee := .builtin .len, args := #[.tmp 9], argTypes := #[31] }, (some (7, true)), 0⟩,
  ⟨(some 11), .binOp .lss 3 (.tmp 8) (.tmp 10) 3, (some (7, true)), 0⟩,
  ⟨(some 12), .pick (.tmp 7) (.tmp 11) (.const (.bool false)), none, 0⟩]
def L32r5 : List AOp := [
  ⟨(some 15), .move (.tmp 4), none, 0⟩,
  ⟨(some 16), .binOp .rem 3 (.tmp 15) (.const (.int .i64 2)) 3, none, 0⟩,
  ⟨(some 17), .binOp .eql 3 (.tmp 16) (.const (.int .i64 0)) 3, none, 0⟩]
def L32r6 : List AOp := [
  ⟨(some 18), .move (.tmp 4), none, 0⟩,
  ⟨(some 19), .binOp .quo 3 (.tmp 18) (.const (.int .i64 2)) 3, none, 0⟩,
  ⟨(some 20), .move (.tmp 0), none, 0⟩,
  ⟨(some 21), .move (.tmp 4), none, 0⟩,
  ⟨(some 22), .indexAddr 31 (.tmp 20) (.tmp 21), none, 0⟩,
  ⟨(some 23), .load 22 (.tmp 22), none, 0⟩,
  ⟨(some 24), .indexAddr 23 (.tmp 3) (.tmp 19), none, 0⟩,
  ⟨none, .store 22 (.tmp 24) (.tmp 23), none, 0⟩]
def L32r7 : List AOp := [
  ⟨(some 25), .move (.tmp 4), none, 0⟩,
  ⟨(some 26), .binOp .quo 3 (.tmp 25) (.const (.int .i64 2)) 3, none, 1⟩,
  ⟨(some 27), .move (.tmp 4), none, 0⟩,
  ⟨(some 28), .binOp .quo 3 (.tmp 27) (.const (.int .i64 2)) 3, none, 4⟩,
  ⟨(some 29), .indexAddr 23 (.tmp 3) (.tmp 28), none, 12⟩,
  ⟨(some 30), .load 22 (.tmp 29), none, 28⟩,
  ⟨(some 31), .move (.tmp 0), none, 0⟩,
  ⟨(some 32), .move (.tmp 4), none, 0⟩,
  ⟨(some 33), .indexAddr 31 (.tmp 31) (.tmp 32), none, 192⟩,
  ⟨(some 34), .load 22 (.tmp 33), none, 448⟩,
  ⟨(some 35), .binOp .mul 22 (.tmp 34) (.const (.int .u64 4294967296)) 22, none, 960⟩,
  ⟨(some 36), .binOp .add 22 (.tmp 30) (.tmp 35) 22, none, 2044⟩,
  ⟨(some 37), .indexAddr 23 (.tmp 3) (.tmp 26), none, 1267650600228229401496703209471⟩,
  ⟨none, .store 22 (.tmp 37) (.tmp 36), none, 1267650600228229401496703213567⟩]
def L32r4 : List AOp := [
  ⟨(some 13), .move (.tmp 4), none, 0⟩,
  ⟨(some 14), .binOp .add 3 (.tmp 13) (.const (.int .i64 1)) 3, none, 0⟩,
  ⟨(some 4), .assign (.tmp 14), none, 0⟩]
def L32r8 : List AOp := [
  ⟨(some 38), .load 23 (.tmp 3), none, 0⟩,
  ⟨none, .store 23 (.tmp 2) (.tmp 38), none, 0⟩]
def L32 : LC := (.seq (.region L32r0) (.seq (.region L32r1) (.seq (.seq (.region L32r2) (.block 0 (.loop (.seq (.seq (.region L32r3) (.cond (.tmp 12) .skip (.exit 0))) (.seq (.block 1 (.seq (.region L32r5) (.cond (.tmp 17) (.region L32r6) (.regionD L32r7)))) (.region L32r4)))))) (.seq (.region L32r8) .ret))))
theorem nt32 : Tryd.f32.ntmps = 39 := by kernel_rfl
theorem rs32 : Tryd.f32.results.toList = [.cell 2 23] := by kernel_rfl
theorem lite32 : Tryd.f32.body.map (lite okDraw) = some L32 := by kernel_rfl
def L35r0 : List AOp := [
  ⟨(some 2), .box 24 (.tmp 0), none, 0⟩,
  ⟨(some 3), .box 24 (.tmp 1), none, 0⟩,
  ⟨(some 4), .alloc 24, none, 0⟩]
def L35r1 : List AOp := [
  ⟨(some 5), .load 24 (.tmp 2), none, 0⟩,
  ⟨(some 6), .load 24 (.tmp 3), none, 0⟩,
  ⟨(some 7), .load 82 (.global 1), none, 0⟩,
  ⟨(some 8), .call { callee := .value (.func 61), args := #[.tmp 5, .tmp 6, .tmp 7], argTypes := #[24, 24, 82] }, none, 0⟩,
  ⟨none, .store 24 (.tmp 4) (.tmp 8), none, 0⟩]
def L35 : LC := (.seq (.region L35r0) (.seq (.region L35r1) .ret))
theorem nt35 : Tryd.f35.ntmps = 9 := by kernel_rfl
theorem rs35 : Tryd.f35.results.toList = [.cell 4 24] := by kernel_rfl
theorem lite35 : Tryd.f35.body.map (lite okDraw) = some L35 := by kernel_rfl
def L37r0 : List AOp := [
  ⟨(some 3), .box 24 (.tmp 0), none, 0⟩,
  ⟨(some 4), .box 65 (.tmp 1), none, 0⟩,
  ⟨(some 6), .alloc 65, none, 0⟩]
def L37r1 : List AOp := [
  ⟨(some 10), .build 27 #[(2, .const (.bool true))], none, 0⟩,
  ⟨(some 11), .call { callee := .value (.func 38), args := #[.tmp 10], argTypes := #[27] }, none, 0⟩,
  ⟨(some 7), .alloc 65, none, 0⟩,
  ⟨none, .store 65 (.tmp 7) (.tmp 11), none, 0⟩]
def L37r2 : List AOp := [
  ⟨(some 8), .assign (.const (.int .i64 383)), none, 0⟩]
def L37r3 : List AOp := [
  ⟨(some 12), .move (.tmp 8), none, 0⟩,
  ⟨(some 13), .binOp .geq 3 (.tmp 12) (.const (.int .i64 0)) 3, none, 0⟩]
def L37r5 : List AOp := [
  ⟨(some 16), .move (.tmp 2), none, 0⟩,
  ⟨(some 17), .call { callee := .value (.tmp 16), args := #[.const (.int .i64 1)], argTypes := #[3] }, none, 0⟩]
def L37r6 : List AOp := [
  ⟨(some 18), .load 65 (.tmp 7), none, 0⟩,
  ⟨(some 19), .load 65 (.tmp 7), none, 0⟩,
  ⟨(some 20), .call { callee := .value (.func 45), args := #[.tmp 18, .tmp 19], argTypes := #[65, 65] }, none, 0⟩,
  ⟨none, .store 65 (.tmp 7) (.tmp 20), none, 0⟩]
def L37r7 : List AOp := [
  ⟨(some 21), .move (.tmp 2), none, 0⟩,
  ⟨(some 22), .call { callee := .value (.tmp 21), args := #[.const (.int .i64 2)], argTypes := #[3] }, none, 0⟩]
def L37r8 : List AOp := [
  ⟨(some 23), .load 65 (.tmp 7), none, 0⟩,
  ⟨(some 24), .load 65 (.tmp 4), none, 0⟩,
  ⟨(some 25), .call { callee := .value (.func 45), args := #[.tmp 23, .tmp 24], argTypes := #[65, 65] }, none, 0⟩,
  ⟨(some 9), .alloc 65, none, 0⟩,
  ⟨none, .store 65 (.tmp 9) (.tmp 25), none, 0⟩]
def L37r9 : List AOp := [
  ⟨(some 26), .move (.tmp 2), none, 0⟩,
  ⟨(some 27), .call { callee := .value (.tmp 26), args := #[.const (.int .i64 3)], argTypes := #[3] }, none, 0⟩]
def L37r10 : List AOp := [
  ⟨(some 28), .load 24 (.tmp 3), none, 0⟩,
  ⟨(some 29), .move (.tmp 8), none, 0⟩,
  ⟨(some 30), .call { callee := .value (.func 64), args := #[.tmp 28, .tmp 29], argTypes := #[24, 3] }, none, 3⟩,
  ⟨(some 31), .load 65 (.tmp 7), none, 0⟩,
  ⟨(some 32), .load 65 (.tmp 9), none, 0⟩,
  ⟨(some 33), .call { callee := .value (.func 65), args := #[.tmp 30, .tmp 31, .tmp 32], argTypes := #[22, 65, 65] }, none, 1267650600228229401496703205407⟩,
  ⟨none, .store 65 (.tmp 7) (.tmp 33), none, 1267650600228229401496703205439⟩]
def L37r4 : List AOp := [
  ⟨(some 14), .move (.tmp 8), none, 0⟩,
  ⟨(some 15), .binOp .sub 3 (.tmp 14) (.const (.int .i64 1)) 3, none, 0⟩,
  ⟨(some 8), .assign (.tmp 15), none, 0⟩]
def L37r11 : List AOp := [
  ⟨(some 34), .load 65 (.tmp 7), none, 0⟩,
  ⟨none, .store 65 (.tmp 6) (.tmp 34), none, 0⟩]
def L37 : LC := (.seq (.region L37r0) (.seq (.region L37r1) (.seq (.seq (.region L37r2) (.block 0 (.loop (.seq (.seq (.region L37r3) (.cond (.tmp 13) .skip (.exit 0))) (.seq (.block 1 (.seq (.region L37r5) (.seq (.region L37r6) (.seq (.region L37r7) (.seq (.region L37r8) (.seq (.region L37r9) (.regionD L37r10))))))) (.region L37r4)))))) (.seq (.region L37r11) .ret))))
theorem nt37 : Tryd.f37.ntmps = 35 := by kernel_rfl
theorem rs37 : Tryd.f37.results.toList = [.cell 6 65] := by kernel_rfl
theorem lite37 : Tryd.f37.body.map (lite okDraw) = some L37 := by kernel_rfl
def L38r0 : List AOp := [
  ⟨(some 1), .box 27 (.tmp 0), none, 0⟩,
  ⟨(some 2), .alloc 65, none, 0⟩]
def L38r1 : List AOp := [
  ⟨(some 3), .fieldAddr 27 (.tmp 1) 2, none, 0⟩,
  ⟨(some 4), .load 4 (.tmp 3), none, 0⟩]
def L38r2 : List AOp := [
  ⟨(some 5), .load 24 (.global 2), none, 0⟩,
  ⟨(some 6), .build 65 #[(1, .tmp 5)], none, 0⟩,
  ⟨none, .store 65 (.tmp 2) (.tmp 6), none, 0⟩]
def L38r3 : List AOp := [
  ⟨(some 7), .fieldAddr 27 (.tmp 1) 0, none, 0⟩,
  ⟨(some 8), .load 24 (.tmp 7), none, 1⟩,
  ⟨(some 9), .fieldAddr 82 (.global 3) 2, none, 0⟩,
  ⟨(some 10), .load 24 (.tmp 9), none, 4⟩,
  ⟨(some 11), .call { callee := .value (.func 66), args := #[.tmp 8, .tmp 10], argTypes := #[24, 24] }, none, 15⟩,
  ⟨(some 12), .fieldAddr 27 (.tmp 1) 1, none, 0⟩,
  ⟨(some 13), .load 24 (.tmp 12), none, 32⟩,
  ⟨(some 14), .fieldAddr 82 (.global 3) 2, none, 0⟩,
  ⟨(some 15), .load 24 (.tmp 14), none, 128⟩,
  ⟨(some 16), .call { callee := .value (.func 66), args := #[.tmp 13, .tmp 15], argTypes := #[24, 24] }, none, 511⟩,
  ⟨(some 17), .load 24 (.global 2), none, 0⟩,
  ⟨(some 18), .build 65 #[(0, .tmp 11), (1, .tmp 16), (2, .tmp 17)], none, 1267650600228229401496703207423⟩,
  ⟨none, .store 65 (.tmp 2) (.tmp 18), none, 1267650600228229401496703209471⟩]
def L38 : LC := (.seq (.region L38r0) (.seq (.seq (.region L38r1) (.cond (.tmp 4) (.seq (.region L38r2) .ret) .skip)) (.seq (.regionD L38r3) .ret)))
theorem nt38 : Tryd.f38.ntmps = 19 := by kernel_rfl
theorem rs38 : Tryd.f38.results.toList = [.cell 2 65] := by kernel_rfl
theorem lite38 : Tryd.f38.body.map (lite okDraw) = some L38 := by kernel_rfl
def L39r0 : List AOp := [
  ⟨(some 0), .alloc 27, none, 0⟩]
def L39r1 : List AOp := [
  ⟨(some 1), .load 27 (.global 4), none, 0⟩,
  ⟨none, .store 27 (.tmp 0) (.tmp 1), none, 0⟩]
def L39 : LC := (.seq (.region L39r0) (.seq (.region L39r1) .ret))
theorem nt39 : Tryd.f39.ntmps = 2 := by kernel_rfl
theorem rs39 : Tryd.f39.results.toList = [.cell 0 27] := by kernel_rfl
theorem lite39 : Tryd.f39.body.map (lite okDraw) = some L39 := by kernel_rfl

def L40 : LC := .skip
theorem nt40 : Tryd.f40.ntmps = 2 := by kernel_rfl
theorem rs40 : Tryd.f40.results.toList = [] := by kernel_rfl
theorem lite40 : Tryd.f40.body.map (lite okDraw) = some L40 := by kernel_rfl
def L41r0 : List AOp := [
  ⟨(some 1), .box 65 (.tmp 0), none, 0⟩,
  ⟨(some 2), .alloc 27, none, 0⟩]
def L41r1 : List AOp := [
  ⟨(some 4), .fieldAddr 65 (.tmp 1) 2, none, 0⟩,
  ⟨(some 5), .load 24 (.tmp 4), none, 0⟩,
  ⟨(some 6), .build 24 #[], none, 0⟩,
  ⟨(some 7), .binOp .eql 24 (.tmp 5) (.tmp 6) 24, none, 0⟩]
def L41r2 : List AOp := [
  ⟨(some 8), .build 27 #[(2, .const (.bool true))], none, 0⟩,
  ⟨none, .store 27 (.tmp 2) (.tmp 8), none, 0⟩]
def L41r3 : List AOp := [
  ⟨(some 9), .fieldAddr 65 (.tmp 1) 2, none, 0⟩,
  ⟨(some 10), .load 24 (.tmp 9), none, 0⟩,
  ⟨(some 11), .build 24 #[(0, .const (.int .u64 1))], none, 0⟩,
  ⟨(some 12), .call { callee := .value (.func 66), args := #[.tmp 10, .tmp 11], argTypes := #[24, 24] }, none, 0⟩,
  ⟨(some 13), .call { callee := .value (.func 67), args := #[.tmp 12], argTypes := #[24] }, none, 0⟩,
  ⟨(some 3), .alloc 24, none, 0⟩,
  ⟨none, .store 24 (.tmp 3) (.tmp 13), none, 0⟩]
def L41r4 : List AOp := [
  ⟨(some 14), .fieldAddr 65 (.tmp 1) 0, none, 0⟩,
  ⟨(some 15), .load 24 (.tmp 14), none, 1⟩,
  ⟨(some 16), .load 24 (.tmp 3), none, 0⟩,
  ⟨(some 17), .call { callee := .value (.func 66), args := #[.tmp 15, .tmp 16], argTypes := #[24, 24] }, none, 7⟩,
  ⟨(some 18), .fieldAddr 65 (.tmp 1) 1, none, 0⟩,
  ⟨(some 19), .load 24 (.tmp 18), none, 16⟩,
  ⟨(some 20), .load 24 (.tmp 3), none, 0⟩,
  ⟨(some 21), .call { callee := .value (.func 66), args := #[.tmp 19, .tmp 20], argTypes := #[24, 24] }, none, 1267650600228229401496703205503⟩,
  ⟨(some 22), .build 27 #[(0, .tmp 17), (1, .tmp 21)], none, 1267650600228229401496703205631⟩,
  ⟨none, .store 27 (.tmp 2) (.tmp 22), none, 1267650600228229401496703205887⟩]
def L41 : LC := (.seq (.region L41r0) (.seq (.seq (.region L41r1) (.cond (.tmp 7) (.seq (.region L41r2) .ret) .skip)) (.seq (.region L41r3) (.seq (.regionD L41r4) .ret))))
theorem nt41 : Tryd.f41.ntmps = 23 := by kernel_rfl
theorem rs41 : Tryd.f41.results.toList = [.cell 2 27] := by kernel_rfl
theorem lite41 : Tryd.f41.body.map (lite okDraw) = some L41 := by kernel_rfl
def L42r0 : List AOp := [
  ⟨(some 2), .assign (.const (.int .i64 0)), none, 0⟩]
def L42r1 : List AOp := [
  ⟨(some 5), .move (.tmp 0), none, 0⟩,
  ⟨(some 6), .call { callee := .builtin .len, args := #[.tmp 5], argTypes := #[31] }, none, 0⟩,
  ⟨(some 7), .binOp .eql 3 (.tmp 6) (.const (.int .i64 0)) 3, none, 0⟩]
def L42r2 : List AOp := [
  ⟨(some 2), .assign (.const (.int .i64 0)), none, 0⟩]
def L42r3 : List AOp := [
  ⟨(some 8), .move (.tmp 0), none, 0⟩,
  ⟨(some 9), .call { callee := .builtin .len, args := #[.tmp 8], argTypes := #[31] }, none, 0⟩,
  ⟨(some 10), .binOp .sub 3 (.tmp 9) (.const (.int .i64 1)) 3, none, 0⟩,
  ⟨(some 11), .binOp .mul 3 (.const (.int .i64 32)) (.tmp 10) 3, none, 0⟩,
  ⟨(some 3), .assign (.tmp 11), none, 0⟩]
def L42r4 : List AOp := [
  ⟨(some 12), .move (.tmp 0), none, 0⟩,
  ⟨(some 13), .move (.tmp 0), none, 0⟩,
  ⟨(some 14), .call { callee := .builtin .len, args := #[.tmp 13], argTypes := #[31] }, none, 0⟩,
  ⟨(some 15), .binOp .sub 3 (.tmp 14) (.const (.int .i64 1)) 3, none, 0⟩,
  ⟨(some 16), .indexAddr 31 (.tmp 12) (.tmp 15), none, 0⟩,
  ⟨(some 17), .load 22 (.tmp 16), none, 0⟩,
  ⟨(some 4), .assign (.tmp 17), none, 0⟩]
def L42r5 : List AOp := [
  ⟨(some 18), .move (.tmp 4), none, 0⟩,
  ⟨(some 19), .binOp .gtr 22 (.tmp 18) (.const (.int .u64 0)) 22, none, 0⟩]
def L42r6 : List AOp := [
  ⟨(some 20), .move (.tmp 4), none, 0⟩,
  ⟨(some 21), .binOp .quo 22 (.tmp 20) (.const (.int .u64 2)) 22, none, 0⟩,
  ⟨(some 4), .assign (.tmp 21), none, 0⟩]
def L42r7 : List AOp := [
  ⟨(some 22), .move (.tmp 3), none, 0⟩,
  ⟨(some 23), .binOp .add 3 (.tmp 22) (.const (.int .i64 1)) 3, none, 0⟩,
  ⟨(some 3), .assign (.tmp 23), none, 0⟩]
def L42r8 : List AOp := [
  ⟨(some 24), .move (.tmp 3), none, 0⟩,
  ⟨(some 2), .assign (.tmp 24), none, 0⟩]
def L42 : LC := (.seq (.region L42r0) (.seq (.seq (.region L42r1) (.cond (.tmp 7) (.seq (.region L42r2) .ret) .skip)) (.seq (.region L42r3) (.seq (.region L42r4) (.seq (.block 0 (.loop (.seq (.seq (.region L42r5) (.cond (.tmp 19) .skip (.exit 0))) (.block 1 (.seq (.region L42r6) (.region L42r7)))))) (.seq (.region L42r8) .ret))))))
theorem nt42 : Tryd.f42.ntmps = 25 := by kernel_rfl
theorem rs42 : Tryd.f42.results.toList = [.tmp 2] := by kernel_rfl
theorem lite42 : Tryd.f42.body.map (lite okDraw) = some L42 := by kernel_rfl
def L43r0 : List AOp := [
  ⟨(some 4), .assign (.const (.bool false)), none, 0⟩]
def L43r1 : List AOp := [
  ⟨(some 7), .move (.tmp 1), none, 0⟩,
  ⟨(some 8), .binOp .lss 3 (.tmp 7) (.const (.int .i64 0)) 3, none, 0⟩,
  ⟨(some 9), .move (.tmp 8), none, 0⟩,
  ⟨(some 10), .move (.tmp 1), (some (9, false)), 0⟩,
  ⟨(some 11), .binOp .quo 3 (.tmp 10) (.const (.int .i64 32)) 3, (some (9, false)), 0⟩,
  ⟨(some 12), .move (.tmp 0), (some (9, false)), 0⟩,
  ⟨(some 13), .call { callee := .builtin .len, args := #[.tmp 12], argTypes := #[31] }, (some (9, false)), 0⟩,
  ⟨(some 14), .binOp .geq 3 (.tmp 11) (.tmp 13) 3, (some (9, false)), 0⟩,
  ⟨(some 15), .pick (.tmp 9) (.const (.bool true)) (.tmp 14), none, 0⟩]
def L43r2 : List AOp := [
  ⟨(some 4), .assign (.const (.bool false)), none, 0⟩]
def L43r3 : List AOp := [
  ⟨(some 16), .move (.tmp 0), none, 0⟩,
  ⟨(some 17), .move (.tmp 1), none, 0⟩,
  ⟨(some 18), .binOp .quo 3 (.tmp 17) (.const (.int .i64 32)) 3, none, 0⟩,
  ⟨(some 19), .indexAddr 31 (.tmp 16) (.tmp 18), none, 0⟩,
  ⟨(some 20), .load 22 (.tmp 19), none, 0⟩,
  ⟨(some 5), .assign (.tmp 20), none, 0⟩]
def L43r4 : List AOp := [
  ⟨(some 6), .assign (.const (.int .i64 0)), none, 0⟩]
def L43r5 : List AOp := [
  ⟨(some 21), .move (.tmp 6), none, 0⟩,
  ⟨(some 22), .move (.tmp 1), none, 0⟩,
  ⟨(some 23), .binOp .rem 3 (.tmp 22) (.const (.int .i64 32)) 3, none, 0⟩,
  ⟨(some 24), .binOp .lss 3 (.tmp 21) (.tmp 23) 3, none, 0⟩]
def L43r7 : List AOp := [
  ⟨(some 27), .move (.tmp 5), none, 0⟩,
  ⟨(some 28), .binOp .quo 22 (.tmp 27) (.const (.int .u64 2)) 22, none, 0⟩,
  ⟨(some 5), .assign (.tmp 28), none, 0⟩]
def L43r6 : List AOp := [
  ⟨(some 25), .move (.tmp 6), none, 0⟩,
  ⟨(some 26), .binOp .add 3 (.tmp 25) (.const (.int .i64 1)) 3, none, 0⟩,
  ⟨(some 6), .assign (.tmp 26), none, 0⟩]
def L43r8 : List AOp := [
  ⟨(some 29), .move (.tmp 5), none, 0⟩,
  ⟨(some 30), .binOp .rem 22 (.tmp 29) (.const (.int .u64 2)) 22, none, 0⟩,
  ⟨(some 31), .binOp .eql 22 (.tmp 30) (.const (.int .u64 1)) 22, none, 0⟩,
  ⟨(some 4), .assign (.tmp 31), none, 0⟩]
def L43 : LC := (.seq (.region L43r0) (.seq (.seq (.region L43r1) (.cond (.tmp 15) (.seq (.region L43r2) .ret) .skip)) (.seq (.region L43r3) (.seq (.seq (.region L43r4) (.block 0 (.loop (.seq (.seq (.region L43r5) (.cond (.tmp 24) .skip (.exit 0))) (.seq (.block 1 (.region L43r7)) (.region L43r6)))))) (.seq (.region L43r8) .ret)))))
theorem nt43 : Tryd.f43.ntmps = 32 := by kernel_rfl
theorem rs43 : Tryd.f43.results.toList = [.tmp 4] := by kernel_rfl
theorem lite43 : Tryd.f43.body.map (lite okDraw) = some L43 := by kernel_rfl
def L44r0 : List AOp := [
  ⟨(some 2), .assign (.const (.slice none 0 0)), none, 0⟩]
def L44r1 : List AOp := [
  ⟨(some 3), .assign (.const (.slice none 0 0)), none, 0⟩]
def L44r2 : List AOp := [
  ⟨(some 4), .assign (.const (.int .i64 0)), none, 0⟩]
def L44r3 : List AOp := [
  ⟨(some 5), .move (.tmp 4), none, 0⟩,
  ⟨(some 6), .move (.tmp 0), none, 0⟩,
  ⟨(some 7), .call { callee := .builtin .len, args := #[.tmp 6], argTypes := #[30] }, none, 0⟩,
  ⟨(some 8), .binOp .lss 3 (.tmp 5) (.tmp 7) 3, none, 0⟩]
def L44r5 : List AOp := [
  ⟨(some 11), .move (.tmp 3), none, 0⟩,
  ⟨(some 12), .move (.tmp 0), none, 0⟩,
  ⟨(some 13), .move (.tmp 4), none, 0⟩,
  ⟨(some 14), .indexAddr 30 (.tmp 12) (.tmp 13), none, 6⟩,
  ⟨(some 15), .load 22 (.tmp 14), none, 14⟩,
  ⟨(some 16), .binOp .rem 22 (.tmp 15) (.const (.int .u64 4294967296)) 22, none, 30⟩,
  ⟨(some 17), .move (.tmp 0), none, 0⟩,
  ⟨(some 18), .move (.tmp 4), none, 0⟩,
  ⟨(some 19), .indexAddr 30 (.tmp 17) (.tmp 18), none, 192⟩,
  ⟨(some 20), .load 22 (.tmp 19), none, 448⟩,
  ⟨(some 21), .binOp .quo 22 (.tmp 20) (.const (.int .u64 4294967296)) 22, none, 960⟩,
  ⟨(some 22), .buildSlice 31 2 #[(0, .tmp 16), (1, .tmp 21)], none, 2046⟩,
  ⟨(some 23), .call { callee := .builtin .append, args := #[.tmp 11, .tmp 22], argTypes := #[31, 31] }, none, 1267650600228229401496703209471⟩,
  ⟨(some 3), .assign (.tmp 23), none, 1267650600228229401496703213567⟩]
def L44r4 : List AOp := [
  ⟨(some 9), .move (.tmp 4), none, 0⟩,
  ⟨(some 10), .binOp .add 3 (.tmp 9) (.const (.int .i64 1)) 3, none, 0⟩,
  ⟨(some 4), .assign (.tmp 10), none, 0⟩]
def L44r6 : List AOp := [
  ⟨(some 24), .move (.tmp 3), none, 0⟩,
  ⟨(some 25), .call { callee := .value (.func 68), args := #[.tmp 24], argTypes := #[31] }, none, 0⟩,
  ⟨(some 2), .assign (.tmp 25), none, 0⟩]
def L44 : LC := (.seq (.region L44r0) (.seq (.region L44r1) (.seq (.seq (.region L44r2) (.block 0 (.loop (.seq (.seq (.region L44r3) (.cond (.tmp 8) .skip (.exit 0))) (.seq (.block 1 (.regionD L44r5)) (.region L44r4)))))) (.seq (.region L44r6) .ret))))
theorem nt44 : Tryd.f44.ntmps = 26 := by kernel_rfl
theorem rs44 : Tryd.f44.results.toList = [.tmp 2] := by kernel_rfl
theorem lite44 : Tryd.f44.body.map (lite okDraw) = some L44 := by kernel_rfl
def L45r0 : List AOp := [
  ⟨(some 2), .box 65 (.tmp 0), none, 0⟩,
  ⟨(some 3), .box 65 (.tmp 1), none, 0⟩,
  ⟨(some 4), .alloc 65, none, 0⟩]
def L45r1 : List AOp := [
  ⟨(some 13), .fieldAddr 65 (.tmp 2) 0, none, 0⟩,
  ⟨(some 14), .load 24 (.tmp 13), none, 1⟩,
  ⟨(some 15), .fieldAddr 65 (.tmp 3) 0, none, 0⟩,
  ⟨(some 16), .load 24 (.tmp 15), none, 4⟩,
  ⟨(some 17), .call { callee := .value (.func 66), args := #[.tmp 14, .tmp 16], argTypes := #[24, 24] }, none, 15⟩,
  ⟨(some 18), .fieldAddr 65 (.tmp 2) 1, none, 0⟩,
  ⟨(some 19), .load 24 (.tmp 18), none, 32⟩,
  ⟨(some 20), .fieldAddr 65 (.tmp 3) 1, none, 0⟩,
  ⟨(some 21), .load 24 (.tmp 20), none, 128⟩,
  ⟨(some 22), .call { callee := .value (.func 66), args := #[.tmp 19, .tmp 21], argTypes := #[24, 24] }, none, 511⟩,
  ⟨(some 23), .fieldAddr 65 (.tmp 2) 2, none, 0⟩,
  ⟨(some 24), .load 24 (.tmp 23), none, 1024⟩,
  ⟨(some 25), .fieldAddr 65 (.tmp 3) 2, none, 0⟩,
  ⟨(some 26), .load 24 (.tmp 25), none, 4096⟩,
  ⟨(some 27), .call { callee := .value (.func 66), args := #[.tmp 24, .tmp 26], argTypes := #[24, 24] }, none, 16383⟩,
  ⟨(some 5), .alloc 24, none, 0⟩,
  ⟨(some 6), .alloc 24, none, 0⟩,
  ⟨(some 7), .alloc 24, none, 0⟩,
  ⟨none, .store 24 (.tmp 5) (.tmp 17), none, 1267650600228229401496703467519⟩,
  ⟨none, .store 24 (.tmp 6) (.tmp 22), none, 1267650600228229401496703729663⟩,
  ⟨none, .store 24 (.tmp 7) (.tmp 27), none, 1267650600228229401496704253951⟩]
def L45r2 : List AOp := [
  ⟨(some 28), .fieldAddr 65 (.tmp 2) 0, none, 0⟩,
  ⟨(some 29), .load 24 (.tmp 28), none, 1⟩,
  ⟨(some 30), .fieldAddr 65 (.tmp 2) 1, none, 0⟩,
  ⟨(some 31), .load 24 (.tmp 30), none, 4⟩,
  ⟨(some 32), .call { callee := .value (.func 70), args := #[.tmp 29, .tmp 31], argTypes := #[24, 24] }, none, 15⟩,
  ⟨(some 33), .fieldAddr 65 (.tmp 3) 0, none, 0⟩,
  ⟨(some 34), .load 24 (.tmp 33), none, 32⟩,
  ⟨(some 35), .fieldAddr 65 (.tmp 3) 1, none, 0⟩,
  ⟨(some 36), .load 24 (.tmp 35), none, 128⟩,
  ⟨(some 37), .call { callee := .value (.func 70), args := #[.tmp 34, .tmp 36], argTypes := #[24, 24] }, none, 511⟩,
  ⟨(some 38), .call { callee := .value (.func 66), args := #[.tmp 32, .tmp 37], argTypes := #[24, 24] }, none, 1023⟩,
  ⟨(some 39), .load 24 (.tmp 5), none, 0⟩,
  ⟨(some 40), .load 24 (.tmp 6), none, 0⟩,
  ⟨(some 41), .call { callee := .value (.func 70), args := #[.tmp 39, .tmp 40], argTypes := #[24, 24] }, none, 8191⟩,
  ⟨(some 42), .call { callee := .value (.func 69), args := #[.tmp 38, .tmp 41], argTypes := #[24, 24] }, none, 16383⟩,
  ⟨(some 8), .alloc 24, none, 0⟩,
  ⟨none, .store 24 (.tmp 8) (.tmp 42), none, 1267650600228229401496703270911⟩]
def L45r3 : List AOp := [
  ⟨(some 43), .fieldAddr 65 (.tmp 2) 1, none, 0⟩,
  ⟨(some 44), .load 24 (.tmp 43), none, 1⟩,
  ⟨(some 45), .fieldAddr 65 (.tmp 2) 2, none, 0⟩,
  ⟨(some 46), .load 24 (.tmp 45), none, 4⟩,
  ⟨(some 47), .call { callee := .value (.func 70), args := #[.tmp 44, .tmp 46], argTypes := #[24, 24] }, none, 15⟩,
  ⟨(some 48), .fieldAddr 65 (.tmp 3) 1, none, 0⟩,
  ⟨(some 49), .load 24 (.tmp 48), none, 32⟩,
  ⟨(some 50), .fieldAddr 65 (.tmp 3) 2, none, 0⟩,
  ⟨(some 51), .load 24 (.tmp 50), none, 128⟩,
  ⟨(some 52), .call { callee := .value (.func 70), args := #[.tmp 49, .tmp 51], argTypes := #[24, 24] }, none, 511⟩,
  ⟨(some 53), .call { callee := .value (.func 66), args := #[.tmp 47, .tmp 52], argTypes := #[24, 24] }, none, 1023⟩,
  ⟨(some 54), .load 24 (.tmp 6), none, 0⟩,
  ⟨(some 55), .load 24 (.tmp 7), none, 0⟩,
  ⟨(some 56), .call { callee := .value (.func 70), args := #[.tmp 54, .tmp 55], argTypes := #[24, 24] }, none, 8191⟩,
  ⟨(some 57), .call { callee := .value (.func 69), args := #[.tmp 53, .tmp 56], argTypes := #[24, 24] }, none, 16383⟩,
  ⟨(some 9), .alloc 24, none, 0⟩,
  ⟨none, .store 24 (.tmp 9) (.tmp 57), none, 1267650600228229401496703270911⟩]
def L45r4 : List AOp := [
  ⟨(some 58), .fieldAddr 65 (.tmp 2) 0, none, 0⟩,
  ⟨(some 59), .load 24 (.tmp 58), none, 1⟩,
  ⟨(some 60), .fieldAddr 65 (.tmp 2) 2, none, 0⟩,
  ⟨(some 61), .load 24 (.tmp 60), none, 4⟩,
  ⟨(some 62), .call { callee := .value (.func 70), args := #[.tmp 59, .tmp 61], argTypes := #[24, 24] }, none, 15⟩,
  ⟨(some 63), .fieldAddr 65 (.tmp 3) 0, none, 0⟩,
  ⟨(some 64), .load 24 (.tmp 63), none, 32⟩,
  ⟨(some 65), .fieldAddr 65 (.tmp 3) 2, none, 0⟩,
  ⟨(some 66), .load 24 (.tmp 65), none, 128⟩,
  ⟨(some 67), .call { callee := .value (.func 70), args := #[.tmp 64, .tmp 66], argTypes := #[24, 24] }, none, 511⟩,
  ⟨(some 68), .call { callee := .value (.func 66), args := #[.tmp 62, .tmp 67], argTypes := #[24, 24] }, none, 1023⟩,
  ⟨(some 69), .load 24 (.tmp 5), none, 0⟩,
  ⟨(some 70), .load 24 (.tmp 7), none, 0⟩,
  ⟨(some 71), .call { callee := .value (.func 70), args := #[.tmp 69, .tmp 70], argTypes := #[24, 24] }, none, 8191⟩,
  ⟨(some 72), .call { callee := .value (.func 69), args := #[.tmp 68, .tmp 71], argTypes := #[24, 24] }, none, 16383⟩,
  ⟨(some 10), .alloc 24, none, 0⟩,
  ⟨none, .store 24 (.tmp 10) (.tmp 72), none, 1267650600228229401496703270911⟩]
def L45r5 : List AOp := [
  ⟨(some 73), .load 24 (.tmp 10), none, 0⟩,
  ⟨(some 74), .load 24 (.global 5), none, 0⟩,
  ⟨(some 75), .load 24 (.tmp 7), none, 0⟩,
  ⟨(some 76), .call { callee := .value (.func 66), args := #[.tmp 74, .tmp 75], argTypes := #[24, 24] }, none, 6⟩,
  ⟨(some 77), .call { callee := .value (.func 69), args := #[.tmp 73, .tmp 76], argTypes := #[24, 24] }, none, 15⟩,
  ⟨(some 78), .call { callee := .value (.func 71), args := #[.tmp 77], argTypes := #[24] }, none, 31⟩,
  ⟨(some 11), .alloc 24, none, 0⟩,
  ⟨none, .store 24 (.tmp 11) (.tmp 78), none, 1267650600228229401496703205503⟩]
def L45r6 : List AOp := [
  ⟨(some 79), .load 24 (.tmp 6), none, 0⟩,
  ⟨(some 80), .load 24 (.tmp 11), none, 0⟩,
  ⟨(some 81), .call { callee := .value (.func 69), args := #[.tmp 79, .tmp 80], argTypes := #[24, 24] }, none, 0⟩,
  ⟨(some 12), .alloc 24, none, 0⟩,
  ⟨none, .store 24 (.tmp 12) (.tmp 81), none, 0⟩]
def L45r7 : List AOp := [
  ⟨(some 82), .load 24 (.tmp 6), none, 0⟩,
  ⟨(some 83), .load 24 (.tmp 11), none, 0⟩,
  ⟨(some 84), .call { callee := .value (.func 70), args := #[.tmp 82, .tmp 83], argTypes := #[24, 24] }, none, 0⟩,
  ⟨none, .store 24 (.tmp 11) (.tmp 84), none, 0⟩]
def L45r8 : List AOp := [
  ⟨(some 85), .load 24 (.tmp 7), none, 0⟩,
  ⟨(some 86), .call { callee := .value (.func 71), args := #[.tmp 85], argTypes := #[24] }, none, 0⟩,
  ⟨none, .store 24 (.tmp 7) (.tmp 86), none, 0⟩]
def L45r9 : List AOp := [
  ⟨(some 87), .load 24 (.global 5), none, 0⟩,
  ⟨(some 88), .load 24 (.tmp 10), none, 0⟩,
  ⟨(some 89), .call { callee := .value (.func 66), args := #[.tmp 87, .tmp 88], argTypes := #[24, 24] }, none, 3⟩,
  ⟨(some 90), .load 24 (.tmp 7), none, 0⟩,
  ⟨(some 91), .call { callee := .value (.func 69), args := #[.tmp 89, .tmp 90], argTypes := #[24, 24] }, none, 15⟩,
  ⟨(some 92), .load 24 (.tmp 5), none, 0⟩,
  ⟨(some 93), .call { callee := .value (.func 69), args := #[.tmp 91, .tmp 92], argTypes := #[24, 24] }, none, 1267650600228229401496703205439⟩,
  ⟨(some 94), .call { callee := .value (.func 71), args := #[.tmp 93], argTypes := #[24] }, none, 1267650600228229401496703205503⟩,
  ⟨none, .store 24 (.tmp 10) (.tmp 94), none, 1267650600228229401496703205631⟩]
def L45r10 : List AOp := [
  ⟨(some 95), .load 24 (.tmp 5), none, 0⟩,
  ⟨(some 96), .call { callee := .value (.func 71), args := #[.tmp 95], argTypes := #[24] }, none, 1⟩,
  ⟨(some 97), .load 24 (.tmp 7), none, 0⟩,
  ⟨(some 98), .call { callee := .value (.func 69), args := #[.tmp 96, .tmp 97], argTypes := #[24, 24] }, none, 1267650600228229401496703205383⟩,
  ⟨none, .store 24 (.tmp 5) (.tmp 98), none, 1267650600228229401496703205391⟩]
def L45r11 : List AOp := [
  ⟨(some 99), .load 24 (.tmp 9), none, 0⟩,
  ⟨(some 100), .load 24 (.tmp 10), none, 0⟩,
  ⟨(some 101), .call { callee := .value (.func 66), args := #[.tmp 99, .tmp 100], argTypes := #[24, 24] }, none, 3⟩,
  ⟨(some 102), .load 24 (.tmp 5), none, 0⟩,
  ⟨(some 103), .load 24 (.tmp 10), none, 0⟩,
  ⟨(some 104), .call { callee := .value (.func 66), args := #[.tmp 102, .tmp 103], argTypes := #[24, 24] }, none, 1267650600228229401496703205407⟩,
  ⟨none, .store 24 (.tmp 6) (.tmp 101), none, 1267650600228229401496703205439⟩,
  ⟨none, .store 24 (.tmp 7) (.tmp 104), none, 1267650600228229401496703205503⟩]
def L45r12 : List AOp := [
  ⟨(some 105), .load 24 (.tmp 8), none, 0⟩,
  ⟨(some 106), .load 24 (.tmp 11), none, 0⟩,
  ⟨(some 107), .call { callee := .value (.func 66), args := #[.tmp 105, .tmp 106], argTypes := #[24, 24] }, none, 3⟩,
  ⟨(some 108), .load 24 (.tmp 6), none, 0⟩,
  ⟨(some 109), .call { callee := .value (.func 69), args := #[.tmp 107, .tmp 108], argTypes := #[24, 24] }, none, 15⟩,
  ⟨(some 110), .load 24 (.tmp 11), none, 0⟩,
  ⟨(some 111), .load 24 (.tmp 12), none, 0⟩,
  ⟨(some 112), .call { callee := .value (.func 66), args := #[.tmp 110, .tmp 111], argTypes := #[24, 24] }, none, 127⟩,
  ⟨(some 113), .load 24 (.tmp 7), none, 0⟩,
  ⟨(some 114), .call { callee := .value (.func 70), args := #[.tmp 112, .tmp 113], argTypes := #[24, 24] }, none, 511⟩,
  ⟨(some 115), .load 24 (.tmp 9), none, 0⟩,
  ⟨(some 116), .load 24 (.tmp 12), none, 0⟩,
  ⟨(some 117), .call { callee := .value (.func 66), args := #[.tmp 115, .tmp 116], argTypes := #[24, 24] }, none, 4095⟩,
  ⟨(some 118), .load 24 (.tmp 8), none, 0⟩,
  ⟨(some 119), .load 24 (.tmp 5), none, 0⟩,
  ⟨(some 120), .call { callee := .value (.func 66), args := #[.tmp 118, .tmp 119], argTypes := #[24, 24] }, none, 1267650600228229401496703238143⟩,
  ⟨(some 121), .call { callee := .value (.func 70), args := #[.tmp 117, .tmp 120], argTypes := #[24, 24] }, none, 1267650600228229401496703270911⟩,
  ⟨(some 122), .build 65 #[(0, .tmp 109), (1, .tmp 114), (2, .tmp 121)], none, 1267650600228229401496703336447⟩,
  ⟨none, .store 65 (.tmp 4) (.tmp 122), none, 1267650600228229401496703467519⟩]
def L45 : LC := (.seq (.region L45r0) (.seq (.regionD L45r1) (.seq (.regionD L45r2) (.seq (.regionD L45r3) (.seq (.regionD L45r4) (.seq (.regionD L45r5) (.seq (.region L45r6) (.seq (.region L45r7) (.seq (.region L45r8) (.seq (.regionD L45r9) (.seq (.regionD L45r10) (.seq (.regionD L45r11) (.seq (.regionD L45r12) .ret)))))))))))))
theorem nt45 : Tryd.f45.ntmps = 123 := by kernel_rfl
theorem rs45 : Tryd.f45.results.toList = [.cell 4 65] := by kernel_rfl
theorem lite45 : Tryd.f45.body.map (lite okDraw) = some L45 := by kernel_rfl
def L46r0 : List AOp := [
  ⟨(some 4), .assign (.const (.int .i64 0)), none, 0⟩]
def L46r1 : List AOp := [
  ⟨(some 6), .move (.tmp 0), none, 0⟩,
  ⟨(some 7), .call { callee := .builtin .len, args := #[.tmp 6], argTypes := #[31] }, none, 0⟩,
  ⟨(some 8), .move (.tmp 1), none, 0⟩,
  ⟨(some 9), .call { callee := .builtin .len, args := #[.tmp 8], argTypes := #[31] }, none, 0⟩,
  ⟨(some 10), .binOp .neq 3 (.tmp 7) (.tmp 9) 3, none, 0⟩]
def L46r2 : List AOp := [
  ⟨(some 11), .move (.tmp 0), none, 0⟩,
  ⟨(some 12), .call { callee := .builtin .len, args := #[.tmp 11], argTypes := #[31] }, none, 0⟩,
  ⟨(some 13), .move (.tmp 1), none, 0⟩,
  ⟨(some 14), .call { callee := .builtin .len, args := #[.tmp 13], argTypes := #[31] }, none, 0⟩,
  ⟨(some 15), .binOp .lss 3 (.tmp 12) (.tmp 14) 3, none, 0⟩]
def L46r3 : List AOp := [
  ⟨(some 4), .assign (.const (.int .i64 (-1))), none, 0⟩]
def L46r4 : List AOp := [
  ⟨(some 4), .assign (.const (.int .i64 1)), none, 0⟩]
def L46r5 : List AOp := [
  ⟨(some 16), .move (.tmp 0), none, 0⟩,
  ⟨(some 17), .call { callee := .builtin .len, args := #[.tmp 16], argTypes := #[31] }, none, 0⟩,
  ⟨(some 18), .binOp .sub 3 (.tmp 17) (.const (.int .i64 1)) 3, none, 0⟩,
  ⟨(some 5), .assign (.tmp 18), none, 0⟩]
def L46r6 : List AOp := [
  ⟨(some 19), .move (.tmp 5), none, 0⟩,
  ⟨(some 20), .binOp .geq 3 (.tmp 19) (.const (.int .i64 0)) 3, none, 0⟩]
def L46r8 : List AOp := [
  ⟨(some 23), .move (.tmp 0), none, 0⟩,
  ⟨(some 24), .move (.tmp 5), none, 0⟩,
  ⟨(some 25), .indexAddr 31 (.tmp 23) (.tmp 24), none, 3⟩,
  ⟨(some 26), .load 22 (.tmp 25), none, 7⟩,
  ⟨(some 27), .move (.tmp 1), none, 0⟩,
  ⟨(some 28), .move (.tmp 5), none, 0⟩,
  ⟨(some 29), .indexAddr 31 (.tmp 27) (.tmp 28), none, 48⟩,
  ⟨(some 30), .load 22 (.tmp 29), none, 112⟩,
  ⟨(some 31), .binOp .lss 22 (.tmp 26) (.tmp 30) 22, none, 1267650600228229401496703205631⟩]
def L46r9 : List AOp := [
  ⟨(some 4), .assign (.const (.int .i64 (-1))), none, 0⟩]
def L46r10 : List AOp := [
  ⟨(some 32), .move (.tmp 0), none, 0⟩,
  ⟨(some 33), .move (.tmp 5), none, 0⟩,
  ⟨(some 34), .indexAddr 31 (.tmp 32) (.tmp 33), none, 3⟩,
  ⟨(some 35), .load 22 (.tmp 34), none, 7⟩,
  ⟨(some 36), .move (.tmp 1), none, 0⟩,
  ⟨(some 37), .move (.tmp 5), none, 0⟩,
  ⟨(some 38), .indexAddr 31 (.tmp 36) (.tmp 37), none, 48⟩,
  ⟨(some 39), .load 22 (.tmp 38), none, 112⟩,
  ⟨(some 40), .binOp .gtr 22 (.tmp 35) (.tmp 39) 22, none, 1267650600228229401496703205631⟩]
def L46r11 : List AOp := [
  ⟨(some 4), .assign (.const (.int .i64 1)), none, 0⟩]
def L46r7 : List AOp := [
  ⟨(some 21), .move (.tmp 5), none, 0⟩,
  ⟨(some 22), .binOp .sub 3 (.tmp 21) (.const (.int .i64 1)) 3, none, 0⟩,
  ⟨(some 5), .assign (.tmp 22), none, 0⟩]
def L46r12 : List AOp := [
  ⟨(some 4), .assign (.const (.int .i64 0)), none, 0⟩]
def L46 : LC := (.seq (.region L46r0) (.seq (.seq (.region L46r1) (.cond (.tmp 10) (.seq (.seq (.region L46r2) (.cond (.tmp 15) (.seq (.region L46r3) .ret) .skip)) (.seq (.region L46r4) .ret)) .skip)) (.seq (.seq (.region L46r5) (.block 0 (.loop (.seq (.seq (.region L46r6) (.cond (.tmp 20) .skip (.exit 0))) (.seq (.block 1 (.seq (.seq (.regionD L46r8) (.cond (.tmp 31) (.seq (.region L46r9) .ret) .skip)) (.seq (.regionD L46r10) (.cond (.tmp 40) (.seq (.region L46r11) .ret) .skip)))) (.region L46r7)))))) (.seq (.region L46r12) .ret))))
theorem nt46 : Tryd.f46.ntmps = 41 := by kernel_rfl
theorem rs46 : Tryd.f46.results.toList = [.tmp 4] := by kernel_rfl
theorem lite46 : Tryd.f46.body.map (lite okDraw) = some L46 := by kernel_rfl
def L47r0 : List AOp := [
  ⟨(some 0), .assign (.const (.slice none 0 0)), none, 0⟩]
def L47r1 : List AOp := [
  ⟨(some 1), .buildSlice 31 12 #[(0, .const (.int .u64 4294967295)), (1, .const (.int .u64 0)), (2, .const (.int .u64 0)), (3, .const (.int .u64 4294967295)), (4, .const (.int .u64 4294967294)), (5, .const (.int .u64 4294967295)), (6, .const (.int .u64 4294967295)), (7, .const (.int .u64 4294967295)), (8, .const (.int .u64 4294967295)), (9, .const (.int .u64 4294967295)), (10, .const (.int .u64 4294967295)), (11, .const (.int .u64 4294967295))], none, 0⟩,
  ⟨(some 0), .assign (.tmp 1), none, 0⟩]
def L47 : LC := (.seq (.region L47r0) (.seq (.region L47r1) .ret))
theorem nt47 : Tryd.f47.ntmps = 2 := by kernel_rfl
theorem rs47 : Tryd.f47.results.toList = [.tmp 0] := by kernel_rfl
theorem lite47 : Tryd.f47.body.map (lite okDraw) = some L47 := by kernel_rfl
def L48r0 : List AOp := [
  ⟨(some 4), .assign (.const (.slice none 0 0)), none, 0⟩]
def L48r1 : List AOp := [
  ⟨(some 5), .move (.tmp 0), none, 0⟩,
  ⟨(some 6), .move (.tmp 1), none, 0⟩,
  ⟨(some 7), .call { callee := .value (.func 73), args := #[.tmp 5, .tmp 6], argTypes := #[31, 31] }, none, 0⟩,
  ⟨(some 8), .call { callee := .value (.func 72), args := #[.tmp 7], argTypes := #[31] }, none, 0⟩,
  ⟨(some 4), .assign (.tmp 8), none, 0⟩]
def L48 : LC := (.seq (.region L48r0) (.seq (.region L48r1) .ret))
theorem nt48 : Tryd.f48.ntmps = 9 := by kernel_rfl
theorem rs48 : Tryd.f48.results.toList = [.tmp 4] := by kernel_rfl
theorem lite48 : Tryd.f48.body.map (lite okDraw) = some L48 := by kernel_rfl
def L49r0 : List AOp := [
  ⟨(some 4), .assign (.const (.slice none 0 0)), none, 0⟩]
def L49r1 : List AOp := [
  ⟨(some 5), .move (.tmp 0), none, 0⟩,
  ⟨(some 6), .move (.tmp 1), none, 0⟩,
  ⟨(some 7), .call { callee := .value (.func 74), args := #[.tmp 5, .tmp 6], argTypes := #[31, 31] }, none, 0⟩,
  ⟨(some 8), .call { callee := .value (.func 72), args := #[.tmp 7], argTypes := #[31] }, none, 0⟩,
  ⟨(some 4), .assign (.tmp 8), none, 0⟩]
def L49 : LC := (.seq (.region L49r0) (.seq (.region L49r1) .ret))
theorem nt49 : Tryd.f49.ntmps = 9 := by kernel_rfl
theorem rs49 : Tryd.f49.results.toList = [.tmp 4] := by kernel_rfl
theorem lite49 : Tryd.f49.body.map (lite okDraw) = some L49 := by kernel_rfl
def L50r0 : List AOp := [
  ⟨(some 4), .assign (.const (.slice none 0 0)), none, 0⟩]
def L50r1 : List AOp := [
  ⟨(some 5), .move (.tmp 0), none, 0⟩,
  ⟨(some 6), .call { callee := .value (.func 72), args := #[.tmp 5], argTypes := #[31] }, none, 0⟩,
  ⟨(some 7), .call { callee := .value (.func 47), args := #[], argTypes := #[] }, none, 0⟩,
  ⟨(some 8), .call { callee := .value (.func 74), args := #[.tmp 6, .tmp 7], argTypes := #[31, 31] }, none, 0⟩,
  ⟨(some 9), .move (.tmp 1), none, 0⟩,
  ⟨(some 10), .call { callee := .value (.func 72), args := #[.tmp 9], argTypes := #[31] }, none, 0⟩,
  ⟨(some 11), .call { callee := .value (.func 75), args := #[.tmp 8, .tmp 10], argTypes := #[31, 31] }, none, 0⟩,
  ⟨(some 12), .call { callee := .value (.func 72), args := #[.tmp 11], argTypes := #[31] }, none, 0⟩,
  ⟨(some 4), .assign (.tmp 12), none, 0⟩]
def L50 : LC := (.seq (.region L50r0) (.seq (.region L50r1) .ret))
theorem nt50 : Tryd.f50.ntmps = 13 := by kernel_rfl
theorem rs50 : Tryd.f50.results.toList = [.tmp 4] := by kernel_rfl
theorem lite50 : Tryd.f50.body.map (lite okDraw) = some L50 := by kernel_rfl
def L51r0 : List AOp := [
  ⟨(some 0), .assign (.const (.slice none 0 0)), none, 0⟩]
def L51r1 : List AOp := [
  ⟨(some 1), .buildSlice 31 12 #[(0, .const (.int .u64 3555470063)), (1, .const (.int .u64 713410797)), (2, .const (.int .u64 2318324125)), (3, .const (.int .u64 3327539597)), (4, .const (.int .u64 1343457114)), (5, .const (.int .u64 51644559)), (6, .const (.int .u64 4269883666)), (7, .const (.int .u64 404593774)), (8, .const (.int .u64 3824692505)), (9, .const (.int .u64 2559444331)), (10, .const (.int .u64 3795773412)), (11, .const (.int .u64 3006345127))], none, 0⟩,
  ⟨(some 0), .assign (.tmp 1), none, 0⟩]
def L51 : LC := (.seq (.region L51r0) (.seq (.region L51r1) .ret))
theorem nt51 : Tryd.f51.ntmps = 2 := by kernel_rfl
theorem rs51 : Tryd.f51.results.toList = [.tmp 0] := by kernel_rfl
theorem lite51 : Tryd.f51.body.map (lite okDraw) = some L51 := by kernel_rfl
def L52r0 : List AOp := [
  ⟨(some 2), .assign (.const (.slice none 0 0)), none, 0⟩]
def L52r1 : List AOp := [
  ⟨(some 3), .move (.tmp 0), none, 0⟩,
  ⟨(some 4), .call { callee := .value (.func 47), args := #[], argTypes := #[] }, none, 0⟩,
  ⟨(some 5), .buildSlice 31 1 #[(0, .const (.int .u64 2))], none, 0⟩,
  ⟨(some 6), .call { callee := .value (.func 75), args := #[.tmp 4, .tmp 5], argTypes := #[31, 31] }, none, 0⟩,
  ⟨(some 7), .call { callee := .value (.func 47), args := #[], argTypes := #[] }, none, 0⟩,
  ⟨(some 8), .call { callee := .value (.func 76), args := #[.tmp 3, .tmp 6, .tmp 7], argTypes := #[31, 31, 31] }, none, 0⟩,
  ⟨(some 2), .assign (.tmp 8), none, 0⟩]
def L52 : LC := (.seq (.region L52r0) (.seq (.region L52r1) .ret))
theorem nt52 : Tryd.f52.ntmps = 9 := by kernel_rfl
theorem rs52 : Tryd.f52.results.toList = [.tmp 2] := by kernel_rfl
theorem lite52 : Tryd.f52.body.map (lite okDraw) = some L52 := by kernel_rfl
def L55r0 : List AOp := [
  ⟨(some 2), .box 24 (.tmp 0), none, 0⟩,
  ⟨(some 3), .box 24 (.tmp 1), none, 0⟩,
  ⟨(some 4), .assign (.const (.int .u64 0)), none, 0⟩]
def L55r1 : List AOp := [
  ⟨(some 8), .load 24 (.tmp 2), none, 0⟩,
  ⟨(some 9), .load 24 (.tmp 3), none, 0⟩,
  ⟨(some 10), .call { callee := .value (.func 78), args := #[.tmp 8, .tmp 9], argTypes := #[24, 24] }, none, 0⟩,
  ⟨(some 7), .move (.tmp 10), none, 0⟩,
  ⟨(some 11), .extract (.tmp 7) 0, none, 0⟩,
  ⟨(some 12), .extract (.tmp 7) 1, none, 0⟩,
  ⟨(some 5), .alloc 24, none, 0⟩,
  ⟨none, .store 24 (.tmp 5) (.tmp 11), none, 0⟩,
  ⟨(some 6), .assign (.tmp 12), none, 0⟩]
def L55r2 : List AOp := [
  ⟨(some 13), .move (.tmp 6), none, 0⟩,
  ⟨(some 4), .assign (.tmp 13), none, 0⟩]
def L55 : LC := (.seq (.region L55r0) (.seq (.region L55r1) (.seq (.region L55r2) .ret)))
theorem nt55 : Tryd.f55.ntmps = 14 := by kernel_rfl
theorem rs55 : Tryd.f55.results.toList = [.tmp 4] := by kernel_rfl
theorem lite55 : Tryd.f55.body.map (lite okDraw) = some L55 := by kernel_rfl
def L56r0 : List AOp := [
  ⟨(some 0), .alloc 24, none, 0⟩]
def L56r1 : List AOp := [
  ⟨(some 1), .fieldAddr 82 (.global 1) 0, none, 0⟩,
  ⟨(some 2), .load 24 (.tmp 1), none, 0⟩,
  ⟨none, .store 24 (.tmp 0) (.tmp 2), none, 0⟩]
def L56 : LC := (.seq (.region L56r0) (.seq (.region L56r1) .ret))
theorem nt56 : Tryd.f56.ntmps = 3 := by kernel_rfl
theorem rs56 : Tryd.f56.results.toList = [.cell 0 24] := by kernel_rfl
theorem lite56 : Tryd.f56.body.map (lite okDraw) = some L56 := by kernel_rfl
def L57r0 : List AOp := [
  ⟨(some 2), .box 24 (.tmp 0), none, 0⟩,
  ⟨(some 3), .box 24 (.tmp 1), none, 0⟩,
  ⟨(some 4), .alloc 24, none, 0⟩]
def L57r1 : List AOp := [
  ⟨(some 5), .load 24 (.tmp 2), none, 0⟩,
  ⟨(some 6), .load 24 (.tmp 3), none, 0⟩,
  ⟨(some 7), .load 82 (.global 1), none, 0⟩,
  ⟨(some 8), .call { callee := .value (.func 60), args := #[.tmp 5, .tmp 6, .tmp 7], argTypes := #[24, 24, 82] }, none, 0⟩,
  ⟨none, .store 24 (.tmp 4) (.tmp 8), none, 0⟩]
def L57 : LC := (.seq (.region L57r0) (.seq (.region L57r1) .ret))
theorem nt57 : Tryd.f57.ntmps = 9 := by kernel_rfl
theorem rs57 : Tryd.f57.results.toList = [.cell 4 24] := by kernel_rfl
theorem lite57 : Tryd.f57.body.map (lite okDraw) = some L57 := by kernel_rfl
def L58r0 : List AOp := [
  ⟨(some 2), .box 24 (.tmp 0), none, 0⟩,
  ⟨(some 3), .box 24 (.tmp 1), none, 0⟩,
  ⟨(some 4), .alloc 24, none, 0⟩]
def L58r1 : List AOp := [
  ⟨(some 5), .load 24 (.tmp 2), none, 0⟩,
  ⟨(some 6), .load 24 (.tmp 3), none, 0⟩,
  ⟨(some 7), .load 82 (.global 1), none, 0⟩,
  ⟨(some 8), .call { callee := .value (.func 77), args := #[.tmp 5, .tmp 6, .tmp 7], argTypes := #[24, 24, 82] }, none, 0⟩,
  ⟨none, .store 24 (.tmp 4) (.tmp 8), none, 0⟩]
def L58 : LC := (.seq (.region L58r0) (.seq (.region L58r1) .ret))
theorem nt58 : Tryd.f58.ntmps = 9 := by kernel_rfl
theorem rs58 : Tryd.f58.results.toList = [.cell 4 24] := by kernel_rfl
theorem lite58 : Tryd.f58.body.map (lite okDraw) = some L58 := by kernel_rfl
def L59r0 : List AOp := [
  ⟨(some 0), .alloc 24, none, 0⟩]
def L59r1 : List AOp := [
  ⟨(some 1), .load 24 (.global 5), none, 0⟩,
  ⟨(some 2), .build 24 #[(0, .const (.int .u64 1))], none, 0⟩,
  ⟨(some 3), .call { callee := .value (.func 80), args := #[.tmp 1, .tmp 2], argTypes := #[24, 24] }, none, 3⟩,
  ⟨(some 4), .load 82 (.global 3), none, 0⟩,
  ⟨(some 5), .call { callee := .value (.func 79), args := #[.tmp 3, .tmp 4], argTypes := #[93, 82] }, none, 1267650600228229401496703205391⟩,
  ⟨none, .store 24 (.tmp 0) (.tmp 5), none, 1267650600228229401496703205407⟩]
def L59 : LC := (.seq (.region L59r0) (.seq (.regionD L59r1) .ret))
theorem nt59 : Tryd.f59.ntmps = 6 := by kernel_rfl
theorem rs59 : Tryd.f59.results.toList = [.cell 0 24] := by kernel_rfl
theorem lite59 : Tryd.f59.body.map (lite okDraw) = some L59 := by kernel_rfl
def L60r0 : List AOp := [
  ⟨(some 3), .box 24 (.tmp 0), none, 0⟩,
  ⟨(some 4), .box 24 (.tmp 1), none, 0⟩,
  ⟨(some 5), .box 82 (.tmp 2), none, 0⟩,
  ⟨(some 6), .alloc 24, none, 0⟩]
def L60r1 : List AOp := [
  ⟨(some 7), .load 24 (.tmp 3), none, 0⟩,
  ⟨(some 8), .fieldAddr 82 (.tmp 5) 2, none, 0⟩,
  ⟨(some 9), .load 24 (.tmp 8), none, 2⟩,
  ⟨(some 10), .load 82 (.tmp 5), none, 0⟩,
  ⟨(some 11), .call { callee := .value (.func 81), args := #[.tmp 7, .tmp 9, .tmp 10], argTypes := #[24, 24, 82] }, none, 15⟩,
  ⟨(some 12), .load 24 (.tmp 4), none, 0⟩,
  ⟨(some 13), .load 82 (.tmp 5), none, 0⟩,
  ⟨(some 14), .call { callee := .value (.func 81), args := #[.tmp 11, .tmp 12, .tmp 13], argTypes := #[24, 24, 82] }, none, 1267650600228229401496703205503⟩,
  ⟨none, .store 24 (.tmp 6) (.tmp 14), none, 1267650600228229401496703205631⟩]
def L60 : LC := (.seq (.region L60r0) (.seq (.regionD L60r1) .ret))
theorem nt60 : Tryd.f60.ntmps = 15 := by kernel_rfl
theorem rs60 : Tryd.f60.results.toList = [.cell 6 24] := by kernel_rfl
theorem lite60 : Tryd.f60.body.map (lite okDraw) = some L60 := by kernel_rfl
def L61r0 : List AOp := [
  ⟨(some 3), .box 24 (.tmp 0), none, 0⟩,
  ⟨(some 4), .box 24 (.tmp 1), none, 0⟩,
  ⟨(some 5), .box 82 (.tmp 2), none, 0⟩,
  ⟨(some 6), .alloc 24, none, 0⟩]
def L61r1 : List AOp := [
  ⟨(some 10), .load 24 (.tmp 3), none, 0⟩,
  ⟨(some 11), .load 82 (.tmp 5), none, 0⟩,
  ⟨(some 12), .call { callee := .value (.func 83), args := #[.tmp 10, .tmp 11], argTypes := #[24, 82] }, none, 3⟩,
  ⟨(some 13), .load 24 (.tmp 4), none, 0⟩,
  ⟨(some 14), .load 82 (.tmp 5), none, 0⟩,
  ⟨(some 15), .call { callee := .value (.func 83), args := #[.tmp 13, .tmp 14], argTypes := #[24, 82] }, none, 31⟩,
  ⟨(some 16), .call { callee := .value (.func 82), args := #[.tmp 12, .tmp 15], argTypes := #[24, 24] }, none, 63⟩,
  ⟨(some 9), .move (.tmp 16), none, 127⟩,
  ⟨(some 17), .extract (.tmp 9) 0, none, 255⟩,
  ⟨(some 18), .extract (.tmp 9) 1, none, 255⟩,
  ⟨(some 7), .alloc 24, none, 0⟩,
  ⟨none, .store 24 (.tmp 7) (.tmp 17), none, 1535⟩,
  ⟨(some 8), .assign (.tmp 18), none, 1267650600228229401496703209471⟩]
def L61r2 : List AOp := [
  ⟨(some 19), .load 24 (.tmp 7), none, 0⟩,
  ⟨(some 20), .move (.tmp 8), none, 0⟩,
  ⟨(some 21), .fieldAddr 82 (.tmp 5) 0, none, 0⟩,
  ⟨(some 22), .load 24 (.tmp 21), none, 0⟩,
  ⟨(some 23), .call { callee := .value (.func 84), args := #[.tmp 19, .tmp 20, .tmp 22], argTypes := #[24, 22, 24] }, none, 0⟩,
  ⟨none, .store 24 (.tmp 6) (.tmp 23), none, 0⟩]
def L61 : LC := (.seq (.region L61r0) (.seq (.regionD L61r1) (.seq (.region L61r2) .ret)))
theorem nt61 : Tryd.f61.ntmps = 24 := by kernel_rfl
theorem rs61 : Tryd.f61.results.toList = [.cell 6 24] := by kernel_rfl
theorem lite61 : Tryd.f61.body.map (lite okDraw) = some L61 := by kernel_rfl
def L64r0 : List AOp := [
  ⟨(some 2), .box 24 (.tmp 0), none, 0⟩,
  ⟨(some 4), .assign (.const (.int .u64 0)), none, 0⟩]
def L64r1 : List AOp := [
  ⟨(some 5), .move (.tmp 1), none, 0⟩,
  ⟨(some 6), .binOp .lss 3 (.tmp 5) (.const (.int .i64 0)) 3, none, 0⟩,
  ⟨(some 7), .move (.tmp 6), none, 0⟩,
  ⟨(some 8), .move (.tmp 1), (some (7, false)), 0⟩,
  ⟨(some 9), .binOp .geq 3 (.tmp 8) (.const (.int .i64 384)) 3, (some (7, false)), 0⟩,
  ⟨(some 10), .pick (.tmp 7) (.const (.bool true)) (.tmp 9), none, 0⟩]
def L64r2 : List AOp := [
  ⟨(some 4), .assign (.const (.int .u64 0)), none, 0⟩]
def L64r3 : List AOp := [
  ⟨(some 11), .move (.tmp 1), none, 0⟩,
  ⟨(some 12), .binOp .quo 3 (.tmp 11) (.const (.int .i64 64)) 3, none, 0⟩,
  ⟨(some 13), .indexAddr 24 (.tmp 2) (.tmp 12), none, 0⟩,
  ⟨(some 14), .load 22 (.tmp 13), none, 0⟩,
  ⟨(some 15), .move (.tmp 1), none, 0⟩,
  ⟨(some 16), .binOp .rem 3 (.tmp 15) (.const (.int .i64 64)) 3, none, 0⟩,
  ⟨(some 17), .binOp .shr 22 (.tmp 14) (.tmp 16) 3, none, 0⟩,
  ⟨(some 18), .binOp .and 22 (.tmp 17) (.const (.int .u64 1)) 22, none, 0⟩,
  ⟨(some 4), .assign (.tmp 18), none, 0⟩]
def L64 : LC := (.seq (.region L64r0) (.seq (.seq (.region L64r1) (.cond (.tmp 10) (.seq (.region L64r2) .ret) .skip)) (.seq (.region L64r3) .ret)))
theorem nt64 : Tryd.f64.ntmps = 19 := by kernel_rfl
theorem rs64 : Tryd.f64.results.toList = [.tmp 4] := by kernel_rfl
theorem lite64 : Tryd.f64.body.map (lite okDraw) = some L64 := by kernel_rfl
def L65r0 : List AOp := [
  ⟨(some 4), .box 65 (.tmp 1), none, 0⟩,
  ⟨(some 5), .box 65 (.tmp 2), none, 0⟩,
  ⟨(some 6), .alloc 65, none, 0⟩]
def L65r1 : List AOp := [
  ⟨(some 7), .move (.tmp 0), none, 0⟩,
  ⟨(some 8), .fieldAddr 65 (.tmp 4) 0, none, 0⟩,
  ⟨(some 9), .load 24 (.tmp 8), none, 2⟩,
  ⟨(some 10), .fieldAddr 65 (.tmp 5) 0, none, 0⟩,
  ⟨(some 11), .load 24 (.tmp 10), none, 8⟩,
  ⟨(some 12), .call { callee := .value (.func 87), args := #[.tmp 7, .tmp 9, .tmp 11], argTypes := #[22, 24, 24] }, none, 31⟩,
  ⟨(some 13), .move (.tmp 0), none, 0⟩,
  ⟨(some 14), .fieldAddr 65 (.tmp 4) 1, none, 0⟩,
  ⟨(some 15), .load 24 (.tmp 14), none, 128⟩,
  ⟨(some 16), .fieldAddr 65 (.tmp 5) 1, none, 0⟩,
  ⟨(some 17), .load 24 (.tmp 16), none, 512⟩,
  ⟨(some 18), .call { callee := .value (.func 87), args := #[.tmp 13, .tmp 15, .tmp 17], argTypes := #[22, 24, 24] }, none, 2047⟩,
  ⟨(some 19), .move (.tmp 0), none, 0⟩,
  ⟨(some 20), .fieldAddr 65 (.tmp 4) 2, none, 0⟩,
  ⟨(some 21), .load 24 (.tmp 20), none, 8192⟩,
  ⟨(some 22), .fieldAddr 65 (.tmp 5) 2, none, 0⟩,
  ⟨(some 23), .load 24 (.tmp 22), none, 32768⟩,
  ⟨(some 24), .call { callee := .value (.func 87), args := #[.tmp 19, .tmp 21, .tmp 23], argTypes := #[22, 24, 24] }, none, 1267650600228229401496703336447⟩,
  ⟨(some 25), .build 65 #[(0, .tmp 12), (1, .tmp 18), (2, .tmp 24)], none, 1267650600228229401496703467519⟩,
  ⟨none, .store 65 (.tmp 6) (.tmp 25), none, 1267650600228229401496703729663⟩]
def L65 : LC := (.seq (.region L65r0) (.seq (.regionD L65r1) .ret))
theorem nt65 : Tryd.f65.ntmps = 26 := by kernel_rfl
theorem rs65 : Tryd.f65.results.toList = [.cell 6 65] := by kernel_rfl
theorem lite65 : Tryd.f65.body.map (lite okDraw) = some L65 := by kernel_rfl
def L66r0 : List AOp := [
  ⟨(some 2), .box 24 (.tmp 0), none, 0⟩,
  ⟨(some 3), .box 24 (.tmp 1), none, 0⟩,
  ⟨(some 4), .alloc 24, none, 0⟩]
def L66r1 : List AOp := [
  ⟨(some 5), .load 24 (.tmp 2), none, 0⟩,
  ⟨(some 6), .load 24 (.tmp 3), none, 0⟩,
  ⟨(some 7), .call { callee := .value (.func 80), args := #[.tmp 5, .tmp 6], argTypes := #[24, 24] }, none, 3⟩,
  ⟨(some 8), .load 82 (.global 3), none, 0⟩,
  ⟨(some 9), .call { callee := .value (.func 79), args := #[.tmp 7, .tmp 8], argTypes := #[93, 82] }, none, 1267650600228229401496703205391⟩,
  ⟨none, .store 24 (.tmp 4) (.tmp 9), none, 1267650600228229401496703205407⟩]
def L66 : LC := (.seq (.region L66r0) (.seq (.regionD L66r1) .ret))
theorem nt66 : Tryd.f66.ntmps = 10 := by kernel_rfl
theorem rs66 : Tryd.f66.results.toList = [.cell 4 24] := by kernel_rfl
theorem lite66 : Tryd.f66.body.map (lite okDraw) = some L66 := by kernel_rfl
def L67r0 : List AOp := [
  ⟨(some 1), .box 24 (.tmp 0), none, 0⟩,
  ⟨(some 2), .alloc 24, none, 0⟩]
def L67r1 : List AOp := [
  ⟨(some 6), .fieldAddr 82 (.global 1) 0, none, 0⟩,
  ⟨(some 7), .load 24 (.tmp 6), none, 0⟩,
  ⟨(some 8), .build 24 #[(0, .const (.int .u64 2))], none, 0⟩,
  ⟨(some 9), .call { callee := .value (.func 78), args := #[.tmp 7, .tmp 8], argTypes := #[24, 24] }, none, 0⟩,
  ⟨(some 5), .move (.tmp 9), none, 0⟩,
  ⟨(some 10), .extract (.tmp 5) 0, none, 0⟩,
  ⟨(some 11), .extract (.tmp 5) 1, none, 0⟩,
  ⟨(some 3), .alloc 24, none, 0⟩,
  ⟨none, .store 24 (.tmp 3) (.tmp 10), none, 0⟩,
  ⟨(some 4), .assign (.tmp 11), none, 0⟩]
def L67r2 : List AOp := [
  ⟨(some 12), .load 24 (.tmp 1), none, 0⟩,
  ⟨(some 13), .load 24 (.tmp 3), none, 0⟩,
  ⟨(some 14), .load 82 (.global 1), none, 0⟩,
  ⟨(some 15), .call { callee := .value (.func 85), args := #[.tmp 12, .tmp 13, .tmp 14], argTypes := #[24, 24, 82] }, none, 0⟩,
  ⟨none, .store 24 (.tmp 2) (.tmp 15), none, 0⟩]
def L67 : LC := (.seq (.region L67r0) (.seq (.region L67r1) (.seq (.region L67r2) .ret)))
theorem nt67 : Tryd.f67.ntmps = 16 := by kernel_rfl
theorem rs67 : Tryd.f67.results.toList = [.cell 2 24] := by kernel_rfl
theorem lite67 : Tryd.f67.body.map (lite okDraw) = some L67 := by kernel_rfl
def L68r0 : List AOp := [
  ⟨(some 2), .assign (.const (.slice none 0 0)), none, 0⟩]
def L68r1 : List AOp := [
  ⟨(some 4), .move (.tmp 0), none, 0⟩,
  ⟨(some 5), .call { callee := .builtin .len, args := #[.tmp 4], argTypes := #[31] }, none, 0⟩,
  ⟨(some 3), .assign (.tmp 5), none, 0⟩]
def L68r2 : List AOp := [
  ⟨(some 6), .move (.tmp 3), none, 0⟩,
  ⟨(some 7), .binOp .gtr 3 (.tmp 6) (.const (.int .i64 0)) 3, none, 0⟩,
  ⟨(some 8), .move (.tmp 7), none, 0⟩,
  ⟨(some 9), .move (.tmp 0), (some (8, true)), 0⟩,
  ⟨(some 10), .move (.tmp 3), (some (8, true)), 0⟩,
  ⟨(some 11), .binOp .sub 3 (.tmp 10) (.const (.int .i64 1)) 3, (some (8, true)), 0⟩,
  ⟨(some 12), .indexAddr 31 (.tmp 9) (.tmp 11), (some (8, true)), 0⟩,
  ⟨(some 13), .load 22 (.tmp 12), (some (8, true)), 0⟩,
  ⟨(some 14), .binOp .eql 22 (.tmp 13) (.const (.int .u64 0)) 22, (some (8, true)), 0⟩,
  ⟨(some 15), .pick (.tmp 8) (.tmp 14) (.const (.bool false)), none, 0⟩]
def L68r3 : List AOp := [
  ⟨(some 16), .move (.tmp 3), none, 0⟩,
  ⟨(some 17), .binOp .sub 3 (.tmp 16) (.const (.int .i64 1)) 3, none, 0⟩,
  ⟨(some 3), .assign (.tmp 17), none, 0⟩]
def L68r4 : List AOp := [
  ⟨(some 18), .move (.tmp 0), none, 0⟩,
  ⟨(some 19), .move (.tmp 3), none, 0⟩,
  ⟨(some 20), .slice 31 (.tmp 18) none (some (.tmp 19)) none, none, 0⟩,
  ⟨(some 2), .assign (.tmp 20), none, 0⟩]
def L68 : LC := (.seq (.region L68r0) (.seq (.region L68r1) (.seq (.block 0 (.loop (.seq (.seq (.region L68r2) (.cond (.tmp 15) .skip (.exit 0))) (.block 1 (.region L68r3))))) (.seq (.region L68r4) .ret))))
theorem nt68 : Tryd.f68.ntmps = 21 := by kernel_rfl
theorem rs68 : Tryd.f68.results.toList = [.tmp 2] := by kernel_rfl
theorem lite68 : Tryd.f68.body.map (lite okDraw) = some L68 := by kernel_rfl
def L69r0 : List AOp := [
  ⟨(some 2), .box 24 (.tmp 0), none, 0⟩,
  ⟨(some 3), .box 24 (.tmp 1), none, 0⟩,
  ⟨(some 4), .alloc 24, none, 0⟩]
def L69r1 : List AOp := [
  ⟨(some 10), .load 24 (.tmp 2), none, 0⟩,
  ⟨(some 11), .load 24 (.tmp 3), none, 0⟩,
  ⟨(some 12), .call { callee := .value (.func 78), args := #[.tmp 10, .tmp 11], argTypes := #[24, 24] }, none, 0⟩,
  ⟨(some 9), .move (.tmp 12), none, 0⟩,
  ⟨(some 13), .extract (.tmp 9) 0, none, 0⟩,
  ⟨(some 14), .extract (.tmp 9) 1, none, 0⟩,
  ⟨(some 5), .alloc 24, none, 0⟩,
  ⟨none, .store 24 (.tmp 5) (.tmp 13), none, 0⟩,
  ⟨(some 6), .assign (.tmp 14), none, 0⟩]
def L69r2 : List AOp := [
  ⟨(some 16), .load 24 (.tmp 5), none, 0⟩,
  ⟨(some 17), .fieldAddr 82 (.global 3) 0, none, 0⟩,
  ⟨(some 18), .load 24 (.tmp 17), none, 0⟩,
  ⟨(some 19), .call { callee := .value (.func 82), args := #[.tmp 16, .tmp 18], argTypes := #[24, 24] }, none, 0⟩,
  ⟨(some 15), .move (.tmp 19), none, 0⟩,
  ⟨(some 20), .extract (.tmp 15) 0, none, 0⟩,
  ⟨(some 21), .extract (.tmp 15) 1, none, 0⟩,
  ⟨(some 7), .alloc 24, none, 0⟩,
  ⟨none, .store 24 (.tmp 7) (.tmp 20), none, 0⟩,
  ⟨(some 8), .assign (.tmp 21), none, 0⟩]
def L69r3 : List AOp := [
  ⟨(some 22), .move (.tmp 6), none, 0⟩,
  ⟨(some 23), .load 24 (.tmp 5), none, 0⟩,
  ⟨(some 24), .load 24 (.tmp 7), none, 0⟩,
  ⟨(some 25), .call { callee := .value (.func 87), args := #[.tmp 22, .tmp 23, .tmp 24], argTypes := #[22, 24, 24] }, none, 0⟩,
  ⟨none, .store 24 (.tmp 4) (.tmp 25), none, 0⟩]
def L69 : LC := (.seq (.region L69r0) (.seq (.region L69r1) (.seq (.region L69r2) (.seq (.region L69r3) .ret))))
theorem nt69 : Tryd.f69.ntmps = 26 := by kernel_rfl
theorem rs69 : Tryd.f69.results.toList = [.cell 4 24] := by kernel_rfl
theorem lite69 : Tryd.f69.body.map (lite okDraw) = some L69 := by kernel_rfl
def L70r0 : List AOp := [
  ⟨(some 2), .box 24 (.tmp 0), none, 0⟩,
  ⟨(some 3), .box 24 (.tmp 1), none, 0⟩,
  ⟨(some 4), .alloc 24, none, 0⟩]
def L70r1 : List AOp := [
  ⟨(some 10), .load 24 (.tmp 2), none, 0⟩,
  ⟨(some 11), .load 24 (.tmp 3), none, 0⟩,
  ⟨(some 12), .call { callee := .value (.func 82), args := #[.tmp 10, .tmp 11], argTypes := #[24, 24] }, none, 0⟩,
  ⟨(some 9), .move (.tmp 12), none, 0⟩,
  ⟨(some 13), .extract (.tmp 9) 0, none, 0⟩,
  ⟨(some 14), .extract (.tmp 9) 1, none, 0⟩,
  ⟨(some 5), .alloc 24, none, 0⟩,
  ⟨none, .store 24 (.tmp 5) (.tmp 13), none, 0⟩,
  ⟨(some 6), .assign (.tmp 14), none, 0⟩]
def L70r2 : List AOp := [
  ⟨(some 16), .load 24 (.tmp 5), none, 0⟩,
  ⟨(some 17), .fieldAddr 82 (.global 3) 0, none, 0⟩,
  ⟨(some 18), .load 24 (.tmp 17), none, 0⟩,
  ⟨(some 19), .call { callee := .value (.func 78), args := #[.tmp 16, .tmp 18], argTypes := #[24, 24] }, none, 0⟩,
  ⟨(some 15), .move (.tmp 19), none, 0⟩,
  ⟨(some 20), .extract (.tmp 15) 0, none, 0⟩,
  ⟨(some 21), .extract (.tmp 15) 1, none, 0⟩,
  ⟨(some 7), .alloc 24, none, 0⟩,
  ⟨none, .store 24 (.tmp 7) (.tmp 20), none, 0⟩,
  ⟨(some 8), .assign (.tmp 21), none, 0⟩]
def L70r3 : List AOp := [
  ⟨(some 22), .move (.tmp 6), none, 0⟩,
  ⟨(some 23), .move (.tmp 8), none, 0⟩,
  ⟨(some 24), .binOp .xor 22 (.const (.int .u64 1)) (.tmp 23) 22, none, 0⟩,
  ⟨(some 25), .binOp .or 22 (.tmp 22) (.tmp 24) 22, none, 0⟩,
  ⟨(some 26), .load 24 (.tmp 5), none, 0⟩,
  ⟨(some 27), .load 24 (.tmp 7), none, 0⟩,
  ⟨(some 28), .call { callee := .value (.func 87), args := #[.tmp 25, .tmp 26, .tmp 27], argTypes := #[22, 24, 24] }, none, 0⟩,
  ⟨none, .store 24 (.tmp 4) (.tmp 28), none, 0⟩]
def L70 : LC := (.seq (.region L70r0) (.seq (.region L70r1) (.seq (.region L70r2) (.seq (.region L70r3) .ret))))
theorem nt70 : Tryd.f70.ntmps = 29 := by kernel_rfl
theorem rs70 : Tryd.f70.results.toList = [.cell 4 24] := by kernel_rfl
theorem lite70 : Tryd.f70.body.map (lite okDraw) = some L70 := by kernel_rfl
def L71r0 : List AOp := [
  ⟨(some 1), .box 24 (.tmp 0), none, 0⟩,
  ⟨(some 2), .alloc 24, none, 0⟩]
def L71r1 : List AOp := [
  ⟨(some 3), .load 24 (.tmp 1), none, 0⟩,
  ⟨(some 4), .load 24 (.tmp 1), none, 0⟩,
  ⟨(some 5), .load 24 (.tmp 1), none, 0⟩,
  ⟨(some 6), .call { callee := .value (.func 70), args := #[.tmp 4, .tmp 5], argTypes := #[24, 24] }, none, 6⟩,
  ⟨(some 7), .call { callee := .value (.func 70), args := #[.tmp 3, .tmp 6], argTypes := #[24, 24] }, none, 1267650600228229401496703205391⟩,
  ⟨none, .store 24 (.tmp 2) (.tmp 7), none, 1267650600228229401496703205407⟩]
def L71 : LC := (.seq (.region L71r0) (.seq (.regionD L71r1) .ret))
theorem nt71 : Tryd.f71.ntmps = 8 := by kernel_rfl
theorem rs71 : Tryd.f71.results.toList = [.cell 2 24] := by kernel_rfl
theorem lite71 : Tryd.f71.body.map (lite okDraw) = some L71 := by kernel_rfl
def L72r0 : List AOp := [
  ⟨(some 2), .assign (.const (.slice none 0 0)), none, 0⟩]
def L72r1 : List AOp := [
  ⟨(some 3), .move (.tmp 0), none, 0⟩,
  ⟨(some 4), .call { callee := .value (.func 47), args := #[], argTypes := #[] }, none, 0⟩,
  ⟨(some 5), .call { callee := .value (.func 88), args := #[.tmp 3, .tmp 4], argTypes := #[31, 31] }, none, 0⟩,
  ⟨(some 2), .assign (.tmp 5), none, 0⟩]
def L72 : LC := (.seq (.region L72r0) (.seq (.region L72r1) .ret))
theorem nt72 : Tryd.f72.ntmps = 6 := by kernel_rfl
theorem rs72 : Tryd.f72.results.toList = [.tmp 2] := by kernel_rfl
theorem lite72 : Tryd.f72.body.map (lite okDraw) = some L72 := by kernel_rfl
def L73r0 : List AOp := [
  ⟨(some 4), .assign (.const (.slice none 0 0)), none, 0⟩]
def L73r1 : List AOp := [
  ⟨(some 10), .move (.tmp 0), none, 0⟩,
  ⟨(some 11), .call { callee := .builtin .len, args := #[.tmp 10], argTypes := #[31] }, none, 0⟩,
  ⟨(some 12), .move (.tmp 1), none, 0⟩,
  ⟨(some 13), .call { callee := .builtin .len, args := #[.tmp 12], argTypes := #[31] }, none, 0⟩,
  ⟨(some 14), .binOp .add 3 (.tmp 11) (.tmp 13) 3, none, 0⟩,
  ⟨(some 15), .binOp .add 3 (.tmp 14) (.const (.int .i64 1)) 3, none, 0⟩,
  ⟨(some 16), .makeSlice 31 (.tmp 15) (.tmp 15), none, 0⟩,
  ⟨(some 5), .assign (.tmp 16), none, 0⟩]
def L73r2 : List AOp := [
  ⟨(some 6), .assign (.const (.int .i64 0)), none, 0⟩]
def L73r3 : List AOp := [
  ⟨(some 17), .move (.tmp 6), none, 0⟩,
  ⟨(some 18), .move (.tmp 0), none, 0⟩,
  ⟨(some 19), .call { callee := .builtin .len, args := #[.tmp 18], argTypes := #[31] }, none, 0⟩,
  ⟨(some 20), .binOp .lss 3 (.tmp 17) (.tmp 19) 3, none, 0⟩]
def L73r5 : List AOp := [
  ⟨(some 7), .assign (.const (.int .u64 0)), none, 0⟩]
def L73r6 : List AOp := [
  ⟨(some 8), .assign (.const (.int .i64 0)), none, 0⟩]
def L73r7 : List AOp := [
  ⟨(some 23), .move (.tmp 8), none, 0⟩,
  ⟨(some 24), .move (.tmp 1), none, 0⟩,
  ⟨(some 25), .call { callee := .builtin .len, args := #[.tmp 24], argTypes := #[31] }, none, 0⟩,
  ⟨(some 26), .binOp .lss 3 (.tmp 23) (.tmp 25) 3, none, 0⟩,
  ⟨(some 27), .move (.tmp 26), none, 0⟩,
  ⟨(some 28), .move (.tmp 7), (some (27, false)), 0⟩,
  ⟨(some 29), .binOp .gtr 22 (.tmp 28) (.const (.int .u64 0)) 22, (some (27, false)), 0⟩,
  ⟨(some 30), .pick (.tmp 27) (.const (.bool true)) (.tmp 29), none, 0⟩]
def L73r9 : List AOp := [
  ⟨(some 33), .move (.tmp 5), none, 0⟩,
  ⟨(some 34), .move (.tmp 6), none, 0⟩,
  ⟨(some 35), .move (.tmp 8), none, 0⟩,
  ⟨(some 36), .binOp .add 3 (.tmp 34) (.tmp 35) 3, none, 6⟩,
  ⟨(some 37), .indexAddr 31 (.tmp 33) (.tmp 36), none, 15⟩,
  ⟨(some 38), .load 22 (.tmp 37), none, 31⟩,
  ⟨(some 39), .move (.tmp 0), none, 0⟩,
  ⟨(some 40), .move (.tmp 6), none, 0⟩,
  ⟨(some 41), .indexAddr 31 (.tmp 39) (.tmp 40), none, 192⟩,
  ⟨(some 42), .load 22 (.tmp 41), none, 448⟩,
  ⟨(some 43), .move (.tmp 1), none, 0⟩,
  ⟨(some 44), .move (.tmp 8), none, 0⟩,
  ⟨(some 45), .call { callee := .value (.func 89), args := #[.tmp 43, .tmp 44], argTypes := #[31, 3] }, none, 3072⟩,
  ⟨(some 46), .binOp .mul 22 (.tmp 42) (.tmp 45) 22, none, 8128⟩,
  ⟨(some 47), .binOp .add 22 (.tmp 38) (.tmp 46) 22, none, 16383⟩,
  ⟨(some 48), .move (.tmp 7), none, 0⟩,
  ⟨(some 49), .binOp .add 22 (.tmp 47) (.tmp 48) 22, none, 1267650600228229401496703270911⟩,
  ⟨(some 9), .assign (.tmp 49), none, 1267650600228229401496703336447⟩]
def L73r10 : List AOp := [
  ⟨(some 50), .move (.tmp 5), none, 0⟩,
  ⟨(some 51), .move (.tmp 6), none, 0⟩,
  ⟨(some 52), .move (.tmp 8), none, 0⟩,
  ⟨(some 53), .binOp .add 3 (.tmp 51) (.tmp 52) 3, none, 0⟩,
  ⟨(some 54), .move (.tmp 9), none, 0⟩,
  ⟨(some 55), .binOp .rem 22 (.tmp 54) (.const (.int .u64 4294967296)) 22, none, 0⟩,
  ⟨(some 56), .indexAddr 31 (.tmp 50) (.tmp 53), none, 0⟩,
  ⟨none, .store 22 (.tmp 56) (.tmp 55), none, 0⟩]
def L73r11 : List AOp := [
  ⟨(some 57), .move (.tmp 9), none, 0⟩,
  ⟨(some 58), .binOp .quo 22 (.tmp 57) (.const (.int .u64 4294967296)) 22, none, 0⟩,
  ⟨(some 7), .assign (.tmp 58), none, 0⟩]
def L73r8 : List AOp := [
  ⟨(some 31), .move (.tmp 8), none, 0⟩,
  ⟨(some 32), .binOp .add 3 (.tmp 31) (.const (.int .i64 1)) 3, none, 0⟩,
  ⟨(some 8), .assign (.tmp 32), none, 0⟩]
def L73r4 : List AOp := [
  ⟨(some 21), .move (.tmp 6), none, 0⟩,
  ⟨(some 22), .binOp .add 3 (.tmp 21) (.const (.int .i64 1)) 3, none, 0⟩,
  ⟨(some 6), .assign (.tmp 22), none, 0⟩]
def L73r12 : List AOp := [
  ⟨(some 59), .move (.tmp 5), none, 0⟩,
  ⟨(some 60), .call { callee := .value (.func 68), args := #[.tmp 59], argTypes := #[31] }, none, 0⟩,
  ⟨(some 4), .assign (.tmp 60), none, 0⟩]
def L73 : LC := (.seq (.region L73r0) (.seq (.region L73r1) (.seq (.seq (.region L73r2) (.block 0 (.loop (.seq (.seq (.region L73r3) (.cond (.tmp 20) .skip (.exit 0))) (.seq (.block 1 (.seq (.region L73r5) (.seq (.region L73r6) (.block 2 (.loop (.seq (.seq (.region L73r7) (.cond (.tmp 30) .skip (.exit 2))) (.seq (.block 3 (.seq (.regionD L73r9) (.seq (.region L73r10) (.region L73r11)))) (.region L73r8)))))))) (.region L73r4)))))) (.seq (.region L73r12) .ret))))
theorem nt73 : Tryd.f73.ntmps = 61 := by kernel_rfl
theorem rs73 : Tryd.f73.results.toList = [.tmp 4] := by kernel_rfl
theorem lite73 : Tryd.f73.body.map (lite okDraw) = some L73 := by kernel_rfl
def L74r0 : List AOp := [
  ⟨(some 4), .assign (.const (.slice none 0 0)), none, 0⟩]
def L74r1 : List AOp := [
  ⟨(some 5), .assign (.const (.slice none 0 0)), none, 0⟩]
def L74r2 : List AOp := [
  ⟨(some 6), .assign (.const (.int .u64 0)), none, 0⟩]
def L74r3 : List AOp := [
  ⟨(some 7), .assign (.const (.int .i64 0)), none, 0⟩]
def L74r4 : List AOp := [
  ⟨(some 9), .move (.tmp 7), none, 0⟩,
  ⟨(some 10), .move (.tmp 0), none, 0⟩,
  ⟨(some 11), .call { callee := .builtin .len, args := #[.tmp 10], argTypes := #[31] }, none, 0⟩,
  ⟨(some 12), .binOp .lss 3 (.tmp 9) (.tmp 11) 3, none, 0⟩,
  ⟨(some 13), .move (.tmp 12), none, 0⟩,
  ⟨(some 14), .move (.tmp 7), (some (13, false)), 0⟩,
  ⟨(some 15), .move (.tmp 1), (some (13, false)), 0⟩,
  ⟨(some 16), .call { callee := .builtin .len, args := #[.tmp 15], argTypes := #[31] }, (some (13, false)), 0⟩,
  ⟨(some 17), .binOp .lss 3 (.tmp 14) (.tmp 16) 3, (some (13, false)), 0⟩,
  ⟨(some 18), .pick (.tmp 13) (.const (.bool true)) (.tmp 17), none, 0⟩,
  ⟨(some 19), .move (.tmp 18), none, 0⟩,
  ⟨(some 20), .move (.tmp 6), (some (19, false)), 0⟩,
  ⟨(some 21), .binOp .gtr 22 (.tmp 20) (.const (.int .u64 0)) 22, (some (19, false)), 0⟩,
  ⟨(some 22), .pick (.tmp 19) (.const (.bool true)) (.tmp 21), none, 0⟩]
def L74r6 : List AOp := [
  ⟨(some 25), .move (.tmp 0), none, 0⟩,
  ⟨(some 26), .move (.tmp 7), none, 0⟩,
  ⟨(some 27), .call { callee := .value (.func 89), args := #[.tmp 25, .tmp 26], argTypes := #[31, 3] }, none, 0⟩,
  ⟨(some 28), .move (.tmp 1), none, 0⟩,
  ⟨(some 29), .move (.tmp 7), none, 0⟩,
  ⟨(some 30), .call { callee := .value (.func 89), args := #[.tmp 28, .tmp 29], argTypes := #[31, 3] }, none, 0⟩,
  ⟨(some 31), .binOp .add 22 (.tmp 27) (.tmp 30) 22, none, 0⟩,
  ⟨(some 32), .move (.tmp 6), none, 0⟩,
  ⟨(some 33), .binOp .add 22 (.tmp 31) (.tmp 32) 22, none, 0⟩,
  ⟨(some 8), .assign (.tmp 33), none, 0⟩]
def L74r7 : List AOp := [
  ⟨(some 34), .move (.tmp 5), none, 0⟩,
  ⟨(some 35), .move (.tmp 8), none, 0⟩,
  ⟨(some 36), .binOp .rem 22 (.tmp 35) (.const (.int .u64 4294967296)) 22, none, 0⟩,
  ⟨(some 37), .buildSlice 31 1 #[(0, .tmp 36)], none, 0⟩,
  ⟨(some 38), .call { callee := .builtin .append, args := #[.tmp 34, .tmp 37], argTypes := #[31, 31] }, none, 0⟩,
  ⟨(some 5), .assign (.tmp 38), none, 0⟩]
def L74r8 : List AOp := [
  ⟨(some 39), .move (.tmp 8), none, 0⟩,
  ⟨(some 40), .binOp .quo 22 (.tmp 39) (.const (.int .u64 4294967296)) 22, none, 0⟩,
  ⟨(some 6), .assign (.tmp 40), none, 0⟩]
def L74r5 : List AOp := [
  ⟨(some 23), .move (.tmp 7), none, 0⟩,
  ⟨(some 24), .binOp .add 3 (.tmp 23) (.const (.int .i64 1)) 3, none, 0⟩,
  ⟨(some 7), .assign (.tmp 24), none, 0⟩]
def L74r9 : List AOp := [
  ⟨(some 41), .move (.tmp 5), none, 0⟩,
  ⟨(some 42), .call { callee := .value (.func 68), args := #[.tmp 41], argTypes := #[31] }, none, 0⟩,
  ⟨(some 4), .assign (.tmp 42), none, 0⟩]
def L74 : LC := (.seq (.region L74r0) (.seq (.region L74r1) (.seq (.region L74r2) (.seq (.seq (.region L74r3) (.block 0 (.loop (.seq (.seq (.region L74r4) (.cond (.tmp 22) .skip (.exit 0))) (.seq (.block 1 (.seq (.region L74r6) (.seq (.region L74r7) (.region L74r8)))) (.region L74r5)))))) (.seq (.region L74r9) .ret)))))
theorem nt74 : Tryd.f74.ntmps = 43 := by kernel_rfl
theorem rs74 : Tryd.f74.results.toList = [.tmp 4] := by kernel_rfl
theorem lite74 : Tryd.f74.body.map (lite okDraw) = some L74 := by kernel_rfl
def L75r0 : List AOp := [
  ⟨(some 4), .assign (.const (.slice none 0 0)), none, 0⟩]
def L75r1 : List AOp := [
  ⟨(some 5), .assign (.const (.slice none 0 0)), none, 0⟩]
def L75r2 : List AOp := [
  ⟨(some 6), .assign (.const (.int .u64 0)), none, 0⟩]
def L75r3 : List AOp := [
  ⟨(some 7), .assign (.const (.int .i64 0)), none, 0⟩]
def L75r4 : List AOp := [
  ⟨(some 9), .move (.tmp 7), none, 0⟩,
  ⟨(some 10), .move (.tmp 0), none, 0⟩,
  ⟨(some 11), .call { callee := .builtin .len, args := #[.tmp 10], argTypes := #[31] }, none, 0⟩,
  ⟨(some 12), .binOp .lss 3 (.tmp 9) (.tmp 11) 3, none, 0⟩]
def L75r6 : List AOp := [
  ⟨(some 15), .move (.tmp 0), none, 0⟩,
  ⟨(some 16), .move (.tmp 7), none, 0⟩,
  ⟨(some 17), .call { callee := .value (.func 89), args := #[.tmp 15, .tmp 16], argTypes := #[31, 3] }, none, 0⟩,
  ⟨(some 18), .binOp .add 22 (.tmp 17) (.const (.int .u64 4294967296)) 22, none, 0⟩,
  ⟨(some 19), .move (.tmp 1), none, 0⟩,
  ⟨(some 20), .move (.tmp 7), none, 0⟩,
  ⟨(some 21), .call { callee := .value (.func 89), args := #[.tmp 19, .tmp 20], argTypes := #[31, 3] }, none, 0⟩,
  ⟨(some 22), .binOp .sub 22 (.tmp 18) (.tmp 21) 22, none, 0⟩,
  ⟨(some 23), .move (.tmp 6), none, 0⟩,
  ⟨(some 24), .binOp .sub 22 (.tmp 22) (.tmp 23) 22, none, 0⟩,
  ⟨(some 8), .assign (.tmp 24), none, 0⟩]
def L75r7 : List AOp := [
  ⟨(some 25), .move (.tmp 5), none, 0⟩,
  ⟨(some 26), .move (.tmp 8), none, 0⟩,
  ⟨(some 27), .binOp .rem 22 (.tmp 26) (.const (.int .u64 4294967296)) 22, none, 0⟩,
  ⟨(some 28), .buildSlice 31 1 #[(0, .tmp 27)], none, 0⟩,
  ⟨(some 29), .call { callee := .builtin .append, args := #[.tmp 25, .tmp 28], argTypes := #[31, 31] }, none, 0⟩,
  ⟨(some 5), .assign (.tmp 29), none, 0⟩]
def L75r8 : List AOp := [
  ⟨(some 30), .move (.tmp 8), none, 0⟩,
  ⟨(some 31), .binOp .quo 22 (.tmp 30) (.const (.int .u64 4294967296)) 22, none, 0⟩,
  ⟨(some 32), .binOp .sub 22 (.const (.int .u64 1)) (.tmp 31) 22, none, 0⟩,
  ⟨(some 6), .assign (.tmp 32), none, 0⟩]
def L75r5 : List AOp := [
  ⟨(some 13), .move (.tmp 7), none, 0⟩,
  ⟨(some 14), .binOp .add 3 (.tmp 13) (.const (.int .i64 1)) 3, none, 0⟩,
  ⟨(some 7), .assign (.tmp 14), none, 0⟩]
def L75r9 : List AOp := [
  ⟨(some 33), .move (.tmp 5), none, 0⟩,
  ⟨(some 34), .call { callee := .value (.func 68), args := #[.tmp 33], argTypes := #[31] }, none, 0⟩,
  ⟨(some 4), .assign (.tmp 34), none, 0⟩]
def L75 : LC := (.seq (.region L75r0) (.seq (.region L75r1) (.seq (.region L75r2) (.seq (.seq (.region L75r3) (.block 0 (.loop (.seq (.seq (.region L75r4) (.cond (.tmp 12) .skip (.exit 0))) (.seq (.block 1 (.seq (.region L75r6) (.seq (.region L75r7) (.region L75r8)))) (.region L75r5)))))) (.seq (.region L75r9) .ret)))))
theorem nt75 : Tryd.f75.ntmps = 35 := by kernel_rfl
theorem rs75 : Tryd.f75.results.toList = [.tmp 4] := by kernel_rfl
theorem lite75 : Tryd.f75.body.map (lite okDraw) = some L75 := by kernel_rfl
def L76r0 : List AOp := [
  ⟨(some 6), .assign (.const (.slice none 0 0)), none, 0⟩]
def L76r1 : List AOp := [
  ⟨(some 11), .buildSlice 31 1 #[(0, .const (.int .u64 1))], none, 0⟩,
  ⟨(some 12), .move (.tmp 2), none, 0⟩,
  ⟨(some 13), .call { callee := .value (.func 88), args := #[.tmp 11, .tmp 12], argTypes := #[31, 31] }, none, 0⟩,
  ⟨(some 7), .assign (.tmp 13), none, 0⟩]
def L76r2 : List AOp := [
  ⟨(some 14), .move (.tmp 0), none, 0⟩,
  ⟨(some 15), .move (.tmp 2), none, 0⟩,
  ⟨(some 16), .call { callee := .value (.func 88), args := #[.tmp 14, .tmp 15], argTypes := #[31, 31] }, none, 0⟩,
  ⟨(some 8), .assign (.tmp 16), none, 0⟩]
def L76r3 : List AOp := [
  ⟨(some 17), .move (.tmp 1), none, 0⟩,
  ⟨(some 18), .call { callee := .value (.func 42), args := #[.tmp 17], argTypes := #[31] }, none, 0⟩,
  ⟨(some 19), .binOp .sub 3 (.tmp 18) (.const (.int .i64 1)) 3, none, 0⟩,
  ⟨(some 9), .assign (.tmp 19), none, 0⟩]
def L76r4 : List AOp := [
  ⟨(some 20), .move (.tmp 9), none, 0⟩,
  ⟨(some 21), .binOp .geq 3 (.tmp 20) (.const (.int .i64 0)) 3, none, 0⟩]
def L76r6 : List AOp := [
  ⟨(some 24), .move (.tmp 7), none, 0⟩,
  ⟨(some 25), .move (.tmp 7), none, 0⟩,
  ⟨(some 26), .call { callee := .value (.func 73), args := #[.tmp 24, .tmp 25], argTypes := #[31, 31] }, none, 0⟩,
  ⟨(some 27), .move (.tmp 2), none, 0⟩,
  ⟨(some 28), .call { callee := .value (.func 88), args := #[.tmp 26, .tmp 27], argTypes := #[31, 31] }, none, 0⟩,
  ⟨(some 7), .assign (.tmp 28), none, 0⟩]
def L76r7 : List AOp := [
  ⟨(some 29), .move (.tmp 1), none, 0⟩,
  ⟨(some 30), .move (.tmp 9), none, 0⟩,
  ⟨(some 31), .call { callee := .value (.func 43), args := #[.tmp 29, .tmp 30], argTypes := #[31, 3] }, none, 0⟩,
  ⟨(some 10), .assign (.tmp 31), none, 0⟩]
def L76r8 : List AOp := [
  ⟨(some 32), .move (.tmp 10), none, 0⟩]
def L76r9 : List AOp := [
  ⟨(some 33), .move (.tmp 7), none, 0⟩,
  ⟨(some 34), .move (.tmp 8), none, 0⟩,
  ⟨(some 35), .call { callee := .value (.func 73), args := #[.tmp 33, .tmp 34], argTypes := #[31, 31] }, none, 0⟩,
  ⟨(some 36), .move (.tmp 2), none, 0⟩,
  ⟨(some 37), .call { callee := .value (.func 88), args := #[.tmp 35, .tmp 36], argTypes := #[31, 31] }, none, 0⟩,
  ⟨(some 7), .assign (.tmp 37), none, 0⟩]
def L76r5 : List AOp := [
  ⟨(some 22), .move (.tmp 9), none, 0⟩,
  ⟨(some 23), .binOp .sub 3 (.tmp 22) (.const (.int .i64 1)) 3, none, 0⟩,
  ⟨(some 9), .assign (.tmp 23), none, 0⟩]
def L76r10 : List AOp := [
  ⟨(some 38), .move (.tmp 7), none, 0⟩,
  ⟨(some 6), .assign (.tmp 38), none, 0⟩]
def L76 : LC := (.seq (.region L76r0) (.seq (.region L76r1) (.seq (.region L76r2) (.seq (.seq (.region L76r3) (.block 0 (.loop (.seq (.seq (.region L76r4) (.cond (.tmp 21) .skip (.exit 0))) (.seq (.block 1 (.seq (.region L76r6) (.seq (.region L76r7) (.seq (.region L76r8) (.cond (.tmp 32) (.region L76r9) .skip))))) (.region L76r5)))))) (.seq (.region L76r10) .ret)))))
theorem nt76 : Tryd.f76.ntmps = 39 := by kernel_rfl
theorem rs76 : Tryd.f76.results.toList = [.tmp 6] := by kernel_rfl
theorem lite76 : Tryd.f76.body.map (lite okDraw) = some L76 := by kernel_rfl
def L77r0 : List AOp := [
  ⟨(some 3), .box 24 (.tmp 0), none, 0⟩,
  ⟨(some 4), .box 24 (.tmp 1), none, 0⟩,
  ⟨(some 5), .box 82 (.tmp 2), none, 0⟩,
  ⟨(some 6), .alloc 24, none, 0⟩]
def L77r1 : List AOp := [
  ⟨(some 12), .load 24 (.tmp 3), none, 0⟩,
  ⟨(some 13), .load 82 (.tmp 5), none, 0⟩,
  ⟨(some 14), .call { callee := .value (.func 83), args := #[.tmp 12, .tmp 13], argTypes := #[24, 82] }, none, 3⟩,
  ⟨(some 15), .load 24 (.tmp 4), none, 0⟩,
  ⟨(some 16), .load 82 (.tmp 5), none, 0⟩,
  ⟨(some 17), .call { callee := .value (.func 83), args := #[.tmp 15, .tmp 16], argTypes := #[24, 82] }, none, 31⟩,
  ⟨(some 18), .call { callee := .value (.func 78), args := #[.tmp 14, .tmp 17], argTypes := #[24, 24] }, none, 63⟩,
  ⟨(some 11), .move (.tmp 18), none, 127⟩,
  ⟨(some 19), .extract (.tmp 11) 0, none, 255⟩,
  ⟨(some 20), .extract (.tmp 11) 1, none, 255⟩,
  ⟨(some 7), .alloc 24, none, 0⟩,
  ⟨none, .store 24 (.tmp 7) (.tmp 19), none, 1535⟩,
  ⟨(some 8), .assign (.tmp 20), none, 1267650600228229401496703209471⟩]
def L77r2 : List AOp := [
  ⟨(some 22), .load 24 (.tmp 7), none, 0⟩,
  ⟨(some 23), .fieldAddr 82 (.tmp 5) 0, none, 0⟩,
  ⟨(some 24), .load 24 (.tmp 23), none, 0⟩,
  ⟨(some 25), .call { callee := .value (.func 82), args := #[.tmp 22, .tmp 24], argTypes := #[24, 24] }, none, 0⟩,
  ⟨(some 21), .move (.tmp 25), none, 0⟩,
  ⟨(some 26), .extract (.tmp 21) 0, none, 0⟩,
  ⟨(some 27), .extract (.tmp 21) 1, none, 0⟩,
  ⟨(some 9), .alloc 24, none, 0⟩,
  ⟨none, .store 24 (.tmp 9) (.tmp 26), none, 0⟩,
  ⟨(some 10), .assign (.tmp 27), none, 0⟩]
def L77r3 : List AOp := [
  ⟨(some 28), .move (.tmp 8), none, 0⟩,
  ⟨(some 29), .load 24 (.tmp 7), none, 0⟩,
  ⟨(some 30), .load 24 (.tmp 9), none, 0⟩,
  ⟨(some 31), .call { callee := .value (.func 87), args := #[.tmp 28, .tmp 29, .tmp 30], argTypes := #[22, 24, 24] }, none, 0⟩,
  ⟨none, .store 24 (.tmp 6) (.tmp 31), none, 0⟩]
def L77 : LC := (.seq (.region L77r0) (.seq (.regionD L77r1) (.seq (.region L77r2) (.seq (.region L77r3) .ret))))
theorem nt77 : Tryd.f77.ntmps = 32 := by kernel_rfl
theorem rs77 : Tryd.f77.results.toList = [.cell 6 24] := by kernel_rfl
theorem lite77 : Tryd.f77.body.map (lite okDraw) = some L77 := by kernel_rfl
def L78r0 : List AOp := [
  ⟨(some 2), .box 24 (.tmp 0), none, 0⟩,
  ⟨(some 3), .box 24 (.tmp 1), none, 0⟩,
  ⟨(some 4), .alloc 24, none, 0⟩,
  ⟨(some 5), .assign (.const (.int .u64 0)), none, 0⟩]
def L78r1 : List AOp := [
  ⟨(some 6), .alloc 24, none, 0⟩]
def L78r2 : List AOp := [
  ⟨(some 7), .assign (.const (.int .u64 0)), none, 0⟩]
def L78r3 : List AOp := [
  ⟨(some 9), .move (.const (.int .i64 0)), none, 0⟩]
def L78r4 : List AOp := [
  ⟨(some 10), .binOp .lss 3 (.tmp 9) (.const (.int .i64 6)) 3, none, 0⟩]
def L78r5 : List AOp := [
  ⟨(some 11), .move (.tmp 9), none, 0⟩,
  ⟨(some 8), .assign (.tmp 11), none, 0⟩]
def L78r6 : List AOp := [
  ⟨(some 13), .move (.tmp 8), none, 0⟩,
  ⟨(some 14), .move (.tmp 8), none, 0⟩,
  ⟨(some 15), .indexAddr 24 (.tmp 2) (.tmp 14), none, 2⟩,
  ⟨(some 16), .load 22 (.tmp 15), none, 6⟩,
  ⟨(some 17), .move (.tmp 8), none, 0⟩,
  ⟨(some 18), .indexAddr 24 (.tmp 3) (.tmp 17), none, 16⟩,
  ⟨(some 19), .load 22 (.tmp 18), none, 48⟩,
  ⟨(some 20), .move (.tmp 7), none, 0⟩,
  ⟨(some 21), .call { callee := .value (.func 90), args := #[.tmp 16, .tmp 19, .tmp 20], argTypes := #[22, 22, 22] }, none, 254⟩,
  ⟨(some 12), .move (.tmp 21), none, 510⟩,
  ⟨(some 22), .extract (.tmp 12) 0, none, 1022⟩,
  ⟨(some 23), .extract (.tmp 12) 1, none, 1022⟩,
  ⟨(some 24), .indexAddr 24 (.tmp 6) (.tmp 13), none, 2047⟩,
  ⟨none, .store 22 (.tmp 24) (.tmp 22), none, 6143⟩,
  ⟨(some 7), .assign (.tmp 23), none, 1267650600228229401496703221759⟩]
def L78r7 : List AOp := [
  ⟨(some 25), .binOp .add 3 (.tmp 9) (.const (.int .i64 1)) 3, none, 0⟩,
  ⟨(some 9), .move (.tmp 25), none, 0⟩]
def L78r8 : List AOp := [
  ⟨(some 26), .load 24 (.tmp 6), none, 0⟩,
  ⟨(some 27), .move (.tmp 7), none, 0⟩,
  ⟨none, .store 24 (.tmp 4) (.tmp 26), none, 0⟩,
  ⟨(some 5), .assign (.tmp 27), none, 0⟩]
def L78 : LC := (.seq (.region L78r0) (.seq (.region L78r1) (.seq (.region L78r2) (.seq (.seq (.region L78r3) (.block 0 (.loop (.seq (.region L78r4) (.seq (.cond (.tmp 10) .skip (.exit 0)) (.seq (.block 1 (.seq (.region L78r5) (.regionD L78r6))) (.region L78r7))))))) (.seq (.region L78r8) .ret)))))
theorem nt78 : Tryd.f78.ntmps = 28 := by kernel_rfl
theorem rs78 : Tryd.f78.results.toList = [.cell 4 24, .tmp 5] := by kernel_rfl
theorem lite78 : Tryd.f78.body.map (lite okDraw) = some L78 := by kernel_rfl
def L79r0 : List AOp := [
  ⟨(some 2), .box 93 (.tmp 0), none, 0⟩,
  ⟨(some 3), .box 82 (.tmp 1), none, 0⟩,
  ⟨(some 4), .alloc 24, none, 0⟩]
def L79r1 : List AOp := [
  ⟨(some 5), .assign (.const (.int .u64 0)), none, 0⟩]
def L79r2 : List AOp := [
  ⟨(some 16), .move (.const (.int .i64 0)), none, 0⟩]
def L79r3 : List AOp := [
  ⟨(some 17), .binOp .lss 3 (.tmp 16) (.const (.int .i64 6)) 3, none, 0⟩]
def L79r4 : List AOp := [
  ⟨(some 18), .move (.tmp 16), none, 0⟩,
  ⟨(some 6), .assign (.tmp 18), none, 0⟩]
def L79r5 : List AOp := [
  ⟨(some 19), .move (.tmp 6), none, 0⟩,
  ⟨(some 20), .indexAddr 93 (.tmp 2) (.tmp 19), none, 1⟩,
  ⟨(some 21), .load 22 (.tmp 20), none, 3⟩,
  ⟨(some 22), .fieldAddr 82 (.tmp 3) 1, none, 0⟩,
  ⟨(some 23), .load 22 (.tmp 22), none, 8⟩,
  ⟨(some 24), .binOp .mul 22 (.tmp 21) (.tmp 23) 22, none, 1267650600228229401496703205407⟩,
  ⟨(some 7), .assign (.tmp 24), none, 1267650600228229401496703205439⟩]
def L79r6 : List AOp := [
  ⟨(some 8), .assign (.const (.int .u64 0)), none, 0⟩]
def L79r7 : List AOp := [
  ⟨(some 25), .move (.const (.int .i64 0)), none, 0⟩]
def L79r8 : List AOp := [
  ⟨(some 26), .binOp .lss 3 (.tmp 25) (.const (.int .i64 6)) 3, none, 0⟩]
def L79r9 : List AOp := [
  ⟨(some 27), .move (.tmp 25), none, 0⟩,
  ⟨(some 9), .assign (.tmp 27), none, 0⟩]
def L79r10 : List AOp := [
  ⟨(some 29), .move (.tmp 7), none, 0⟩,
  ⟨(some 30), .move (.tmp 9), none, 0⟩,
  ⟨(some 31), .fieldAddr 82 (.tmp 3) 0, none, 0⟩,
  ⟨(some 32), .indexAddr 24 (.tmp 31) (.tmp 30), none, 0⟩,
  ⟨(some 33), .load 22 (.tmp 32), none, 0⟩,
  ⟨(some 34), .call { callee := .value (.func 91), args := #[.tmp 29, .tmp 33], argTypes := #[22, 22] }, none, 0⟩,
  ⟨(some 28), .move (.tmp 34), none, 0⟩,
  ⟨(some 35), .extract (.tmp 28) 0, none, 0⟩,
  ⟨(some 36), .extract (.tmp 28) 1, none, 0⟩,
  ⟨(some 10), .assign (.tmp 35), none, 0⟩,
  ⟨(some 11), .assign (.tmp 36), none, 0⟩]
def L79r11 : List AOp := [
  ⟨(some 12), .assign (.const (.int .u64 0)), none, 0⟩]
def L79r12 : List AOp := [
  ⟨(some 38), .move (.tmp 11), none, 0⟩,
  ⟨(some 39), .move (.tmp 6), none, 0⟩,
  ⟨(some 40), .move (.tmp 9), none, 0⟩,
  ⟨(some 41), .binOp .add 3 (.tmp 39) (.tmp 40) 3, none, 0⟩,
  ⟨(some 42), .indexAddr 93 (.tmp 2) (.tmp 41), none, 0⟩,
  ⟨(some 43), .load 22 (.tmp 42), none, 0⟩,
  ⟨(some 44), .call { callee := .value (.func 92), args := #[.tmp 38, .tmp 43, .const (.int .u64 0)], argTypes := #[22, 22, 22] }, none, 0⟩,
  ⟨(some 37), .move (.tmp 44), none, 0⟩,
  ⟨(some 45), .extract (.tmp 37) 0, none, 0⟩,
  ⟨(some 46), .extract (.tmp 37) 1, none, 0⟩,
  ⟨(some 11), .assign (.tmp 45), none, 0⟩,
  ⟨(some 12), .assign (.tmp 46), none, 0⟩]
def L79r13 : List AOp := [
  ⟨(some 47), .move (.tmp 10), none, 0⟩,
  ⟨(some 48), .move (.tmp 12), none, 0⟩,
  ⟨(some 49), .binOp .add 22 (.tmp 47) (.tmp 48) 22, none, 0⟩,
  ⟨(some 10), .assign (.tmp 49), none, 0⟩]
def L79r14 : List AOp := [
  ⟨(some 51), .move (.tmp 11), none, 0⟩,
  ⟨(some 52), .move (.tmp 8), none, 0⟩,
  ⟨(some 53), .call { callee := .value (.func 92), args := #[.tmp 51, .tmp 52, .const (.int .u64 0)], argTypes := #[22, 22, 22] }, none, 0⟩,
  ⟨(some 50), .move (.tmp 53), none, 0⟩,
  ⟨(some 54), .extract (.tmp 50) 0, none, 0⟩,
  ⟨(some 55), .extract (.tmp 50) 1, none, 0⟩,
  ⟨(some 11), .assign (.tmp 54), none, 0⟩,
  ⟨(some 12), .assign (.tmp 55), none, 0⟩]
def L79r15 : List AOp := [
  ⟨(some 56), .move (.tmp 6), none, 0⟩,
  ⟨(some 57), .move (.tmp 9), none, 0⟩,
  ⟨(some 58), .binOp .add 3 (.tmp 56) (.tmp 57) 3, none, 0⟩,
  ⟨(some 59), .move (.tmp 11), none, 0⟩,
  ⟨(some 60), .move (.tmp 10), none, 0⟩,
  ⟨(some 61), .move (.tmp 12), none, 0⟩,
  ⟨(some 62), .binOp .add 22 (.tmp 60) (.tmp 61) 22, none, 0⟩,
  ⟨(some 63), .indexAddr 93 (.tmp 2) (.tmp 58), none, 0⟩,
  ⟨none, .store 22 (.tmp 63) (.tmp 59), none, 0⟩,
  ⟨(some 8), .assign (.tmp 62), none, 0⟩]
def L79r16 : List AOp := [
  ⟨(some 64), .binOp .add 3 (.tmp 25) (.const (.int .i64 1)) 3, none, 0⟩,
  ⟨(some 25), .move (.tmp 64), none, 0⟩]
def L79r17 : List AOp := [
  ⟨(some 13), .assign (.const (.int .u64 0)), none, 0⟩]
def L79r18 : List AOp := [
  ⟨(some 65), .move (.tmp 6), none, 0⟩,
  ⟨(some 66), .binOp .add 3 (.tmp 65) (.const (.int .i64 6)) 3, none, 0⟩,
  ⟨(some 14), .assign (.tmp 66), none, 0⟩]
def L79r19 : List AOp := [
  ⟨(some 67), .move (.tmp 14), none, 0⟩,
  ⟨(some 68), .binOp .lss 3 (.tmp 67) (.const (.int .i64 12)) 3, none, 0⟩]
def L79r21 : List AOp := [
  ⟨(some 72), .move (.tmp 14), none, 0⟩,
  ⟨(some 73), .move (.tmp 14), none, 0⟩,
  ⟨(some 74), .indexAddr 93 (.tmp 2) (.tmp 73), none, 0⟩,
  ⟨(some 75), .load 22 (.tmp 74), none, 0⟩,
  ⟨(some 76), .move (.tmp 8), none, 0⟩,
  ⟨(some 77), .call { callee := .value (.func 92), args := #[.tmp 75, .tmp 76, .const (.int .u64 0)], argTypes := #[22, 22, 22] }, none, 0⟩,
  ⟨(some 71), .move (.tmp 77), none, 0⟩,
  ⟨(some 78), .extract (.tmp 71) 0, none, 0⟩,
  ⟨(some 79), .extract (.tmp 71) 1, none, 0⟩,
  ⟨(some 80), .indexAddr 93 (.tmp 2) (.tmp 72), none, 0⟩,
  ⟨none, .store 22 (.tmp 80) (.tmp 78), none, 0⟩,
  ⟨(some 13), .assign (.tmp 79), none, 0⟩]
def L79r22 : List AOp := [
  ⟨(some 81), .move (.tmp 13), none, 0⟩,
  ⟨(some 8), .assign (.tmp 81), none, 0⟩]
def L79r20 : List AOp := [
  ⟨(some 69), .move (.tmp 14), none, 0⟩,
  ⟨(some 70), .binOp .add 3 (.tmp 69) (.const (.int .i64 1)) 3, none, 0⟩,
  ⟨(some 14), .assign (.tmp 70), none, 0⟩]
def L79r23 : List AOp := [
  ⟨(some 82), .move (.tmp 5), none, 0⟩,
  ⟨(some 83), .move (.tmp 8), none, 0⟩,
  ⟨(some 84), .binOp .add 22 (.tmp 82) (.tmp 83) 22, none, 0⟩,
  ⟨(some 5), .assign (.tmp 84), none, 0⟩]
def L79r24 : List AOp := [
  ⟨(some 85), .binOp .add 3 (.tmp 16) (.const (.int .i64 1)) 3, none, 0⟩,
  ⟨(some 16), .move (.tmp 85), none, 0⟩]
def L79r25 : List AOp := [
  ⟨(some 86), .slice 93 (.tmp 2) (some (.const (.int .i64 6))) none none, none, 0⟩,
  ⟨(some 87), .sliceToArrayPointer 24 (.tmp 86), none, 0⟩,
  ⟨(some 88), .load 24 (.tmp 87), none, 0⟩,
  ⟨(some 15), .alloc 24, none, 0⟩,
  ⟨none, .store 24 (.tmp 15) (.tmp 88), none, 0⟩]
def L79r26 : List AOp := [
  ⟨(some 89), .load 24 (.tmp 15), none, 0⟩,
  ⟨(some 90), .move (.tmp 5), none, 0⟩,
  ⟨(some 91), .fieldAddr 82 (.tmp 3) 0, none, 0⟩,
  ⟨(some 92), .load 24 (.tmp 91), none, 0⟩,
  ⟨(some 93), .call { callee := .value (.func 84), args := #[.tmp 89, .tmp 90, .tmp 92], argTypes := #[24, 22, 24] }, none, 0⟩,
  ⟨none, .store 24 (.tmp 15) (.tmp 93), none, 0⟩]
def L79r27 : List AOp := [
  ⟨(some 94), .load 24 (.tmp 15), none, 0⟩,
  ⟨(some 95), .fieldAddr 82 (.tmp 3) 0, none, 0⟩,
  ⟨(some 96), .load 24 (.tmp 95), none, 0⟩,
  ⟨(some 97), .call { callee := .value (.func 84), args := #[.tmp 94, .const (.int .u64 0), .tmp 96], argTypes := #[24, 22, 24] }, none, 0⟩,
  ⟨none, .store 24 (.tmp 4) (.tmp 97), none, 0⟩]
def L79 : LC := (.seq (.region L79r0) (.seq (.region L79r1) (.seq (.seq (.region L79r2) (.block 0 (.loop (.seq (.region L79r3) (.seq (.cond (.tmp 17) .skip (.exit 0)) (.seq (.block 1 (.seq (.region L79r4) (.seq (.regionD L79r5) (.seq (.region L79r6) (.seq (.seq (.region L79r7) (.block 2 (.loop (.seq (.region L79r8) (.seq (.cond (.tmp 26) .skip (.exit 2)) (.seq (.block 3 (.seq (.region L79r9) (.seq (.region L79r10) (.seq (.region L79r11) (.seq (.region L79r12) (.seq (.region L79r13) (.seq (.region L79r14) (.region L79r15)))))))) (.region L79r16))))))) (.seq (.region L79r17) (.seq (.seq (.region L79r18) (.block 4 (.loop (.seq (.seq (.region L79r19) (.cond (.tmp 68) .skip (.exit 4))) (.seq (.block 5 (.seq (.region L79r21) (.region L79r22))) (.region L79r20)))))) (.region L79r23)))))))) (.region L79r24))))))) (.seq (.region L79r25) (.seq (.region L79r26) (.seq (.region L79r27) .ret))))))
theorem nt79 : Tryd.f79.ntmps = 98 := by kernel_rfl
theorem rs79 : Tryd.f79.results.toList = [.cell 4 24] := by kernel_rfl
theorem lite79 : Tryd.f79.body.map (lite okDraw) = some L79 := by kernel_rfl
def L80r0 : List AOp := [
  ⟨(some 2), .box 24 (.tmp 0), none, 0⟩,
  ⟨(some 3), .box 24 (.tmp 1), none, 0⟩,
  ⟨(some 4), .alloc 93, none, 0⟩]
def L80r1 : List AOp := [
  ⟨(some 5), .alloc 93, none, 0⟩]
def L80r2 : List AOp := [
  ⟨(some 12), .move (.const (.int .i64 0)), none, 0⟩]
def L80r3 : List AOp := [
  ⟨(some 13), .binOp .lss 3 (.tmp 12) (.const (.int .i64 6)) 3, none, 0⟩]
def L80r4 : List AOp := [
  ⟨(some 14), .move (.tmp 12), none, 0⟩,
  ⟨(some 6), .assign (.tmp 14), none, 0⟩]
def L80r5 : List AOp := [
  ⟨(some 7), .assign (.const (.int .u64 0)), none, 0⟩]
def L80r6 : List AOp := [
  ⟨(some 15), .move (.const (.int .i64 0)), none, 0⟩]
def L80r7 : List AOp := [
  ⟨(some 16), .binOp .lss 3 (.tmp 15) (.const (.int .i64 6)) 3, none, 0⟩]
def L80r8 : List AOp := [
  ⟨(some 17), .move (.tmp 15), none, 0⟩,
  ⟨(some 8), .assign (.tmp 17), none, 0⟩]
def L80r9 : List AOp := [
  ⟨(some 19), .move (.tmp 6), none, 0⟩,
  ⟨(some 20), .indexAddr 24 (.tmp 2) (.tmp 19), none, 1⟩,
  ⟨(some 21), .load 22 (.tmp 20), none, 3⟩,
  ⟨(some 22), .move (.tmp 8), none, 0⟩,
  ⟨(some 23), .indexAddr 24 (.tmp 3) (.tmp 22), none, 8⟩,
  ⟨(some 24), .load 22 (.tmp 23), none, 24⟩,
  ⟨(some 25), .call { callee := .value (.func 91), args := #[.tmp 21, .tmp 24], argTypes := #[22, 22] }, none, 1267650600228229401496703205439⟩,
  ⟨(some 18), .move (.tmp 25), none, 1267650600228229401496703205503⟩,
  ⟨(some 26), .extract (.tmp 18) 0, none, 255⟩,
  ⟨(some 27), .extract (.tmp 18) 1, none, 255⟩,
  ⟨(some 9), .assign (.tmp 26), none, 511⟩,
  ⟨(some 10), .assign (.tmp 27), none, 1267650600228229401496703207423⟩]
def L80r10 : List AOp := [
  ⟨(some 11), .assign (.const (.int .u64 0)), none, 0⟩]
def L80r11 : List AOp := [
  ⟨(some 29), .move (.tmp 10), none, 0⟩,
  ⟨(some 30), .move (.tmp 6), none, 0⟩,
  ⟨(some 31), .move (.tmp 8), none, 0⟩,
  ⟨(some 32), .binOp .add 3 (.tmp 30) (.tmp 31) 3, none, 0⟩,
  ⟨(some 33), .indexAddr 93 (.tmp 5) (.tmp 32), none, 0⟩,
  ⟨(some 34), .load 22 (.tmp 33), none, 0⟩,
  ⟨(some 35), .call { callee := .value (.func 92), args := #[.tmp 29, .tmp 34, .const (.int .u64 0)], argTypes := #[22, 22, 22] }, none, 0⟩,
  ⟨(some 28), .move (.tmp 35), none, 0⟩,
  ⟨(some 36), .extract (.tmp 28) 0, none, 0⟩,
  ⟨(some 37), .extract (.tmp 28) 1, none, 0⟩,
  ⟨(some 10), .assign (.tmp 36), none, 0⟩,
  ⟨(some 11), .assign (.tmp 37), none, 0⟩]
def L80r12 : List AOp := [
  ⟨(some 38), .move (.tmp 9), none, 0⟩,
  ⟨(some 39), .move (.tmp 11), none, 0⟩,
  ⟨(some 40), .binOp .add 22 (.tmp 38) (.tmp 39) 22, none, 0⟩,
  ⟨(some 9), .assign (.tmp 40), none, 0⟩]
def L80r13 : List AOp := [
  ⟨(some 42), .move (.tmp 10), none, 0⟩,
  ⟨(some 43), .move (.tmp 7), none, 0⟩,
  ⟨(some 44), .call { callee := .value (.func 92), args := #[.tmp 42, .tmp 43, .const (.int .u64 0)], argTypes := #[22, 22, 22] }, none, 0⟩,
  ⟨(some 41), .move (.tmp 44), none, 0⟩,
  ⟨(some 45), .extract (.tmp 41) 0, none, 0⟩,
  ⟨(some 46), .extract (.tmp 41) 1, none, 0⟩,
  ⟨(some 10), .assign (.tmp 45), none, 0⟩,
  ⟨(some 11), .assign (.tmp 46), none, 0⟩]
def L80r14 : List AOp := [
  ⟨(some 47), .move (.tmp 6), none, 0⟩,
  ⟨(some 48), .move (.tmp 8), none, 0⟩,
  ⟨(some 49), .binOp .add 3 (.tmp 47) (.tmp 48) 3, none, 0⟩,
  ⟨(some 50), .move (.tmp 10), none, 0⟩,
  ⟨(some 51), .move (.tmp 9), none, 0⟩,
  ⟨(some 52), .move (.tmp 11), none, 0⟩,
  ⟨(some 53), .binOp .add 22 (.tmp 51) (.tmp 52) 22, none, 0⟩,
  ⟨(some 54), .indexAddr 93 (.tmp 5) (.tmp 49), none, 0⟩,
  ⟨none, .store 22 (.tmp 54) (.tmp 50), none, 0⟩,
  ⟨(some 7), .assign (.tmp 53), none, 0⟩]
def L80r15 : List AOp := [
  ⟨(some 55), .binOp .add 3 (.tmp 15) (.const (.int .i64 1)) 3, none, 0⟩,
  ⟨(some 15), .move (.tmp 55), none, 0⟩]
def L80r16 : List AOp := [
  ⟨(some 56), .move (.tmp 6), none, 0⟩,
  ⟨(some 57), .binOp .add 3 (.tmp 56) (.const (.int .i64 6)) 3, none, 0⟩,
  ⟨(some 58), .move (.tmp 7), none, 0⟩,
  ⟨(some 59), .indexAddr 93 (.tmp 5) (.tmp 57), none, 0⟩,
  ⟨none, .store 22 (.tmp 59) (.tmp 58), none, 0⟩]
def L80r17 : List AOp := [
  ⟨(some 60), .binOp .add 3 (.tmp 12) (.const (.int .i64 1)) 3, none, 0⟩,
  ⟨(some 12), .move (.tmp 60), none, 0⟩]
def L80r18 : List AOp := [
  ⟨(some 61), .load 93 (.tmp 5), none, 0⟩,
  ⟨none, .store 93 (.tmp 4) (.tmp 61), none, 0⟩]
def L80 : LC := (.seq (.region L80r0) (.seq (.region L80r1) (.seq (.seq (.region L80r2) (.block 0 (.loop (.seq (.region L80r3) (.seq (.cond (.tmp 13) .skip (.exit 0)) (.seq (.block 1 (.seq (.region L80r4) (.seq (.region L80r5) (.seq (.seq (.region L80r6) (.block 2 (.loop (.seq (.region L80r7) (.seq (.cond (.tmp 16) .skip (.exit 2)) (.seq (.block 3 (.seq (.region L80r8) (.seq (.regionD L80r9) (.seq (.region L80r10) (.seq (.region L80r11) (.seq (.region L80r12) (.seq (.region L80r13) (.region L80r14)))))))) (.region L80r15))))))) (.region L80r16))))) (.region L80r17))))))) (.seq (.region L80r18) .ret))))
theorem nt80 : Tryd.f80.ntmps = 62 := by kernel_rfl
theorem rs80 : Tryd.f80.results.toList = [.cell 4 93] := by kernel_rfl
theorem lite80 : Tryd.f80.body.map (lite okDraw) = some L80 := by kernel_rfl
def L81r0 : List AOp := [
  ⟨(some 3), .box 24 (.tmp 0), none, 0⟩,
  ⟨(some 4), .box 24 (.tmp 1), none, 0⟩,
  ⟨(some 5), .box 82 (.tmp 2), none, 0⟩,
  ⟨(some 6), .alloc 24, none, 0⟩]
def L81r1 : List AOp := [
  ⟨(some 7), .load 24 (.tmp 3), none, 0⟩,
  ⟨(some 8), .load 24 (.tmp 4), none, 0⟩,
  ⟨(some 9), .call { callee := .value (.func 80), args := #[.tmp 7, .tmp 8], argTypes := #[24, 24] }, none, 3⟩,
  ⟨(some 10), .load 82 (.tmp 5), none, 0⟩,
  ⟨(some 11), .call { callee := .value (.func 79), args := #[.tmp 9, .tmp 10], argTypes := #[93, 82] }, none, 1267650600228229401496703205391⟩,
  ⟨none, .store 24 (.tmp 6) (.tmp 11), none, 1267650600228229401496703205407⟩]
def L81 : LC := (.seq (.region L81r0) (.seq (.regionD L81r1) .ret))
theorem nt81 : Tryd.f81.ntmps = 12 := by kernel_rfl
theorem rs81 : Tryd.f81.results.toList = [.cell 6 24] := by kernel_rfl
theorem lite81 : Tryd.f81.body.map (lite okDraw) = some L81 := by kernel_rfl
def L82r0 : List AOp := [
  ⟨(some 2), .box 24 (.tmp 0), none, 0⟩,
  ⟨(some 3), .box 24 (.tmp 1), none, 0⟩,
  ⟨(some 4), .alloc 24, none, 0⟩,
  ⟨(some 5), .assign (.const (.int .u64 0)), none, 0⟩]
def L82r1 : List AOp := [
  ⟨(some 6), .alloc 24, none, 0⟩]
def L82r2 : List AOp := [
  ⟨(some 7), .assign (.const (.int .u64 0)), none, 0⟩]
def L82r3 : List AOp := [
  ⟨(some 9), .move (.const (.int .i64 0)), none, 0⟩]
def L82r4 : List AOp := [
  ⟨(some 10), .binOp .lss 3 (.tmp 9) (.const (.int .i64 6)) 3, none, 0⟩]
def L82r5 : List AOp := [
  ⟨(some 11), .move (.tmp 9), none, 0⟩,
  ⟨(some 8), .assign (.tmp 11), none, 0⟩]
def L82r6 : List AOp := [
  ⟨(some 13), .move (.tmp 8), none, 0⟩,
  ⟨(some 14), .move (.tmp 8), none, 0⟩,
  ⟨(some 15), .indexAddr 24 (.tmp 2) (.tmp 14), none, 2⟩,
  ⟨(some 16), .load 22 (.tmp 15), none, 6⟩,
  ⟨(some 17), .move (.tmp 8), none, 0⟩,
  ⟨(some 18), .indexAddr 24 (.tmp 3) (.tmp 17), none, 16⟩,
  ⟨(some 19), .load 22 (.tmp 18), none, 48⟩,
  ⟨(some 20), .move (.tmp 7), none, 0⟩,
  ⟨(some 21), .call { callee := .value (.func 92), args := #[.tmp 16, .tmp 19, .tmp 20], argTypes := #[22, 22, 22] }, none, 254⟩,
  ⟨(some 12), .move (.tmp 21), none, 510⟩,
  ⟨(some 22), .extract (.tmp 12) 0, none, 1022⟩,
  ⟨(some 23), .extract (.tmp 12) 1, none, 1022⟩,
  ⟨(some 24), .indexAddr 24 (.tmp 6) (.tmp 13), none, 2047⟩,
  ⟨none, .store 22 (.tmp 24) (.tmp 22), none, 6143⟩,
  ⟨(some 7), .assign (.tmp 23), none, 1267650600228229401496703221759⟩]
def L82r7 : List AOp := [
  ⟨(some 25), .binOp .add 3 (.tmp 9) (.const (.int .i64 1)) 3, none, 0⟩,
  ⟨(some 9), .move (.tmp 25), none, 0⟩]
def L82r8 : List AOp := [
  ⟨(some 26), .load 24 (.tmp 6), none, 0⟩,
  ⟨(some 27), .move (.tmp 7), none, 0⟩,
  ⟨none, .store 24 (.tmp 4) (.tmp 26), none, 0⟩,
  ⟨(some 5), .assign (.tmp 27), none, 0⟩]
def L82 : LC := (.seq (.region L82r0) (.seq (.region L82r1) (.seq (.region L82r2) (.seq (.seq (.region L82r3) (.block 0 (.loop (.seq (.region L82r4) (.seq (.cond (.tmp 10) .skip (.exit 0)) (.seq (.block 1 (.seq (.region L82r5) (.regionD L82r6))) (.region L82r7))))))) (.seq (.region L82r8) .ret)))))
theorem nt82 : Tryd.f82.ntmps = 28 := by kernel_rfl
theorem rs82 : Tryd.f82.results.toList = [.cell 4 24, .tmp 5] := by kernel_rfl
theorem lite82 : Tryd.f82.body.map (lite okDraw) = some L82 := by kernel_rfl
def L83r0 : List AOp := [
  ⟨(some 2), .box 24 (.tmp 0), none, 0⟩,
  ⟨(some 3), .box 82 (.tmp 1), none, 0⟩,
  ⟨(some 4), .alloc 24, none, 0⟩]
def L83r1 : List AOp := [
  ⟨(some 5), .load 24 (.tmp 2), none, 0⟩,
  ⟨(some 6), .fieldAddr 82 (.tmp 3) 0, none, 0⟩,
  ⟨(some 7), .load 24 (.tmp 6), none, 0⟩,
  ⟨(some 8), .call { callee := .value (.func 84), args := #[.tmp 5, .const (.int .u64 0), .tmp 7], argTypes := #[24, 22, 24] }, none, 0⟩,
  ⟨none, .store 24 (.tmp 4) (.tmp 8), none, 0⟩]
def L83 : LC := (.seq (.region L83r0) (.seq (.region L83r1) .ret))
theorem nt83 : Tryd.f83.ntmps = 9 := by kernel_rfl
theorem rs83 : Tryd.f83.results.toList = [.cell 4 24] := by kernel_rfl
theorem lite83 : Tryd.f83.body.map (lite okDraw) = some L83 := by kernel_rfl
def L84r0 : List AOp := [
  ⟨(some 3), .box 24 (.tmp 0), none, 0⟩,
  ⟨(some 5), .box 24 (.tmp 2), none, 0⟩,
  ⟨(some 6), .alloc 24, none, 0⟩]
def L84r1 : List AOp := [
  ⟨(some 10), .load 24 (.tmp 3), none, 0⟩,
  ⟨(some 11), .load 24 (.tmp 5), none, 0⟩,
  ⟨(some 12), .call { callee := .value (.func 78), args := #[.tmp 10, .tmp 11], argTypes := #[24, 24] }, none, 0⟩,
  ⟨(some 9), .move (.tmp 12), none, 0⟩,
  ⟨(some 13), .extract (.tmp 9) 0, none, 0⟩,
  ⟨(some 14), .extract (.tmp 9) 1, none, 0⟩,
  ⟨(some 7), .alloc 24, none, 0⟩,
  ⟨none, .store 24 (.tmp 7) (.tmp 13), none, 0⟩,
  ⟨(some 8), .assign (.tmp 14), none, 0⟩]
def L84r2 : List AOp := [
  ⟨(some 15), .move (.tmp 1), none, 0⟩,
  ⟨(some 16), .move (.tmp 8), none, 0⟩,
  ⟨(some 17), .binOp .xor 22 (.const (.int .u64 1)) (.tmp 16) 22, none, 0⟩,
  ⟨(some 18), .binOp .or 22 (.tmp 15) (.tmp 17) 22, none, 0⟩,
  ⟨(some 19), .load 24 (.tmp 3), none, 0⟩,
  ⟨(some 20), .load 24 (.tmp 7), none, 0⟩,
  ⟨(some 21), .call { callee := .value (.func 87), args := #[.tmp 18, .tmp 19, .tmp 20], argTypes := #[22, 24, 24] }, none, 0⟩,
  ⟨none, .store 24 (.tmp 6) (.tmp 21), none, 0⟩]
def L84 : LC := (.seq (.region L84r0) (.seq (.region L84r1) (.seq (.region L84r2) .ret)))
theorem nt84 : Tryd.f84.ntmps = 22 := by kernel_rfl
theorem rs84 : Tryd.f84.results.toList = [.cell 6 24] := by kernel_rfl
theorem lite84 : Tryd.f84.body.map (lite okDraw) = some L84 := by kernel_rfl
def L85r0 : List AOp := [
  ⟨(some 3), .box 24 (.tmp 0), none, 0⟩,
  ⟨(some 4), .box 24 (.tmp 1), none, 0⟩,
  ⟨(some 5), .box 82 (.tmp 2), none, 0⟩,
  ⟨(some 6), .alloc 24, none, 0⟩]
def L85r1 : List AOp := [
  ⟨(some 10), .load 24 (.tmp 3), none, 0⟩,
  ⟨(some 11), .fieldAddr 82 (.tmp 5) 2, none, 0⟩,
  ⟨(some 12), .load 24 (.tmp 11), none, 0⟩,
  ⟨(some 13), .load 82 (.tmp 5), none, 0⟩,
  ⟨(some 14), .call { callee := .value (.func 81), args := #[.tmp 10, .tmp 12, .tmp 13], argTypes := #[24, 24, 82] }, none, 0⟩,
  ⟨(some 7), .alloc 24, none, 0⟩,
  ⟨none, .store 24 (.tmp 7) (.tmp 14), none, 0⟩]
def L85r2 : List AOp := [
  ⟨(some 15), .build 24 #[(0, .const (.int .u64 1))], none, 0⟩,
  ⟨(some 16), .fieldAddr 82 (.tmp 5) 2, none, 0⟩,
  ⟨(some 17), .load 24 (.tmp 16), none, 0⟩,
  ⟨(some 18), .load 82 (.tmp 5), none, 0⟩,
  ⟨(some 19), .call { callee := .value (.func 81), args := #[.tmp 15, .tmp 17, .tmp 18], argTypes := #[24, 24, 82] }, none, 0⟩,
  ⟨(some 8), .alloc 24, none, 0⟩,
  ⟨none, .store 24 (.tmp 8) (.tmp 19), none, 0⟩]
def L85r3 : List AOp := [
  ⟨(some 9), .assign (.const (.int .i64 383)), none, 0⟩]
def L85r4 : List AOp := [
  ⟨(some 20), .move (.tmp 9), none, 0⟩,
  ⟨(some 21), .binOp .geq 3 (.tmp 20) (.const (.int .i64 0)) 3, none, 0⟩]
def L85r6 : List AOp := [
  ⟨(some 24), .load 24 (.tmp 8), none, 0⟩,
  ⟨(some 25), .load 24 (.tmp 8), none, 0⟩,
  ⟨(some 26), .load 82 (.tmp 5), none, 0⟩,
  ⟨(some 27), .call { callee := .value (.func 81), args := #[.tmp 24, .tmp 25, .tmp 26], argTypes := #[24, 24, 82] }, none, 0⟩,
  ⟨none, .store 24 (.tmp 8) (.tmp 27), none, 0⟩]
def L85r7 : List AOp := [
  ⟨(some 28), .load 24 (.tmp 4), none, 0⟩,
  ⟨(some 29), .move (.tmp 9), none, 0⟩,
  ⟨(some 30), .call { callee := .value (.func 64), args := #[.tmp 28, .tmp 29], argTypes := #[24, 3] }, none, 3⟩,
  ⟨(some 31), .load 24 (.tmp 8), none, 0⟩,
  ⟨(some 32), .load 24 (.tmp 8), none, 0⟩,
  ⟨(some 33), .load 24 (.tmp 7), none, 0⟩,
  ⟨(some 34), .load 82 (.tmp 5), none, 0⟩,
  ⟨(some 35), .call { callee := .value (.func 81), args := #[.tmp 32, .tmp 33, .tmp 34], argTypes := #[24, 24, 82] }, none, 119⟩,
  ⟨(some 36), .call { callee := .value (.func 87), args := #[.tmp 30, .tmp 31, .tmp 35], argTypes := #[22, 24, 24] }, none, 1267650600228229401496703205631⟩,
  ⟨none, .store 24 (.tmp 8) (.tmp 36), none, 1267650600228229401496703205887⟩]
def L85r5 : List AOp := [
  ⟨(some 22), .move (.tmp 9), none, 0⟩,
  ⟨(some 23), .binOp .sub 3 (.tmp 22) (.const (.int .i64 1)) 3, none, 0⟩,
  ⟨(some 9), .assign (.tmp 23), none, 0⟩]
def L85r8 : List AOp := [
  ⟨(some 37), .load 24 (.tmp 8), none, 0⟩,
  ⟨(some 38), .build 24 #[(0, .const (.int .u64 1))], none, 0⟩,
  ⟨(some 39), .load 82 (.tmp 5), none, 0⟩,
  ⟨(some 40), .call { callee := .value (.func 81), args := #[.tmp 37, .tmp 38, .tmp 39], argTypes := #[24, 24, 82] }, none, 0⟩,
  ⟨none, .store 24 (.tmp 6) (.tmp 40), none, 0⟩]
def L85 : LC := (.seq (.region L85r0) (.seq (.region L85r1) (.seq (.region L85r2) (.seq (.seq (.region L85r3) (.block 0 (.loop (.seq (.seq (.region L85r4) (.cond (.tmp 21) .skip (.exit 0))) (.seq (.block 1 (.seq (.region L85r6) (.regionD L85r7))) (.region L85r5)))))) (.seq (.region L85r8) .ret)))))
theorem nt85 : Tryd.f85.ntmps = 41 := by kernel_rfl
theorem rs85 : Tryd.f85.results.toList = [.cell 6 24] := by kernel_rfl
theorem lite85 : Tryd.f85.body.map (lite okDraw) = some L85 := by kernel_rfl
def L87r0 : List AOp := [
  ⟨(some 4), .box 24 (.tmp 1), none, 0⟩,
  ⟨(some 5), .box 24 (.tmp 2), none, 0⟩,
  ⟨(some 6), .alloc 24, none, 0⟩]
def L87r1 : List AOp := [
  ⟨(some 10), .move (.tmp 0), none, 0⟩,
  ⟨(some 11), .binOp .and 22 (.tmp 10) (.const (.int .u64 1)) 22, none, 0⟩,
  ⟨(some 12), .unOp .neg 22 (.tmp 11), none, 0⟩,
  ⟨(some 7), .assign (.tmp 12), none, 0⟩]
def L87r2 : List AOp := [
  ⟨(some 8), .alloc 24, none, 0⟩]
def L87r3 : List AOp := [
  ⟨(some 13), .move (.const (.int .i64 0)), none, 0⟩]
def L87r4 : List AOp := [
  ⟨(some 14), .binOp .lss 3 (.tmp 13) (.const (.int .i64 6)) 3, none, 0⟩]
def L87r5 : List AOp := [
  ⟨(some 15), .move (.tmp 13), none, 0⟩,
  ⟨(some 9), .assign (.tmp 15), none, 0⟩]
def L87r6 : List AOp := [
  ⟨(some 16), .move (.tmp 9), none, 0⟩,
  ⟨(some 17), .move (.tmp 9), none, 0⟩,
  ⟨(some 18), .indexAddr 24 (.tmp 4) (.tmp 17), none, 2⟩,
  ⟨(some 19), .load 22 (.tmp 18), none, 6⟩,
  ⟨(some 20), .move (.tmp 7), none, 0⟩,
  ⟨(some 21), .binOp .andNot 22 (.tmp 19) (.tmp 20) 22, none, 30⟩,
  ⟨(some 22), .move (.tmp 9), none, 0⟩,
  ⟨(some 23), .indexAddr 24 (.tmp 5) (.tmp 22), none, 64⟩,
  ⟨(some 24), .load 22 (.tmp 23), none, 192⟩,
  ⟨(some 25), .move (.tmp 7), none, 0⟩,
  ⟨(some 26), .binOp .and 22 (.tmp 24) (.tmp 25) 22, none, 960⟩,
  ⟨(some 27), .binOp .or 22 (.tmp 21) (.tmp 26) 22, none, 2046⟩,
  ⟨(some 28), .indexAddr 24 (.tmp 8) (.tmp 16), none, 1267650600228229401496703209471⟩,
  ⟨none, .store 22 (.tmp 28) (.tmp 27), none, 1267650600228229401496703213567⟩]
def L87r7 : List AOp := [
  ⟨(some 29), .binOp .add 3 (.tmp 13) (.const (.int .i64 1)) 3, none, 0⟩,
  ⟨(some 13), .move (.tmp 29), none, 0⟩]
def L87r8 : List AOp := [
  ⟨(some 30), .load 24 (.tmp 8), none, 0⟩,
  ⟨none, .store 24 (.tmp 6) (.tmp 30), none, 0⟩]
def L87 : LC := (.seq (.region L87r0) (.seq (.region L87r1) (.seq (.region L87r2) (.seq (.seq (.region L87r3) (.block 0 (.loop (.seq (.region L87r4) (.seq (.cond (.tmp 14) .skip (.exit 0)) (.seq (.block 1 (.seq (.region L87r5) (.regionD L87r6))) (.region L87r7))))))) (.seq (.region L87r8) .ret)))))
theorem nt87 : Tryd.f87.ntmps = 31 := by kernel_rfl
theorem rs87 : Tryd.f87.results.toList = [.cell 6 24] := by kernel_rfl
theorem lite87 : Tryd.f87.body.map (lite okDraw) = some L87 := by kernel_rfl
def L88r0 : List AOp := [
  ⟨(some 4), .assign (.const (.slice none 0 0)), none, 0⟩]
def L88r1 : List AOp := [
  ⟨(some 8), .call { callee := .value (.func 93), args := #[], argTypes := #[] }, none, 0⟩,
  ⟨(some 9), .move (.tmp 1), none, 0⟩,
  ⟨(some 10), .call { callee := .value (.func 75), args := #[.tmp 8, .tmp 9], argTypes := #[31, 31] }, none, 0⟩,
  ⟨(some 5), .assign (.tmp 10), none, 0⟩]
def L88r2 : List AOp := [
  ⟨(some 12), .move (.tmp 0), none, 0⟩,
  ⟨(some 13), .call { callee := .value (.func 94), args := #[.tmp 12], argTypes := #[31] }, none, 0⟩,
  ⟨(some 11), .move (.tmp 13), none, 0⟩,
  ⟨(some 14), .extract (.tmp 11) 0, none, 0⟩,
  ⟨(some 15), .extract (.tmp 11) 1, none, 0⟩,
  ⟨(some 6), .assign (.tmp 14), none, 0⟩,
  ⟨(some 7), .assign (.tmp 15), none, 0⟩]
def L88r3 : List AOp := [
  ⟨(some 16), .move (.tmp 7), none, 0⟩,
  ⟨(some 17), .call { callee := .builtin .len, args := #[.tmp 16], argTypes := #[31] }, none, 0⟩,
  ⟨(some 18), .binOp .gtr 3 (.tmp 17) (.const (.int .i64 0)) 3, none, 0⟩]
def L88r4 : List AOp := [
  ⟨(some 20), .move (.tmp 6), none, 0⟩,
  ⟨(some 21), .move (.tmp 7), none, 0⟩,
  ⟨(some 22), .move (.tmp 5), none, 0⟩,
  ⟨(some 23), .call { callee := .value (.func 73), args := #[.tmp 21, .tmp 22], argTypes := #[31, 31] }, none, 0⟩,
  ⟨(some 24), .call { callee := .value (.func 74), args := #[.tmp 20, .tmp 23], argTypes := #[31, 31] }, none, 0⟩,
  ⟨(some 25), .call { callee := .value (.func 94), args := #[.tmp 24], argTypes := #[31] }, none, 0⟩,
  ⟨(some 19), .move (.tmp 25), none, 0⟩,
  ⟨(some 26), .extract (.tmp 19) 0, none, 0⟩,
  ⟨(some 27), .extract (.tmp 19) 1, none, 0⟩,
  ⟨(some 6), .assign (.tmp 26), none, 0⟩,
  ⟨(some 7), .assign (.tmp 27), none, 0⟩]
def L88r5 : List AOp := [
  ⟨(some 28), .move (.tmp 6), none, 0⟩,
  ⟨(some 29), .move (.tmp 1), none, 0⟩,
  ⟨(some 30), .call { callee := .value (.func 46), args := #[.tmp 28, .tmp 29], argTypes := #[31, 31] }, none, 0⟩,
  ⟨(some 31), .binOp .geq 3 (.tmp 30) (.const (.int .i64 0)) 3, none, 0⟩]
def L88r6 : List AOp := [
  ⟨(some 32), .move (.tmp 6), none, 0⟩,
  ⟨(some 33), .move (.tmp 1), none, 0⟩,
  ⟨(some 34), .call { callee := .value (.func 75), args := #[.tmp 32, .tmp 33], argTypes := #[31, 31] }, none, 0⟩,
  ⟨(some 6), .assign (.tmp 34), none, 0⟩]
def L88r7 : List AOp := [
  ⟨(some 35), .move (.tmp 6), none, 0⟩,
  ⟨(some 4), .assign (.tmp 35), none, 0⟩]
def L88 : LC := (.seq (.region L88r0) (.seq (.region L88r1) (.seq (.region L88r2) (.seq (.block 0 (.loop (.seq (.seq (.region L88r3) (.cond (.tmp 18) .skip (.exit 0))) (.block 1 (.region L88r4))))) (.seq (.block 2 (.loop (.seq (.seq (.region L88r5) (.cond (.tmp 31) .skip (.exit 2))) (.block 3 (.region L88r6))))) (.seq (.region L88r7) .ret))))))
theorem nt88 : Tryd.f88.ntmps = 36 := by kernel_rfl
theorem rs88 : Tryd.f88.results.toList = [.tmp 4] := by kernel_rfl
theorem lite88 : Tryd.f88.body.map (lite okDraw) = some L88 := by kernel_rfl
def L89r0 : List AOp := [
  ⟨(some 4), .assign (.const (.int .u64 0)), none, 0⟩]
def L89r1 : List AOp := [
  ⟨(some 5), .move (.tmp 1), none, 0⟩,
  ⟨(some 6), .move (.tmp 0), none, 0⟩,
  ⟨(some 7), .call { callee := .builtin .len, args := #[.tmp 6], argTypes := #[31] }, none, 0⟩,
  ⟨(some 8), .binOp .lss 3 (.tmp 5) (.tmp 7) 3, none, 0⟩]
def L89r2 : List AOp := [
  ⟨(some 9), .move (.tmp 0), none, 0⟩,
  ⟨(some 10), .move (.tmp 1), none, 0⟩,
  ⟨(some 11), .indexAddr 31 (.tmp 9) (.tmp 10), none, 0⟩,
  ⟨(some 12), .load 22 (.tmp 11), none, 0⟩,
  ⟨(some 4), .assign (.tmp 12), none, 0⟩]
def L89r3 : List AOp := [
  ⟨(some 4), .assign (.const (.int .u64 0)), none, 0⟩]
def L89 : LC := (.seq (.region L89r0) (.seq (.seq (.region L89r1) (.cond (.tmp 8) (.seq (.region L89r2) .ret) .skip)) (.seq (.region L89r3) .ret)))
theorem nt89 : Tryd.f89.ntmps = 13 := by kernel_rfl
theorem rs89 : Tryd.f89.results.toList = [.tmp 4] := by kernel_rfl
theorem lite89 : Tryd.f89.body.map (lite okDraw) = some L89 := by kernel_rfl
def L91r0 : List AOp := [
  ⟨(some 4), .assign (.const (.int .u64 0)), none, 0⟩,
  ⟨(some 5), .assign (.const (.int .u64 0)), none, 0⟩]
def L91r1 : List AOp := [
  ⟨(some 14), .move (.tmp 0), none, 0⟩,
  ⟨(some 15), .binOp .and 22 (.tmp 14) (.const (.int .u64 4294967295)) 22, none, 0⟩,
  ⟨(some 6), .assign (.tmp 15), none, 0⟩]
def L91r2 : List AOp := [
  ⟨(some 16), .move (.tmp 0), none, 0⟩,
  ⟨(some 17), .binOp .shr 22 (.tmp 16) (.const (.int .u64 32)) 97, none, 0⟩,
  ⟨(some 7), .assign (.tmp 17), none, 0⟩]
def L91r3 : List AOp := [
  ⟨(some 18), .move (.tmp 1), none, 0⟩,
  ⟨(some 19), .binOp .and 22 (.tmp 18) (.const (.int .u64 4294967295)) 22, none, 0⟩,
  ⟨(some 8), .assign (.tmp 19), none, 0⟩]
def L91r4 : List AOp := [
  ⟨(some 20), .move (.tmp 1), none, 0⟩,
  ⟨(some 21), .binOp .shr 22 (.tmp 20) (.const (.int .u64 32)) 97, none, 0⟩,
  ⟨(some 9), .assign (.tmp 21), none, 0⟩]
def L91r5 : List AOp := [
  ⟨(some 22), .move (.tmp 6), none, 0⟩,
  ⟨(some 23), .move (.tmp 8), none, 0⟩,
  ⟨(some 24), .binOp .mul 22 (.tmp 22) (.tmp 23) 22, none, 0⟩,
  ⟨(some 10), .assign (.tmp 24), none, 0⟩]
def L91r6 : List AOp := [
  ⟨(some 25), .move (.tmp 7), none, 0⟩,
  ⟨(some 26), .move (.tmp 8), none, 0⟩,
  ⟨(some 27), .binOp .mul 22 (.tmp 25) (.tmp 26) 22, none, 0⟩,
  ⟨(some 28), .move (.tmp 10), none, 0⟩,
  ⟨(some 29), .binOp .shr 22 (.tmp 28) (.const (.int .u64 32)) 97, none, 0⟩,
  ⟨(some 30), .binOp .add 22 (.tmp 27) (.tmp 29) 22, none, 0⟩,
  ⟨(some 11), .assign (.tmp 30), none, 0⟩]
def L91r7 : List AOp := [
  ⟨(some 31), .move (.tmp 11), none, 0⟩,
  ⟨(some 32), .binOp .and 22 (.tmp 31) (.const (.int .u64 4294967295)) 22, none, 0⟩,
  ⟨(some 12), .assign (.tmp 32), none, 0⟩]
def L91r8 : List AOp := [
  ⟨(some 33), .move (.tmp 11), none, 0⟩,
  ⟨(some 34), .binOp .shr 22 (.tmp 33) (.const (.int .u64 32)) 97, none, 0⟩,
  ⟨(some 13), .assign (.tmp 34), none, 0⟩]
def L91r9 : List AOp := [
  ⟨(some 35), .move (.tmp 12), none, 0⟩,
  ⟨(some 36), .move (.tmp 6), none, 0⟩,
  ⟨(some 37), .move (.tmp 9), none, 0⟩,
  ⟨(some 38), .binOp .mul 22 (.tmp 36) (.tmp 37) 22, none, 0⟩,
  ⟨(some 39), .binOp .add 22 (.tmp 35) (.tmp 38) 22, none, 0⟩,
  ⟨(some 12), .assign (.tmp 39), none, 0⟩]
def L91r10 : List AOp := [
  ⟨(some 40), .move (.tmp 7), none, 0⟩,
  ⟨(some 41), .move (.tmp 9), none, 0⟩,
  ⟨(some 42), .binOp .mul 22 (.tmp 40) (.tmp 41) 22, none, 0⟩,
  ⟨(some 43), .move (.tmp 13), none, 0⟩,
  ⟨(some 44), .binOp .add 22 (.tmp 42) (.tmp 43) 22, none, 0⟩,
  ⟨(some 45), .move (.tmp 12), none, 0⟩,
  ⟨(some 46), .binOp .shr 22 (.tmp 45) (.const (.int .u64 32)) 97, none, 0⟩,
  ⟨(some 47), .binOp .add 22 (.tmp 44) (.tmp 46) 22, none, 0⟩,
  ⟨(some 4), .assign (.tmp 47), none, 0⟩]
def L91r11 : List AOp := [
  ⟨(some 48), .move (.tmp 0), none, 0⟩,
  ⟨(some 49), .move (.tmp 1), none, 0⟩,
  ⟨(some 50), .binOp .mul 22 (.tmp 48) (.tmp 49) 22, none, 0⟩,
  ⟨(some 5), .assign (.tmp 50), none, 0⟩]
def L91 : LC := (.seq (.region L91r0) (.seq (.region L91r1) (.seq (.region L91r2) (.seq (.region L91r3) (.seq (.region L91r4) (.seq (.region L91r5) (.seq (.region L91r6) (.seq (.region L91r7) (.seq (.region L91r8) (.seq (.region L91r9) (.seq (.region L91r10) (.seq (.region L91r11) .ret))))))))))))
theorem nt91 : Tryd.f91.ntmps = 51 := by kernel_rfl
theorem rs91 : Tryd.f91.results.toList = [.tmp 4, .tmp 5] := by kernel_rfl
theorem lite91 : Tryd.f91.body.map (lite okDraw) = some L91 := by kernel_rfl
def L93r0 : List AOp := [
  ⟨(some 0), .assign (.const (.slice none 0 0)), none, 0⟩]
def L93r1 : List AOp := [
  ⟨(some 1), .buildSlice 31 13 #[(0, .const (.int .u64 0)), (1, .const (.int .u64 0)), (2, .const (.int .u64 0)), (3, .const (.int .u64 0)), (4, .const (.int .u64 0)), (5, .const (.int .u64 0)), (6, .const (.int .u64 0)), (7, .const (.int .u64 0)), (8, .const (.int .u64 0)), (9, .const (.int .u64 0)), (10, .const (.int .u64 0)), (11, .const (.int .u64 0)), (12, .const (.int .u64 1))], none, 0⟩,
  ⟨(some 0), .assign (.tmp 1), none, 0⟩]
def L93 : LC := (.seq (.region L93r0) (.seq (.region L93r1) .ret))
theorem nt93 : Tryd.f93.ntmps = 2 := by kernel_rfl
theorem rs93 : Tryd.f93.results.toList = [.tmp 0] := by kernel_rfl
theorem lite93 : Tryd.f93.body.map (lite okDraw) = some L93 := by kernel_rfl
def L94r0 : List AOp := [
  ⟨(some 2), .assign (.const (.slice none 0 0)), none, 0⟩,
  ⟨(some 3), .assign (.const (.slice none 0 0)), none, 0⟩]
def L94r1 : List AOp := [
  ⟨(some 4), .move (.tmp 0), none, 0⟩,
  ⟨(some 5), .call { callee := .builtin .len, args := #[.tmp 4], argTypes := #[31] }, none, 0⟩,
  ⟨(some 6), .binOp .leq 3 (.tmp 5) (.const (.int .i64 12)) 3, none, 0⟩]
def L94r2 : List AOp := [
  ⟨(some 7), .move (.tmp 0), none, 0⟩,
  ⟨(some 2), .assign (.tmp 7), none, 0⟩,
  ⟨(some 3), .assign (.const (.slice none 0 0)), none, 0⟩]
def L94r3 : List AOp := [
  ⟨(some 8), .buildSlice 31 0 #[], none, 0⟩,
  ⟨(some 9), .move (.tmp 0), none, 0⟩,
  ⟨(some 10), .slice 31 (.tmp 9) none (some (.const (.int .i64 12))) none, none, 2⟩,
  ⟨(some 11), .call { callee := .builtin .append, args := #[.tmp 8, .tmp 10], argTypes := #[31, 31] }, none, 7⟩,
  ⟨(some 12), .call { callee := .value (.func 68), args := #[.tmp 11], argTypes := #[31] }, none, 15⟩,
  ⟨(some 13), .buildSlice 31 0 #[], none, 0⟩,
  ⟨(some 14), .move (.tmp 0), none, 0⟩,
  ⟨(some 15), .slice 31 (.tmp 14) (some (.const (.int .i64 12))) none none, none, 64⟩,
  ⟨(some 16), .call { callee := .builtin .append, args := #[.tmp 13, .tmp 15], argTypes := #[31, 31] }, none, 1267650600228229401496703205631⟩,
  ⟨(some 2), .assign (.tmp 12), none, 1267650600228229401496703205887⟩,
  ⟨(some 3), .assign (.tmp 16), none, 1267650600228229401496703206399⟩]
def L94 : LC := (.seq (.region L94r0) (.seq (.seq (.region L94r1) (.cond (.tmp 6) (.seq (.region L94r2) .ret) .skip)) (.seq (.regionD L94r3) .ret)))
theorem nt94 : Tryd.f94.ntmps = 17 := by kernel_rfl
theorem rs94 : Tryd.f94.results.toList = [.tmp 2, .tmp 3] := by kernel_rfl
theorem lite94 : Tryd.f94.body.map (lite okDraw) = some L94 := by kernel_rfl
end Eng

