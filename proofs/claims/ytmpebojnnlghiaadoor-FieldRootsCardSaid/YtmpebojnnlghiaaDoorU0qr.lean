/- Contracts of the program's functions, and laws over them. There is no further condition. -/
import Derived.Test.YtmpebojnnlghiaaDoorED
import Derived.Test.YtmpebojnnlghiaaDoorChecked
import Derived.KernelRfl
import Derived.Test.YtmpebojnnlghiaaDoorRows
import Derived.Laws.Externs
import Derived.Test.YtmpebojnnlghiaaDoorEC
set_option linter.unusedVariables false
set_option linter.unusedSimpArgs false
set_option exponentiation.threshold 2000
namespace Eng
open Go Go.Proofs
theorem ty3 : tyOf Tryd.prog 3 = some ⟨.int .i64, 1, 8, [.int .i64 0], false, true, true⟩ := by kernel_rfl
theorem ty4 : tyOf Tryd.prog 4 = some ⟨.bool, 1, 1, [.bool false], false, true, true⟩ := by kernel_rfl
theorem ty5 : tyOf Tryd.prog 5 = some ⟨.int .u8, 1, 1, [.int .u8 0], false, true, true⟩ := by kernel_rfl
theorem ty9 : tyOf Tryd.prog 9 = some ⟨.string, 1, 16, [.str ⟨#[]⟩], false, true, true⟩ := by kernel_rfl
theorem ty22 : tyOf Tryd.prog 22 = some ⟨.int .u64, 1, 8, [.int .u64 0], false, true, true⟩ := by kernel_rfl
theorem ty23 : tyOf Tryd.prog 23 = some ⟨.array 6 22, 6, 48, ints .u64 (List.replicate 6 0), true, true, true⟩ := by kernel_rfl
theorem ty24 : tyOf Tryd.prog 24 = some ⟨.array 6 22, 6, 48, ints .u64 (List.replicate 6 0), true, true, true⟩ := by kernel_rfl
theorem ty27 : tyOf Tryd.prog 27 = some ⟨.slice 22, 1, 24, [.nils], false, true, false⟩ := by kernel_rfl
theorem ty28 : tyOf Tryd.prog 28 = some ⟨.slice 22, 1, 24, [.nils], false, true, false⟩ := by kernel_rfl
theorem ty38 : tyOf Tryd.prog 38 = some ⟨.slice 5, 1, 24, [.nils], false, true, false⟩ := by kernel_rfl
theorem ty39 : tyOf Tryd.prog 39 = some ⟨.interface #[("Error", 78)], 1, 16, [.nili], false, true, true⟩ := by kernel_rfl
theorem ty40 : tyOf Tryd.prog 40 = some ⟨.interface #[("Error", 78)], 1, 16, [.nili], false, true, true⟩ := by kernel_rfl
theorem ty43 : tyOf Tryd.prog 43 = some ⟨.int .i64, 1, 8, [.int .i64 0], false, true, true⟩ := by kernel_rfl
theorem ty52 : tyOf Tryd.prog 52 = some ⟨.struct #[⟨ "M", 24, 0, false, "", "", 0⟩, ⟨ "Inv", 22, 6, false, "", "", 48⟩, ⟨ "Two", 24, 7, false, "", "", 56⟩], 13, 104, ints .u64 (List.replicate 13 0), true, true, true⟩ := by kernel_rfl
theorem ty59 : tyOf Tryd.prog 59 = some ⟨.int .u64, 1, 8, [.int .u64 0], false, true, true⟩ := by kernel_rfl
theorem ty74 : tyOf Tryd.prog 74 = some ⟨.array 12 22, 12, 96, ints .u64 (List.replicate 12 0), true, true, true⟩ := by kernel_rfl
theorem ty75 : tyOf Tryd.prog 75 = some ⟨.array 12 22, 12, 96, ints .u64 (List.replicate 12 0), true, true, true⟩ := by kernel_rfl
end Eng


namespace Eng
open Go Go.Proofs
theorem hM0 : Tryd.prog.follows .mixedOrders = true := by kernel_rfl
theorem eq24 : eqArr Tryd.prog 24 = true := by kernel_rfl
def L13r0 : List AOp := [
  ⟨(some 1), .box 24 (.tmp 0), none, 0⟩,
  ⟨(some 2), .assign (.const (.bool false)), none, 0⟩]
def L13r1 : List AOp := [
  ⟨(some 9), .load 24 (.tmp 1), none, 0⟩,
  ⟨(some 10), .call { callee := .value (.func 46), args := #[.tmp 9], argTypes := #[24] }, none, 0⟩,
  ⟨(some 8), .move (.tmp 10), none, 0⟩,
  ⟨(some 11), .extract (.tmp 8) 0, none, 0⟩,
  ⟨(some 12), .extract (.tmp 8) 1, none, 0⟩,
  ⟨(some 3), .alloc 24, none, 0⟩,
  ⟨none, .store 24 (.tmp 3) (.tmp 11), none, 0⟩,
  ⟨(some 4), .assign (.tmp 12), none, 0⟩]
def L13r2 : List AOp := [
  ⟨(some 13), .load 24 (.tmp 1), none, 0⟩,
  ⟨(some 14), .call { callee := .value (.func 19), args := #[.tmp 13], argTypes := #[24] }, none, 0⟩,
  ⟨(some 15), .call { callee := .value (.func 47), args := #[.tmp 14], argTypes := #[28] }, none, 0⟩,
  ⟨(some 5), .assign (.tmp 15), none, 0⟩]
def L13r3 : List AOp := [
  ⟨(some 16), .move (.tmp 5), none, 0⟩,
  ⟨(some 17), .unOp .not 4 (.tmp 16), none, 0⟩]
def L13r4 : List AOp := [
  ⟨(some 18), .move (.tmp 4), none, 0⟩,
  ⟨(some 19), .makeInterface 43 (.const (.int .i64 17)), none, 0⟩,
  ⟨(some 20), .binOp .neq 40 (.tmp 18) (.tmp 19) 40, none, 0⟩,
  ⟨(some 21), .move (.tmp 20), none, 0⟩,
  ⟨(some 22), .load 24 (.tmp 3), (some (21, false)), 0⟩,
  ⟨(some 23), .build 24 #[], (some (21, false)), 0⟩,
  ⟨(some 24), .binOp .neq 24 (.tmp 22) (.tmp 23) 24, (some (21, false)), 0⟩,
  ⟨(some 25), .pick (.tmp 21) (.const (.bool true)) (.tmp 24), none, 0⟩]
def L13r5 : List AOp := [
  ⟨(some 2), .assign (.const (.bool false)), none, 0⟩]
def L13r6 : List AOp := [
  ⟨(some 26), .move (.tmp 4), none, 1267650600228229401496703205376⟩,
  ⟨(some 27), .binOp .neq 40 (.tmp 26) (.const .nilIface) 40, none, 1267650600228229401496703205377⟩,
  ⟨(some 28), .move (.tmp 27), none, 1267650600228229401496703205379⟩,
  ⟨(some 29), .indexAddr 24 (.tmp 3) (.const (.int .i64 0)), (some (28, false)), 1267650600228229401496703205383⟩,
  ⟨(some 30), .load 22 (.tmp 29), (some (28, false)), 1267650600228229401496703205391⟩,
  ⟨(some 31), .binOp .rem 22 (.tmp 30) (.const (.int .u64 2)) 22, (some (28, false)), 1267650600228229401496703205407⟩,
  ⟨(some 32), .binOp .neq 22 (.tmp 31) (.const (.int .u64 0)) 22, (some (28, false)), 1267650600228229401496703205439⟩,
  ⟨(some 33), .pick (.tmp 28) (.const (.bool true)) (.tmp 32), none, 1267650600228229401496703205503⟩,
  ⟨(some 34), .move (.tmp 33), none, 1267650600228229401496703205631⟩,
  ⟨(some 35), .load 24 (.tmp 3), (some (34, false)), 511⟩,
  ⟨(some 36), .load 24 (.tmp 3), (some (34, false)), 511⟩,
  ⟨(some 37), .call { callee := .value (.func 40), args := #[.tmp 35, .tmp 36], argTypes := #[24, 24] }, (some (34, false)), 2047⟩,
  ⟨(some 38), .load 24 (.tmp 1), (some (34, false)), 511⟩,
  ⟨(some 39), .call { callee := .value (.func 17), args := #[.tmp 38], argTypes := #[24] }, (some (34, false)), 1267650600228229401496703213567⟩,
  ⟨(some 40), .binOp .neq 24 (.tmp 37) (.tmp 39) 24, (some (34, false)), 1267650600228229401496703221759⟩,
  ⟨(some 41), .pick (.tmp 34) (.const (.bool true)) (.tmp 40), none, 1267650600228229401496703238143⟩,
  ⟨(some 42), .move (.tmp 41), none, 1267650600228229401496703270911⟩,
  ⟨(some 43), .load 24 (.tmp 3), (some (42, false)), 1267650600228229401496703336447⟩,
  ⟨(some 44), .call { callee := .value (.func 19), args := #[.tmp 43], argTypes := #[24] }, (some (42, false)), 1267650600228229401496703467519⟩,
  ⟨(some 45), .call { callee := .value (.func 16), args := #[], argTypes := #[] }, (some (42, false)), 1267650600228229401496703729663⟩,
  ⟨(some 46), .call { callee := .value (.func 37), args := #[.tmp 44, .tmp 45], argTypes := #[28, 28] }, (some (42, false)), 1267650600228229401496704253951⟩,
  ⟨(some 47), .binOp .geq 3 (.tmp 46) (.const (.int .i64 0)) 3, (some (42, false)), 1267650600228229401496705302527⟩,
  ⟨(some 48), .pick (.tmp 42) (.const (.bool true)) (.tmp 47), none, 1267650600228229401496707399679⟩]
def L13r7 : List AOp := [
  ⟨(some 2), .assign (.const (.bool false)), none, 0⟩]
def L13r8 : List AOp := [
  ⟨(some 50), .load 24 (.tmp 1), none, 0⟩,
  ⟨(some 51), .load 24 (.tmp 1), none, 0⟩,
  ⟨(some 52), .call { callee := .value (.func 40), args := #[.tmp 50, .tmp 51], argTypes := #[24, 24] }, none, 0⟩,
  ⟨(some 53), .call { callee := .value (.func 46), args := #[.tmp 52], argTypes := #[24] }, none, 0⟩,
  ⟨(some 49), .move (.tmp 53), none, 0⟩,
  ⟨(some 54), .extract (.tmp 49) 0, none, 0⟩,
  ⟨(some 55), .extract (.tmp 49) 1, none, 0⟩,
  ⟨(some 6), .alloc 24, none, 0⟩,
  ⟨none, .store 24 (.tmp 6) (.tmp 54), none, 0⟩,
  ⟨(some 7), .assign (.tmp 55), none, 0⟩]
def L13r9 : List AOp := [
  ⟨(some 56), .call { callee := .value (.func 34), args := #[], argTypes := #[] }, none, 1267650600228229401496703205376⟩,
  ⟨(some 57), .move (.tmp 56), none, 1267650600228229401496703205377⟩,
  ⟨(some 58), .move (.tmp 7), (some (57, true)), 1267650600228229401496703205379⟩,
  ⟨(some 59), .binOp .eql 40 (.tmp 58) (.const .nilIface) 40, (some (57, true)), 1267650600228229401496703205383⟩,
  ⟨(some 60), .pick (.tmp 57) (.tmp 59) (.const (.bool false)), none, 1267650600228229401496703205391⟩,
  ⟨(some 61), .move (.tmp 60), none, 1267650600228229401496703205407⟩,
  ⟨(some 62), .load 24 (.tmp 6), (some (61, true)), 63⟩,
  ⟨(some 63), .load 24 (.tmp 1), (some (61, true)), 63⟩,
  ⟨(some 64), .call { callee := .value (.func 17), args := #[.tmp 63], argTypes := #[24] }, (some (61, true)), 191⟩,
  ⟨(some 65), .binOp .eql 24 (.tmp 62) (.tmp 64) 24, (some (61, true)), 1267650600228229401496703205887⟩,
  ⟨(some 66), .move (.tmp 65), (some (61, true)), 1267650600228229401496703206399⟩,
  ⟨(some 67), .load 24 (.tmp 6), (some (66, false)), 2047⟩,
  ⟨(some 68), .load 24 (.tmp 1), (some (66, false)), 2047⟩,
  ⟨(some 69), .call { callee := .value (.func 33), args := #[.tmp 68], argTypes := #[24] }, (some (66, false)), 6143⟩,
  ⟨(some 70), .binOp .eql 24 (.tmp 67) (.tmp 69) 24, (some (66, false)), 1267650600228229401496703221759⟩,
  ⟨(some 71), .pick (.tmp 66) (.const (.bool true)) (.tmp 70), (some (61, true)), 1267650600228229401496703238143⟩,
  ⟨(some 72), .pick (.tmp 61) (.tmp 71) (.const (.bool false)), none, 1267650600228229401496703270911⟩,
  ⟨(some 2), .assign (.tmp 72), none, 1267650600228229401496703336447⟩]
def L13 : LC := (.seq (.region L13r0) (.seq (.region L13r1) (.seq (.region L13r2) (.seq (.seq (.region L13r3) (.cond (.tmp 17) (.seq (.region L13r4) (.cond (.tmp 25) (.seq (.region L13r5) .ret) .skip)) (.seq (.regionD L13r6) (.cond (.tmp 48) (.seq (.region L13r7) .ret) .skip)))) (.seq (.region L13r8) (.seq (.regionD L13r9) .ret))))))
theorem nt13 : Tryd.f13.ntmps = 73 := by kernel_rfl
theorem rs13 : Tryd.f13.results.toList = [.tmp 2] := by kernel_rfl
theorem lite13 : Tryd.f13.body.map (lite okDraw) = some L13 := by kernel_rfl
def L15r0 : List AOp := [
  ⟨(some 0), .alloc 24, none, 0⟩]
def L15r1 : List AOp := [
  ⟨(some 1), .fieldAddr 52 (.global 0) 0, none, 0⟩,
  ⟨(some 2), .load 24 (.tmp 1), none, 0⟩,
  ⟨none, .store 24 (.tmp 0) (.tmp 2), none, 0⟩]
def L15 : LC := (.seq (.region L15r0) (.seq (.region L15r1) .ret))
theorem nt15 : Tryd.f15.ntmps = 3 := by kernel_rfl
theorem rs15 : Tryd.f15.results.toList = [.cell 0 24] := by kernel_rfl
theorem lite15 : Tryd.f15.body.map (lite okDraw) = some L15 := by kernel_rfl
def L16r0 : List AOp := [
  ⟨(some 0), .assign (.const (.slice none 0 0)), none, 0⟩]
def L16r1 : List AOp := [
  ⟨(some 1), .buildSlice 28 12 #[(0, .const (.int .u64 4294967295)), (1, .const (.int .u64 0)), (2, .const (.int .u64 0)), (3, .const (.int .u64 4294967295)), (4, .const (.int .u64 4294967294)), (5, .const (.int .u64 4294967295)), (6, .const (.int .u64 4294967295)), (7, .const (.int .u64 4294967295)), (8, .const (.int .u64 4294967295)), (9, .const (.int .u64 4294967295)), (10, .const (.int .u64 4294967295)), (11, .const (.int .u64 4294967295))], none, 0⟩,
  ⟨(some 0), .assign (.tmp 1), none, 0⟩]
def L16 : LC := (.seq (.region L16r0) (.seq (.region L16r1) .ret))
theorem nt16 : Tryd.f16.ntmps = 2 := by kernel_rfl
theorem rs16 : Tryd.f16.results.toList = [.tmp 0] := by kernel_rfl
theorem lite16 : Tryd.f16.body.map (lite okDraw) = some L16 := by kernel_rfl
def L17r0 : List AOp := [
  ⟨(some 1), .box 24 (.tmp 0), none, 0⟩,
  ⟨(some 2), .alloc 24, none, 0⟩]
def L17r1 : List AOp := [
  ⟨(some 3), .load 24 (.tmp 1), none, 0⟩,
  ⟨(some 4), .build 24 #[], none, 0⟩,
  ⟨(some 5), .load 52 (.global 0), none, 0⟩,
  ⟨(some 6), .call { callee := .value (.func 49), args := #[.tmp 3, .tmp 4, .tmp 5], argTypes := #[24, 24, 52] }, none, 0⟩,
  ⟨none, .store 24 (.tmp 2) (.tmp 6), none, 0⟩]
def L17 : LC := (.seq (.region L17r0) (.seq (.region L17r1) .ret))
theorem nt17 : Tryd.f17.ntmps = 7 := by kernel_rfl
theorem rs17 : Tryd.f17.results.toList = [.cell 2 24] := by kernel_rfl
theorem lite17 : Tryd.f17.body.map (lite okDraw) = some L17 := by kernel_rfl
def L19r0 : List AOp := [
  ⟨(some 1), .box 24 (.tmp 0), none, 0⟩,
  ⟨(some 2), .assign (.const (.slice none 0 0)), none, 0⟩]
def L19r1 : List AOp := [
  ⟨(some 3), .load 24 (.tmp 1), none, 0⟩,
  ⟨(some 4), .call { callee := .value (.func 51), args := #[.tmp 3], argTypes := #[23] }, none, 0⟩,
  ⟨(some 2), .assign (.tmp 4), none, 0⟩]
def L19 : LC := (.seq (.region L19r0) (.seq (.region L19r1) .ret))
theorem nt19 : Tryd.f19.ntmps = 5 := by kernel_rfl
theorem rs19 : Tryd.f19.results.toList = [.tmp 2] := by kernel_rfl
theorem lite19 : Tryd.f19.body.map (lite okDraw) = some L19 := by kernel_rfl
def L27r0 : List AOp := [
  ⟨(some 4), .assign (.const (.slice none 0 0)), none, 0⟩]
def L27r1 : List AOp := [
  ⟨(some 5), .assign (.const (.slice none 0 0)), none, 0⟩]
def L27r2 : List AOp := [
  ⟨(some 6), .assign (.const (.int .u64 0)), none, 0⟩]
def L27r3 : List AOp := [
  ⟨(some 7), .assign (.const (.int .i64 0)), none, 0⟩]
def L27r4 : List AOp := [
  ⟨(some 9), .move (.tmp 7), none, 0⟩,
  ⟨(some 10), .move (.tmp 0), none, 0⟩,
  ⟨(some 11), .call { callee := .builtin .len, args := #[.tmp 10], argTypes := #[28] }, none, 0⟩,
  ⟨(some 12), .binOp .lss 3 (.tmp 9) (.tmp 11) 3, none, 0⟩,
  ⟨(some 13), .move (.tmp 12), none, 0⟩,
  ⟨(some 14), .move (.tmp 7), (some (13, false)), 0⟩,
  ⟨(some 15), .move (.tmp 1), (some (13, false)), 0⟩,
  ⟨(some 16), .call { callee := .builtin .len, args := #[.tmp 15], argTypes := #[28] }, (some (13, false)), 0⟩,
  ⟨(some 17), .binOp .lss 3 (.tmp 14) (.tmp 16) 3, (some (13, false)), 0⟩,
  ⟨(some 18), .pick (.tmp 13) (.const (.bool true)) (.tmp 17), none, 0⟩,
  ⟨(some 19), .move (.tmp 18), none, 0⟩,
  ⟨(some 20), .move (.tmp 6), (some (19, false)), 0⟩,
  ⟨(some 21), .binOp .gtr 22 (.tmp 20) (.const (.int .u64 0)) 22, (some (19, false)), 0⟩,
  ⟨(some 22), .pick (.tmp 19) (.const (.bool true)) (.tmp 21), none, 0⟩]
def L27r6 : List AOp := [
  ⟨(some 25), .move (.tmp 0), none, 0⟩,
  ⟨(some 26), .move (.tmp 7), none, 0⟩,
  ⟨(some 27), .call { callee := .value (.func 52), args := #[.tmp 25, .tmp 26], argTypes := #[28, 3] }, none, 0⟩,
  ⟨(some 28), .move (.tmp 1), none, 0⟩,
  ⟨(some 29), .move (.tmp 7), none, 0⟩,
  ⟨(some 30), .call { callee := .value (.func 52), args := #[.tmp 28, .tmp 29], argTypes := #[28, 3] }, none, 0⟩,
  ⟨(some 31), .binOp .add 22 (.tmp 27) (.tmp 30) 22, none, 0⟩,
  ⟨(some 32), .move (.tmp 6), none, 0⟩,
  ⟨(some 33), .binOp .add 22 (.tmp 31) (.tmp 32) 22, none, 0⟩,
  ⟨(some 8), .assign (.tmp 33), none, 0⟩]
def L27r7 : List AOp := [
  ⟨(some 34), .move (.tmp 5), none, 0⟩,
  ⟨(some 35), .move (.tmp 8), none, 0⟩,
  ⟨(some 36), .binOp .rem 22 (.tmp 35) (.const (.int .u64 4294967296)) 22, none, 0⟩,
  ⟨(some 37), .buildSlice 28 1 #[(0, .tmp 36)], none, 0⟩,
  ⟨(some 38), .call { callee := .builtin .append, args := #[.tmp 34, .tmp 37], argTypes := #[28, 28] }, none, 0⟩,
  ⟨(some 5), .assign (.tmp 38), none, 0⟩]
def L27r8 : List AOp := [
  ⟨(some 39), .move (.tmp 8), none, 0⟩,
  ⟨(some 40), .binOp .quo 22 (.tmp 39) (.const (.int .u64 4294967296)) 22, none, 0⟩,
  ⟨(some 6), .assign (.tmp 40), none, 0⟩]
def L27r5 : List AOp := [
  ⟨(some 23), .move (.tmp 7), none, 0⟩,
  ⟨(some 24), .binOp .add 3 (.tmp 23) (.const (.int .i64 1)) 3, none, 0⟩,
  ⟨(some 7), .assign (.tmp 24), none, 0⟩]
def L27r9 : List AOp := [
  ⟨(some 41), .move (.tmp 5), none, 0⟩,
  ⟨(some 42), .call { callee := .value (.func 53), args := #[.tmp 41], argTypes := #[28] }, none, 0⟩,
  ⟨(some 4), .assign (.tmp 42), none, 0⟩]
def L27 : LC := (.seq (.region L27r0) (.seq (.region L27r1) (.seq (.region L27r2) (.seq (.seq (.region L27r3) (.block 0 (.loop (.seq (.seq (.region L27r4) (.cond (.tmp 22) .skip (.exit 0))) (.seq (.block 1 (.seq (.region L27r6) (.seq (.region L27r7) (.region L27r8)))) (.region L27r5)))))) (.seq (.region L27r9) .ret)))))
theorem nt27 : Tryd.f27.ntmps = 43 := by kernel_rfl
theorem rs27 : Tryd.f27.results.toList = [.tmp 4] := by kernel_rfl
theorem lite27 : Tryd.f27.body.map (lite okDraw) = some L27 := by kernel_rfl
def L29r0 : List AOp := [
  ⟨(some 2), .box 24 (.tmp 0), none, 0⟩,
  ⟨(some 3), .box 24 (.tmp 1), none, 0⟩,
  ⟨(some 4), .alloc 24, none, 0⟩]
def L29r1 : List AOp := [
  ⟨(some 5), .load 24 (.tmp 2), none, 0⟩,
  ⟨(some 6), .load 24 (.tmp 3), none, 0⟩,
  ⟨(some 7), .load 52 (.global 0), none, 0⟩,
  ⟨(some 8), .call { callee := .value (.func 49), args := #[.tmp 5, .tmp 6, .tmp 7], argTypes := #[24, 24, 52] }, none, 0⟩,
  ⟨none, .store 24 (.tmp 4) (.tmp 8), none, 0⟩]
def L29 : LC := (.seq (.region L29r0) (.seq (.region L29r1) .ret))
theorem nt29 : Tryd.f29.ntmps = 9 := by kernel_rfl
theorem rs29 : Tryd.f29.results.toList = [.cell 4 24] := by kernel_rfl
theorem lite29 : Tryd.f29.body.map (lite okDraw) = some L29 := by kernel_rfl
def L33r0 : List AOp := [
  ⟨(some 1), .box 24 (.tmp 0), none, 0⟩,
  ⟨(some 2), .alloc 24, none, 0⟩]
def L33r1 : List AOp := [
  ⟨(some 3), .build 24 #[], none, 0⟩,
  ⟨(some 4), .load 24 (.tmp 1), none, 0⟩,
  ⟨(some 5), .load 52 (.global 0), none, 0⟩,
  ⟨(some 6), .call { callee := .value (.func 54), args := #[.tmp 3, .tmp 4, .tmp 5], argTypes := #[24, 24, 52] }, none, 0⟩,
  ⟨none, .store 24 (.tmp 2) (.tmp 6), none, 0⟩]
def L33 : LC := (.seq (.region L33r0) (.seq (.region L33r1) .ret))
theorem nt33 : Tryd.f33.ntmps = 7 := by kernel_rfl
theorem rs33 : Tryd.f33.results.toList = [.cell 2 24] := by kernel_rfl
theorem lite33 : Tryd.f33.body.map (lite okDraw) = some L33 := by kernel_rfl
def L34r0 : List AOp := [
  ⟨(some 0), .assign (.const (.bool false)), none, 0⟩]
def L34r1 : List AOp := [
  ⟨(some 1), .call { callee := .value (.func 15), args := #[], argTypes := #[] }, none, 0⟩,
  ⟨(some 2), .build 24 #[(0, .const (.int .u64 2))], none, 0⟩,
  ⟨(some 3), .call { callee := .value (.func 29), args := #[.tmp 1, .tmp 2], argTypes := #[24, 24] }, none, 0⟩,
  ⟨(some 4), .build 24 #[(0, .const (.int .u64 2))], none, 0⟩,
  ⟨(some 5), .binOp .eql 24 (.tmp 3) (.tmp 4) 24, none, 0⟩,
  ⟨(some 0), .assign (.tmp 5), none, 0⟩]
def L34 : LC := (.seq (.region L34r0) (.seq (.region L34r1) .ret))
theorem nt34 : Tryd.f34.ntmps = 6 := by kernel_rfl
theorem rs34 : Tryd.f34.results.toList = [.tmp 0] := by kernel_rfl
theorem lite34 : Tryd.f34.body.map (lite okDraw) = some L34 := by kernel_rfl
def L37r0 : List AOp := [
  ⟨(some 4), .assign (.const (.int .i64 0)), none, 0⟩]
def L37r1 : List AOp := [
  ⟨(some 6), .move (.tmp 0), none, 0⟩,
  ⟨(some 7), .call { callee := .builtin .len, args := #[.tmp 6], argTypes := #[28] }, none, 0⟩,
  ⟨(some 8), .move (.tmp 1), none, 0⟩,
  ⟨(some 9), .call { callee := .builtin .len, args := #[.tmp 8], argTypes := #[28] }, none, 0⟩,
  ⟨(some 10), .binOp .neq 3 (.tmp 7) (.tmp 9) 3, none, 0⟩]
def L37r2 : List AOp := [
  ⟨(some 11), .move (.tmp 0), none, 0⟩,
  ⟨(some 12), .call { callee := .builtin .len, args := #[.tmp 11], argTypes := #[28] }, none, 0⟩,
  ⟨(some 13), .move (.tmp 1), none, 0⟩,
  ⟨(some 14), .call { callee := .builtin .len, args := #[.tmp 13], argTypes := #[28] }, none, 0⟩,
  ⟨(some 15), .binOp .lss 3 (.tmp 12) (.tmp 14) 3, none, 0⟩]
def L37r3 : List AOp := [
  ⟨(some 4), .assign (.const (.int .i64 (-1))), none, 0⟩]
def L37r4 : List AOp := [
  ⟨(some 4), .assign (.const (.int .i64 1)), none, 0⟩]
def L37r5 : List AOp := [
  ⟨(some 16), .move (.tmp 0), none, 0⟩,
  ⟨(some 17), .call { callee := .builtin .len, args := #[.tmp 16], argTypes := #[28] }, none, 0⟩,
  ⟨(some 18), .binOp .sub 3 (.tmp 17) (.const (.int .i64 1)) 3, none, 0⟩,
  ⟨(some 5), .assign (.tmp 18), none, 0⟩]
def L37r6 : List AOp := [
  ⟨(some 19), .move (.tmp 5), none, 0⟩,
  ⟨(some 20), .binOp .geq 3 (.tmp 19) (.const (.int .i64 0)) 3, none, 0⟩]
def L37r8 : List AOp := [
  ⟨(some 23), .move (.tmp 0), none, 0⟩,
  ⟨(some 24), .move (.tmp 5), none, 0⟩,
  ⟨(some 25), .indexAddr 28 (.tmp 23) (.tmp 24), none, 3⟩,
  ⟨(some 26), .load 22 (.tmp 25), none, 7⟩,
  ⟨(some 27), .move (.tmp 1), none, 0⟩,
  ⟨(some 28), .move (.tmp 5), none, 0⟩,
  ⟨(some 29), .indexAddr 28 (.tmp 27) (.tmp 28), none, 48⟩,
  ⟨(some 30), .load 22 (.tmp 29), none, 112⟩,
  ⟨(some 31), .binOp .lss 22 (.tmp 26) (.tmp 30) 22, none, 1267650600228229401496703205631⟩]
def L37r9 : List AOp := [
  ⟨(some 4), .assign (.const (.int .i64 (-1))), none, 0⟩]
def L37r10 : List AOp := [
  ⟨(some 32), .move (.tmp 0), none, 0⟩,
  ⟨(some 33), .move (.tmp 5), none, 0⟩,
  ⟨(some 34), .indexAddr 28 (.tmp 32) (.tmp 33), none, 3⟩,
  ⟨(some 35), .load 22 (.tmp 34), none, 7⟩,
  ⟨(some 36), .move (.tmp 1), none, 0⟩,
  ⟨(some 37), .move (.tmp 5), none, 0⟩,
  ⟨(some 38), .indexAddr 28 (.tmp 36) (.tmp 37), none, 48⟩,
  ⟨(some 39), .load 22 (.tmp 38), none, 112⟩,
  ⟨(some 40), .binOp .gtr 22 (.tmp 35) (.tmp 39) 22, none, 1267650600228229401496703205631⟩]
def L37r11 : List AOp := [
  ⟨(some 4), .assign (.const (.int .i64 1)), none, 0⟩]
def L37r7 : List AOp := [
  ⟨(some 21), .move (.tmp 5), none, 0⟩,
  ⟨(some 22), .binOp .sub 3 (.tmp 21) (.const (.int .i64 1)) 3, none, 0⟩,
  ⟨(some 5), .assign (.tmp 22), none, 0⟩]
def L37r12 : List AOp := [
  ⟨(some 4), .assign (.const (.int .i64 0)), none, 0⟩]
def L37 : LC := (.seq (.region L37r0) (.seq (.seq (.region L37r1) (.cond (.tmp 10) (.seq (.seq (.region L37r2) (.cond (.tmp 15) (.seq (.region L37r3) .ret) .skip)) (.seq (.region L37r4) .ret)) .skip)) (.seq (.seq (.region L37r5) (.block 0 (.loop (.seq (.seq (.region L37r6) (.cond (.tmp 20) .skip (.exit 0))) (.seq (.block 1 (.seq (.seq (.regionD L37r8) (.cond (.tmp 31) (.seq (.region L37r9) .ret) .skip)) (.seq (.regionD L37r10) (.cond (.tmp 40) (.seq (.region L37r11) .ret) .skip)))) (.region L37r7)))))) (.seq (.region L37r12) .ret))))
theorem nt37 : Tryd.f37.ntmps = 41 := by kernel_rfl
theorem rs37 : Tryd.f37.results.toList = [.tmp 4] := by kernel_rfl
theorem lite37 : Tryd.f37.body.map (lite okDraw) = some L37 := by kernel_rfl
def L40r0 : List AOp := [
  ⟨(some 2), .box 24 (.tmp 0), none, 0⟩,
  ⟨(some 3), .box 24 (.tmp 1), none, 0⟩,
  ⟨(some 4), .alloc 24, none, 0⟩]
def L40r1 : List AOp := [
  ⟨(some 5), .load 24 (.tmp 2), none, 0⟩,
  ⟨(some 6), .load 24 (.tmp 3), none, 0⟩,
  ⟨(some 7), .load 52 (.global 0), none, 0⟩,
  ⟨(some 8), .call { callee := .value (.func 58), args := #[.tmp 5, .tmp 6, .tmp 7], argTypes := #[24, 24, 52] }, none, 0⟩,
  ⟨none, .store 24 (.tmp 4) (.tmp 8), none, 0⟩]
def L40 : LC := (.seq (.region L40r0) (.seq (.region L40r1) .ret))
theorem nt40 : Tryd.f40.ntmps = 9 := by kernel_rfl
theorem rs40 : Tryd.f40.results.toList = [.cell 4 24] := by kernel_rfl
theorem lite40 : Tryd.f40.body.map (lite okDraw) = some L40 := by kernel_rfl
def L46r0 : List AOp := [
  ⟨(some 1), .box 24 (.tmp 0), none, 0⟩,
  ⟨(some 2), .alloc 24, none, 0⟩,
  ⟨(some 3), .assign (.const .nilIface), none, 0⟩]
def L46r1 : List AOp := [
  ⟨(some 10), .fieldAddr 52 (.global 0) 0, none, 0⟩,
  ⟨(some 11), .load 24 (.tmp 10), none, 0⟩,
  ⟨(some 12), .build 24 #[(0, .const (.int .u64 1))], none, 0⟩,
  ⟨(some 13), .call { callee := .value (.func 62), args := #[.tmp 11, .tmp 12], argTypes := #[24, 24] }, none, 0⟩,
  ⟨(some 9), .move (.tmp 13), none, 0⟩,
  ⟨(some 14), .extract (.tmp 9) 0, none, 0⟩,
  ⟨(some 15), .extract (.tmp 9) 1, none, 0⟩,
  ⟨(some 4), .alloc 24, none, 0⟩,
  ⟨none, .store 24 (.tmp 4) (.tmp 14), none, 0⟩,
  ⟨(some 5), .assign (.tmp 15), none, 0⟩]
def L46r2 : List AOp := [
  ⟨(some 6), .alloc 24, none, 0⟩]
def L46r3 : List AOp := [
  ⟨(some 16), .move (.const (.int .i64 0)), none, 0⟩]
def L46r4 : List AOp := [
  ⟨(some 17), .binOp .lss 3 (.tmp 16) (.const (.int .i64 6)) 3, none, 0⟩]
def L46r5 : List AOp := [
  ⟨(some 18), .move (.tmp 16), none, 0⟩,
  ⟨(some 7), .assign (.tmp 18), none, 0⟩]
def L46r6 : List AOp := [
  ⟨(some 19), .move (.tmp 7), none, 0⟩,
  ⟨(some 20), .move (.tmp 7), none, 0⟩,
  ⟨(some 21), .indexAddr 24 (.tmp 4) (.tmp 20), none, 0⟩,
  ⟨(some 22), .load 22 (.tmp 21), none, 0⟩,
  ⟨(some 23), .binOp .shr 22 (.tmp 22) (.const (.int .u64 2)) 59, none, 0⟩,
  ⟨(some 24), .indexAddr 24 (.tmp 6) (.tmp 19), none, 0⟩,
  ⟨none, .store 22 (.tmp 24) (.tmp 23), none, 0⟩]
def L46r7 : List AOp := [
  ⟨(some 25), .move (.tmp 7), none, 0⟩,
  ⟨(some 26), .binOp .add 3 (.tmp 25) (.const (.int .i64 1)) 3, none, 0⟩,
  ⟨(some 27), .binOp .lss 3 (.tmp 26) (.const (.int .i64 6)) 3, none, 0⟩]
def L46r8 : List AOp := [
  ⟨(some 28), .move (.tmp 7), none, 0⟩,
  ⟨(some 29), .indexAddr 24 (.tmp 6) (.tmp 28), none, 1⟩,
  ⟨(some 30), .load 22 (.tmp 29), none, 3⟩,
  ⟨(some 31), .move (.tmp 7), none, 0⟩,
  ⟨(some 32), .binOp .add 3 (.tmp 31) (.const (.int .i64 1)) 3, none, 8⟩,
  ⟨(some 33), .indexAddr 24 (.tmp 4) (.tmp 32), none, 24⟩,
  ⟨(some 34), .load 22 (.tmp 33), none, 56⟩,
  ⟨(some 35), .binOp .shl 22 (.tmp 34) (.const (.int .u64 62)) 59, none, 120⟩,
  ⟨(some 36), .binOp .or 22 (.tmp 30) (.tmp 35) 22, none, 1267650600228229401496703205631⟩,
  ⟨(some 37), .indexAddr 24 (.tmp 6) (.tmp 28), none, 1267650600228229401496703205887⟩,
  ⟨none, .store 22 (.tmp 37) (.tmp 36), none, 1267650600228229401496703206399⟩]
def L46r9 : List AOp := [
  ⟨(some 38), .binOp .add 3 (.tmp 16) (.const (.int .i64 1)) 3, none, 0⟩,
  ⟨(some 16), .move (.tmp 38), none, 0⟩]
def L46r10 : List AOp := [
  ⟨(some 39), .load 24 (.tmp 1), none, 0⟩,
  ⟨(some 40), .load 24 (.tmp 6), none, 0⟩,
  ⟨(some 41), .load 52 (.global 0), none, 0⟩,
  ⟨(some 42), .call { callee := .value (.func 61), args := #[.tmp 39, .tmp 40, .tmp 41], argTypes := #[24, 24, 52] }, none, 0⟩,
  ⟨(some 8), .alloc 24, none, 0⟩,
  ⟨none, .store 24 (.tmp 8) (.tmp 42), none, 0⟩]
def L46r11 : List AOp := [
  ⟨(some 43), .load 24 (.tmp 8), none, 0⟩,
  ⟨(some 44), .load 24 (.tmp 8), none, 0⟩,
  ⟨(some 45), .call { callee := .value (.func 40), args := #[.tmp 43, .tmp 44], argTypes := #[24, 24] }, none, 3⟩,
  ⟨(some 46), .load 24 (.tmp 1), none, 0⟩,
  ⟨(some 47), .call { callee := .value (.func 17), args := #[.tmp 46], argTypes := #[24] }, none, 1267650600228229401496703205391⟩,
  ⟨(some 48), .call { callee := .value (.func 63), args := #[.tmp 45, .tmp 47], argTypes := #[24, 24] }, none, 1267650600228229401496703205407⟩,
  ⟨(some 49), .binOp .eql 22 (.tmp 48) (.const (.int .u64 0)) 22, none, 1267650600228229401496703205439⟩]
def L46r12 : List AOp := [
  ⟨(some 50), .build 24 #[], none, 0⟩,
  ⟨(some 51), .makeInterface 43 (.const (.int .i64 17)), none, 0⟩,
  ⟨none, .store 24 (.tmp 2) (.tmp 50), none, 0⟩,
  ⟨(some 3), .assign (.tmp 51), none, 0⟩]
def L46r13 : List AOp := [
  ⟨(some 52), .load 24 (.tmp 8), none, 0⟩,
  ⟨(some 53), .call { callee := .value (.func 65), args := #[.tmp 52, .const (.int .i64 0)], argTypes := #[24, 3] }, none, 1⟩,
  ⟨(some 54), .load 24 (.tmp 8), none, 0⟩,
  ⟨(some 55), .load 24 (.tmp 8), none, 0⟩,
  ⟨(some 56), .call { callee := .value (.func 33), args := #[.tmp 55], argTypes := #[24] }, none, 11⟩,
  ⟨(some 57), .call { callee := .value (.func 64), args := #[.tmp 53, .tmp 54, .tmp 56], argTypes := #[22, 24, 24] }, none, 1267650600228229401496703205407⟩,
  ⟨none, .store 24 (.tmp 2) (.tmp 57), none, 1267650600228229401496703205439⟩,
  ⟨(some 3), .assign (.const .nilIface), none, 1267650600228229401496703205503⟩]
def L46 : LC := (.seq (.region L46r0) (.seq (.region L46r1) (.seq (.region L46r2) (.seq (.seq (.region L46r3) (.block 0 (.loop (.seq (.region L46r4) (.seq (.cond (.tmp 17) .skip (.exit 0)) (.seq (.block 1 (.seq (.region L46r5) (.seq (.region L46r6) (.seq (.region L46r7) (.cond (.tmp 27) (.regionD L46r8) .skip))))) (.region L46r9))))))) (.seq (.region L46r10) (.seq (.seq (.regionD L46r11) (.cond (.tmp 49) (.seq (.region L46r12) .ret) .skip)) (.seq (.regionD L46r13) .ret)))))))
theorem nt46 : Tryd.f46.ntmps = 58 := by kernel_rfl
theorem rs46 : Tryd.f46.results.toList = [.cell 2 24, .tmp 3] := by kernel_rfl
theorem lite46 : Tryd.f46.body.map (lite okDraw) = some L46 := by kernel_rfl
def L47r0 : List AOp := [
  ⟨(some 2), .assign (.const (.bool false)), none, 0⟩]
def L47r1 : List AOp := [
  ⟨(some 7), .call { callee := .value (.func 16), args := #[], argTypes := #[] }, none, 0⟩,
  ⟨(some 8), .buildSlice 28 1 #[(0, .const (.int .u64 2))], none, 0⟩,
  ⟨(some 9), .call { callee := .value (.func 66), args := #[.tmp 7, .tmp 8], argTypes := #[28, 28] }, none, 0⟩,
  ⟨(some 6), .move (.tmp 9), none, 0⟩,
  ⟨(some 10), .extract (.tmp 6) 0, none, 0⟩,
  ⟨(some 11), .extract (.tmp 6) 1, none, 0⟩,
  ⟨(some 3), .assign (.tmp 10), none, 0⟩,
  ⟨(some 4), .assign (.tmp 11), none, 0⟩]
def L47r2 : List AOp := [
  ⟨(some 12), .move (.tmp 0), none, 0⟩,
  ⟨(some 13), .move (.tmp 3), none, 0⟩,
  ⟨(some 14), .call { callee := .value (.func 16), args := #[], argTypes := #[] }, none, 0⟩,
  ⟨(some 15), .call { callee := .value (.func 67), args := #[.tmp 12, .tmp 13, .tmp 14], argTypes := #[28, 28, 28] }, none, 0⟩,
  ⟨(some 5), .assign (.tmp 15), none, 0⟩]
def L47r3 : List AOp := [
  ⟨(some 16), .move (.tmp 5), none, 0⟩,
  ⟨(some 17), .call { callee := .builtin .len, args := #[.tmp 16], argTypes := #[28] }, none, 0⟩,
  ⟨(some 18), .binOp .eql 3 (.tmp 17) (.const (.int .i64 0)) 3, none, 0⟩,
  ⟨(some 19), .move (.tmp 18), none, 0⟩,
  ⟨(some 20), .move (.tmp 5), (some (19, false)), 0⟩,
  ⟨(some 21), .call { callee := .builtin .len, args := #[.tmp 20], argTypes := #[28] }, (some (19, false)), 0⟩,
  ⟨(some 22), .binOp .eql 3 (.tmp 21) (.const (.int .i64 1)) 3, (some (19, false)), 0⟩,
  ⟨(some 23), .move (.tmp 22), (some (19, false)), 0⟩,
  ⟨(some 24), .move (.tmp 5), (some (23, true)), 0⟩,
  ⟨(some 25), .indexAddr 28 (.tmp 24) (.const (.int .i64 0)), (some (23, true)), 0⟩,
  ⟨(some 26), .load 22 (.tmp 25), (some (23, true)), 0⟩,
  ⟨(some 27), .binOp .eql 22 (.tmp 26) (.const (.int .u64 1)) 22, (some (23, true)), 0⟩,
  ⟨(some 28), .pick (.tmp 23) (.tmp 27) (.const (.bool false)), (some (19, false)), 0⟩,
  ⟨(some 29), .pick (.tmp 19) (.const (.bool true)) (.tmp 28), none, 0⟩,
  ⟨(some 2), .assign (.tmp 29), none, 0⟩]
def L47 : LC := (.seq (.region L47r0) (.seq (.region L47r1) (.seq (.region L47r2) (.seq (.region L47r3) .ret))))
theorem nt47 : Tryd.f47.ntmps = 30 := by kernel_rfl
theorem rs47 : Tryd.f47.results.toList = [.tmp 2] := by kernel_rfl
theorem lite47 : Tryd.f47.body.map (lite okDraw) = some L47 := by kernel_rfl
def L49r0 : List AOp := [
  ⟨(some 3), .box 24 (.tmp 0), none, 0⟩,
  ⟨(some 4), .box 24 (.tmp 1), none, 0⟩,
  ⟨(some 5), .box 52 (.tmp 2), none, 0⟩,
  ⟨(some 6), .alloc 24, none, 0⟩]
def L49r1 : List AOp := [
  ⟨(some 10), .load 24 (.tmp 3), none, 0⟩,
  ⟨(some 11), .load 52 (.tmp 5), none, 0⟩,
  ⟨(some 12), .call { callee := .value (.func 68), args := #[.tmp 10, .tmp 11], argTypes := #[24, 52] }, none, 3⟩,
  ⟨(some 13), .load 24 (.tmp 4), none, 0⟩,
  ⟨(some 14), .load 52 (.tmp 5), none, 0⟩,
  ⟨(some 15), .call { callee := .value (.func 68), args := #[.tmp 13, .tmp 14], argTypes := #[24, 52] }, none, 31⟩,
  ⟨(some 16), .call { callee := .value (.func 62), args := #[.tmp 12, .tmp 15], argTypes := #[24, 24] }, none, 63⟩,
  ⟨(some 9), .move (.tmp 16), none, 127⟩,
  ⟨(some 17), .extract (.tmp 9) 0, none, 255⟩,
  ⟨(some 18), .extract (.tmp 9) 1, none, 255⟩,
  ⟨(some 7), .alloc 24, none, 0⟩,
  ⟨none, .store 24 (.tmp 7) (.tmp 17), none, 1535⟩,
  ⟨(some 8), .assign (.tmp 18), none, 1267650600228229401496703209471⟩]
def L49r2 : List AOp := [
  ⟨(some 19), .load 24 (.tmp 7), none, 0⟩,
  ⟨(some 20), .move (.tmp 8), none, 0⟩,
  ⟨(some 21), .fieldAddr 52 (.tmp 5) 0, none, 0⟩,
  ⟨(some 22), .load 24 (.tmp 21), none, 0⟩,
  ⟨(some 23), .call { callee := .value (.func 69), args := #[.tmp 19, .tmp 20, .tmp 22], argTypes := #[24, 22, 24] }, none, 0⟩,
  ⟨none, .store 24 (.tmp 6) (.tmp 23), none, 0⟩]
def L49 : LC := (.seq (.region L49r0) (.seq (.regionD L49r1) (.seq (.region L49r2) .ret)))
theorem nt49 : Tryd.f49.ntmps = 24 := by kernel_rfl
theorem rs49 : Tryd.f49.results.toList = [.cell 6 24] := by kernel_rfl
theorem lite49 : Tryd.f49.body.map (lite okDraw) = some L49 := by kernel_rfl
def L50r0 : List AOp := [
  ⟨(some 4), .assign (.const (.slice none 0 0)), none, 0⟩]
def L50r1 : List AOp := [
  ⟨(some 8), .call { callee := .value (.func 70), args := #[], argTypes := #[] }, none, 0⟩,
  ⟨(some 9), .move (.tmp 1), none, 0⟩,
  ⟨(some 10), .call { callee := .value (.func 55), args := #[.tmp 8, .tmp 9], argTypes := #[28, 28] }, none, 0⟩,
  ⟨(some 5), .assign (.tmp 10), none, 0⟩]
def L50r2 : List AOp := [
  ⟨(some 12), .move (.tmp 0), none, 0⟩,
  ⟨(some 13), .call { callee := .value (.func 71), args := #[.tmp 12], argTypes := #[28] }, none, 0⟩,
  ⟨(some 11), .move (.tmp 13), none, 0⟩,
  ⟨(some 14), .extract (.tmp 11) 0, none, 0⟩,
  ⟨(some 15), .extract (.tmp 11) 1, none, 0⟩,
  ⟨(some 6), .assign (.tmp 14), none, 0⟩,
  ⟨(some 7), .assign (.tmp 15), none, 0⟩]
def L50r3 : List AOp := [
  ⟨(some 16), .move (.tmp 7), none, 0⟩,
  ⟨(some 17), .call { callee := .builtin .len, args := #[.tmp 16], argTypes := #[28] }, none, 0⟩,
  ⟨(some 18), .binOp .gtr 3 (.tmp 17) (.const (.int .i64 0)) 3, none, 0⟩]
def L50r4 : List AOp := [
  ⟨(some 20), .move (.tmp 6), none, 0⟩,
  ⟨(some 21), .move (.tmp 7), none, 0⟩,
  ⟨(some 22), .move (.tmp 5), none, 0⟩,
  ⟨(some 23), .call { callee := .value (.func 59), args := #[.tmp 21, .tmp 22], argTypes := #[28, 28] }, none, 0⟩,
  ⟨(some 24), .call { callee := .value (.func 27), args := #[.tmp 20, .tmp 23], argTypes := #[28, 28] }, none, 0⟩,
  ⟨(some 25), .call { callee := .value (.func 71), args := #[.tmp 24], argTypes := #[28] }, none, 0⟩,
  ⟨(some 19), .move (.tmp 25), none, 0⟩,
  ⟨(some 26), .extract (.tmp 19) 0, none, 0⟩,
  ⟨(some 27), .extract (.tmp 19) 1, none, 0⟩,
  ⟨(some 6), .assign (.tmp 26), none, 0⟩,
  ⟨(some 7), .assign (.tmp 27), none, 0⟩]
def L50r5 : List AOp := [
  ⟨(some 28), .move (.tmp 6), none, 0⟩,
  ⟨(some 29), .move (.tmp 1), none, 0⟩,
  ⟨(some 30), .call { callee := .value (.func 37), args := #[.tmp 28, .tmp 29], argTypes := #[28, 28] }, none, 0⟩,
  ⟨(some 31), .binOp .geq 3 (.tmp 30) (.const (.int .i64 0)) 3, none, 0⟩]
def L50r6 : List AOp := [
  ⟨(some 32), .move (.tmp 6), none, 0⟩,
  ⟨(some 33), .move (.tmp 1), none, 0⟩,
  ⟨(some 34), .call { callee := .value (.func 55), args := #[.tmp 32, .tmp 33], argTypes := #[28, 28] }, none, 0⟩,
  ⟨(some 6), .assign (.tmp 34), none, 0⟩]
def L50r7 : List AOp := [
  ⟨(some 35), .move (.tmp 6), none, 0⟩,
  ⟨(some 4), .assign (.tmp 35), none, 0⟩]
def L50 : LC := (.seq (.region L50r0) (.seq (.region L50r1) (.seq (.region L50r2) (.seq (.block 0 (.loop (.seq (.seq (.region L50r3) (.cond (.tmp 18) .skip (.exit 0))) (.block 1 (.region L50r4))))) (.seq (.block 2 (.loop (.seq (.seq (.region L50r5) (.cond (.tmp 31) .skip (.exit 2))) (.block 3 (.region L50r6))))) (.seq (.region L50r7) .ret))))))
theorem nt50 : Tryd.f50.ntmps = 36 := by kernel_rfl
theorem rs50 : Tryd.f50.results.toList = [.tmp 4] := by kernel_rfl
theorem lite50 : Tryd.f50.body.map (lite okDraw) = some L50 := by kernel_rfl
def L51r0 : List AOp := [
  ⟨(some 1), .box 23 (.tmp 0), none, 0⟩,
  ⟨(some 2), .assign (.const (.slice none 0 0)), none, 0⟩]
def L51r1 : List AOp := [
  ⟨(some 3), .assign (.const (.slice none 0 0)), none, 0⟩]
def L51r2 : List AOp := [
  ⟨(some 4), .assign (.const (.int .i64 0)), none, 0⟩]
def L51r3 : List AOp := [
  ⟨(some 5), .move (.tmp 4), none, 0⟩,
  ⟨(some 6), .binOp .lss 3 (.tmp 5) (.const (.int .i64 6)) 3, none, 0⟩]
def L51r5 : List AOp := [
  ⟨(some 9), .move (.tmp 3), none, 0⟩,
  ⟨(some 10), .move (.tmp 4), none, 0⟩,
  ⟨(some 11), .indexAddr 23 (.tmp 1) (.tmp 10), none, 0⟩,
  ⟨(some 12), .load 22 (.tmp 11), none, 0⟩,
  ⟨(some 13), .buildSlice 27 1 #[(0, .tmp 12)], none, 0⟩,
  ⟨(some 14), .call { callee := .builtin .append, args := #[.tmp 9, .tmp 13], argTypes := #[27, 27] }, none, 0⟩,
  ⟨(some 3), .assign (.tmp 14), none, 0⟩]
def L51r4 : List AOp := [
  ⟨(some 7), .move (.tmp 4), none, 0⟩,
  ⟨(some 8), .binOp .add 3 (.tmp 7) (.const (.int .i64 1)) 3, none, 0⟩,
  ⟨(some 4), .assign (.tmp 8), none, 0⟩]
def L51r6 : List AOp := [
  ⟨(some 15), .move (.tmp 3), none, 0⟩,
  ⟨(some 16), .call { callee := .value (.func 72), args := #[.tmp 15], argTypes := #[27] }, none, 0⟩,
  ⟨(some 2), .assign (.tmp 16), none, 0⟩]
def L51 : LC := (.seq (.region L51r0) (.seq (.region L51r1) (.seq (.seq (.region L51r2) (.block 0 (.loop (.seq (.seq (.region L51r3) (.cond (.tmp 6) .skip (.exit 0))) (.seq (.block 1 (.region L51r5)) (.region L51r4)))))) (.seq (.region L51r6) .ret))))
theorem nt51 : Tryd.f51.ntmps = 17 := by kernel_rfl
theorem rs51 : Tryd.f51.results.toList = [.tmp 2] := by kernel_rfl
theorem lite51 : Tryd.f51.body.map (lite okDraw) = some L51 := by kernel_rfl
def L52r0 : List AOp := [
  ⟨(some 4), .assign (.const (.int .u64 0)), none, 0⟩]
def L52r1 : List AOp := [
  ⟨(some 5), .move (.tmp 1), none, 0⟩,
  ⟨(some 6), .move (.tmp 0), none, 0⟩,
  ⟨(some 7), .call { callee := .builtin .len, args := #[.tmp 6], argTypes := #[28] }, none, 0⟩,
  ⟨(some 8), .binOp .lss 3 (.tmp 5) (.tmp 7) 3, none, 0⟩]
def L52r2 : List AOp := [
  ⟨(some 9), .move (.tmp 0), none, 0⟩,
  ⟨(some 10), .move (.tmp 1), none, 0⟩,
  ⟨(some 11), .indexAddr 28 (.tmp 9) (.tmp 10), none, 0⟩,
  ⟨(some 12), .load 22 (.tmp 11), none, 0⟩,
  ⟨(some 4), .assign (.tmp 12), none, 0⟩]
def L52r3 : List AOp := [
  ⟨(some 4), .assign (.const (.int .u64 0)), none, 0⟩]
def L52 : LC := (.seq (.region L52r0) (.seq (.seq (.region L52r1) (.cond (.tmp 8) (.seq (.region L52r2) .ret) .skip)) (.seq (.region L52r3) .ret)))
theorem nt52 : Tryd.f52.ntmps = 13 := by kernel_rfl
theorem rs52 : Tryd.f52.results.toList = [.tmp 4] := by kernel_rfl
theorem lite52 : Tryd.f52.body.map (lite okDraw) = some L52 := by kernel_rfl
def L53r0 : List AOp := [
  ⟨(some 2), .assign (.const (.slice none 0 0)), none, 0⟩]
def L53r1 : List AOp := [
  ⟨(some 4), .move (.tmp 0), none, 0⟩,
  ⟨(some 5), .call { callee := .builtin .len, args := #[.tmp 4], argTypes := #[28] }, none, 0⟩,
  ⟨(some 3), .assign (.tmp 5), none, 0⟩]
def L53r2 : List AOp := [
  ⟨(some 6), .move (.tmp 3), none, 0⟩,
  ⟨(some 7), .binOp .gtr 3 (.tmp 6) (.const (.int .i64 0)) 3, none, 0⟩,
  ⟨(some 8), .move (.tmp 7), none, 0⟩,
  ⟨(some 9), .move (.tmp 0), (some (8, true)), 0⟩,
  ⟨(some 10), .move (.tmp 3), (some (8, true)), 0⟩,
  ⟨(some 11), .binOp .sub 3 (.tmp 10) (.const (.int .i64 1)) 3, (some (8, true)), 0⟩,
  ⟨(some 12), .indexAddr 28 (.tmp 9) (.tmp 11), (some (8, true)), 0⟩,
  ⟨(some 13), .load 22 (.tmp 12), (some (8, true)), 0⟩,
  ⟨(some 14), .binOp .eql 22 (.tmp 13) (.const (.int .u64 0)) 22, (some (8, true)), 0⟩,
  ⟨(some 15), .pick (.tmp 8) (.tmp 14) (.const (.bool false)), none, 0⟩]
def L53r3 : List AOp := [
  ⟨(some 16), .move (.tmp 3), none, 0⟩,
  ⟨(some 17), .binOp .sub 3 (.tmp 16) (.const (.int .i64 1)) 3, none, 0⟩,
  ⟨(some 3), .assign (.tmp 17), none, 0⟩]
def L53r4 : List AOp := [
  ⟨(some 18), .move (.tmp 0), none, 0⟩,
  ⟨(some 19), .move (.tmp 3), none, 0⟩,
  ⟨(some 20), .slice 28 (.tmp 18) none (some (.tmp 19)) none, none, 0⟩,
  ⟨(some 2), .assign (.tmp 20), none, 0⟩]
def L53 : LC := (.seq (.region L53r0) (.seq (.region L53r1) (.seq (.block 0 (.loop (.seq (.seq (.region L53r2) (.cond (.tmp 15) .skip (.exit 0))) (.block 1 (.region L53r3))))) (.seq (.region L53r4) .ret))))
theorem nt53 : Tryd.f53.ntmps = 21 := by kernel_rfl
theorem rs53 : Tryd.f53.results.toList = [.tmp 2] := by kernel_rfl
theorem lite53 : Tryd.f53.body.map (lite okDraw) = some L53 := by kernel_rfl
def L54r0 : List AOp := [
  ⟨(some 3), .box 24 (.tmp 0), none, 0⟩,
  ⟨(some 4), .box 24 (.tmp 1), none, 0⟩,
  ⟨(some 5), .box 52 (.tmp 2), none, 0⟩,
  ⟨(some 6), .alloc 24, none, 0⟩]
def L54r1 : List AOp := [
  ⟨(some 12), .load 24 (.tmp 3), none, 0⟩,
  ⟨(some 13), .load 52 (.tmp 5), none, 0⟩,
  ⟨(some 14), .call { callee := .value (.func 68), args := #[.tmp 12, .tmp 13], argTypes := #[24, 52] }, none, 3⟩,
  ⟨(some 15), .load 24 (.tmp 4), none, 0⟩,
  ⟨(some 16), .load 52 (.tmp 5), none, 0⟩,
  ⟨(some 17), .call { callee := .value (.func 68), args := #[.tmp 15, .tmp 16], argTypes := #[24, 52] }, none, 31⟩,
  ⟨(some 18), .call { callee := .value (.func 60), args := #[.tmp 14, .tmp 17], argTypes := #[24, 24] }, none, 63⟩,
  ⟨(some 11), .move (.tmp 18), none, 127⟩,
  ⟨(some 19), .extract (.tmp 11) 0, none, 255⟩,
  ⟨(some 20), .extract (.tmp 11) 1, none, 255⟩,
  ⟨(some 7), .alloc 24, none, 0⟩,
  ⟨none, .store 24 (.tmp 7) (.tmp 19), none, 1535⟩,
  ⟨(some 8), .assign (.tmp 20), none, 1267650600228229401496703209471⟩]
def L54r2 : List AOp := [
  ⟨(some 22), .load 24 (.tmp 7), none, 0⟩,
  ⟨(some 23), .fieldAddr 52 (.tmp 5) 0, none, 0⟩,
  ⟨(some 24), .load 24 (.tmp 23), none, 0⟩,
  ⟨(some 25), .call { callee := .value (.func 62), args := #[.tmp 22, .tmp 24], argTypes := #[24, 24] }, none, 0⟩,
  ⟨(some 21), .move (.tmp 25), none, 0⟩,
  ⟨(some 26), .extract (.tmp 21) 0, none, 0⟩,
  ⟨(some 27), .extract (.tmp 21) 1, none, 0⟩,
  ⟨(some 9), .alloc 24, none, 0⟩,
  ⟨none, .store 24 (.tmp 9) (.tmp 26), none, 0⟩,
  ⟨(some 10), .assign (.tmp 27), none, 0⟩]
def L54r3 : List AOp := [
  ⟨(some 28), .move (.tmp 8), none, 0⟩,
  ⟨(some 29), .load 24 (.tmp 7), none, 0⟩,
  ⟨(some 30), .load 24 (.tmp 9), none, 0⟩,
  ⟨(some 31), .call { callee := .value (.func 64), args := #[.tmp 28, .tmp 29, .tmp 30], argTypes := #[22, 24, 24] }, none, 0⟩,
  ⟨none, .store 24 (.tmp 6) (.tmp 31), none, 0⟩]
def L54 : LC := (.seq (.region L54r0) (.seq (.regionD L54r1) (.seq (.region L54r2) (.seq (.region L54r3) .ret))))
theorem nt54 : Tryd.f54.ntmps = 32 := by kernel_rfl
theorem rs54 : Tryd.f54.results.toList = [.cell 6 24] := by kernel_rfl
theorem lite54 : Tryd.f54.body.map (lite okDraw) = some L54 := by kernel_rfl
def L55r0 : List AOp := [
  ⟨(some 4), .assign (.const (.slice none 0 0)), none, 0⟩]
def L55r1 : List AOp := [
  ⟨(some 5), .assign (.const (.slice none 0 0)), none, 0⟩]
def L55r2 : List AOp := [
  ⟨(some 6), .assign (.const (.int .u64 0)), none, 0⟩]
def L55r3 : List AOp := [
  ⟨(some 7), .assign (.const (.int .i64 0)), none, 0⟩]
def L55r4 : List AOp := [
  ⟨(some 9), .move (.tmp 7), none, 0⟩,
  ⟨(some 10), .move (.tmp 0), none, 0⟩,
  ⟨(some 11), .call { callee := .builtin .len, args := #[.tmp 10], argTypes := #[28] }, none, 0⟩,
  ⟨(some 12), .binOp .lss 3 (.tmp 9) (.tmp 11) 3, none, 0⟩]
def L55r6 : List AOp := [
  ⟨(some 15), .move (.tmp 0), none, 0⟩,
  ⟨(some 16), .move (.tmp 7), none, 0⟩,
  ⟨(some 17), .call { callee := .value (.func 52), args := #[.tmp 15, .tmp 16], argTypes := #[28, 3] }, none, 0⟩,
  ⟨(some 18), .binOp .add 22 (.tmp 17) (.const (.int .u64 4294967296)) 22, none, 0⟩,
  ⟨(some 19), .move (.tmp 1), none, 0⟩,
  ⟨(some 20), .move (.tmp 7), none, 0⟩,
  ⟨(some 21), .call { callee := .value (.func 52), args := #[.tmp 19, .tmp 20], argTypes := #[28, 3] }, none, 0⟩,
  ⟨(some 22), .binOp .sub 22 (.tmp 18) (.tmp 21) 22, none, 0⟩,
  ⟨(some 23), .move (.tmp 6), none, 0⟩,
  ⟨(some 24), .binOp .sub 22 (.tmp 22) (.tmp 23) 22, none, 0⟩,
  ⟨(some 8), .assign (.tmp 24), none, 0⟩]
def L55r7 : List AOp := [
  ⟨(some 25), .move (.tmp 5), none, 0⟩,
  ⟨(some 26), .move (.tmp 8), none, 0⟩,
  ⟨(some 27), .binOp .rem 22 (.tmp 26) (.const (.int .u64 4294967296)) 22, none, 0⟩,
  ⟨(some 28), .buildSlice 28 1 #[(0, .tmp 27)], none, 0⟩,
  ⟨(some 29), .call { callee := .builtin .append, args := #[.tmp 25, .tmp 28], argTypes := #[28, 28] }, none, 0⟩,
  ⟨(some 5), .assign (.tmp 29), none, 0⟩]
def L55r8 : List AOp := [
  ⟨(some 30), .move (.tmp 8), none, 0⟩,
  ⟨(some 31), .binOp .quo 22 (.tmp 30) (.const (.int .u64 4294967296)) 22, none, 0⟩,
  ⟨(some 32), .binOp .sub 22 (.const (.int .u64 1)) (.tmp 31) 22, none, 0⟩,
  ⟨(some 6), .assign (.tmp 32), none, 0⟩]
def L55r5 : List AOp := [
  ⟨(some 13), .move (.tmp 7), none, 0⟩,
  ⟨(some 14), .binOp .add 3 (.tmp 13) (.const (.int .i64 1)) 3, none, 0⟩,
  ⟨(some 7), .assign (.tmp 14), none, 0⟩]
def L55r9 : List AOp := [
  ⟨(some 33), .move (.tmp 5), none, 0⟩,
  ⟨(some 34), .call { callee := .value (.func 53), args := #[.tmp 33], argTypes := #[28] }, none, 0⟩,
  ⟨(some 4), .assign (.tmp 34), none, 0⟩]
def L55 : LC := (.seq (.region L55r0) (.seq (.region L55r1) (.seq (.region L55r2) (.seq (.seq (.region L55r3) (.block 0 (.loop (.seq (.seq (.region L55r4) (.cond (.tmp 12) .skip (.exit 0))) (.seq (.block 1 (.seq (.region L55r6) (.seq (.region L55r7) (.region L55r8)))) (.region L55r5)))))) (.seq (.region L55r9) .ret)))))
theorem nt55 : Tryd.f55.ntmps = 35 := by kernel_rfl
theorem rs55 : Tryd.f55.results.toList = [.tmp 4] := by kernel_rfl
theorem lite55 : Tryd.f55.body.map (lite okDraw) = some L55 := by kernel_rfl
def L58r0 : List AOp := [
  ⟨(some 3), .box 24 (.tmp 0), none, 0⟩,
  ⟨(some 4), .box 24 (.tmp 1), none, 0⟩,
  ⟨(some 5), .box 52 (.tmp 2), none, 0⟩,
  ⟨(some 6), .alloc 24, none, 0⟩]
def L58r1 : List AOp := [
  ⟨(some 7), .load 24 (.tmp 3), none, 0⟩,
  ⟨(some 8), .fieldAddr 52 (.tmp 5) 2, none, 0⟩,
  ⟨(some 9), .load 24 (.tmp 8), none, 2⟩,
  ⟨(some 10), .load 52 (.tmp 5), none, 0⟩,
  ⟨(some 11), .call { callee := .value (.func 73), args := #[.tmp 7, .tmp 9, .tmp 10], argTypes := #[24, 24, 52] }, none, 15⟩,
  ⟨(some 12), .load 24 (.tmp 4), none, 0⟩,
  ⟨(some 13), .load 52 (.tmp 5), none, 0⟩,
  ⟨(some 14), .call { callee := .value (.func 73), args := #[.tmp 11, .tmp 12, .tmp 13], argTypes := #[24, 24, 52] }, none, 1267650600228229401496703205503⟩,
  ⟨none, .store 24 (.tmp 6) (.tmp 14), none, 1267650600228229401496703205631⟩]
def L58 : LC := (.seq (.region L58r0) (.seq (.regionD L58r1) .ret))
theorem nt58 : Tryd.f58.ntmps = 15 := by kernel_rfl
theorem rs58 : Tryd.f58.results.toList = [.cell 6 24] := by kernel_rfl
theorem lite58 : Tryd.f58.body.map (lite okDraw) = some L58 := by kernel_rfl
def L59r0 : List AOp := [
  ⟨(some 4), .assign (.const (.slice none 0 0)), none, 0⟩]
def L59r1 : List AOp := [
  ⟨(some 10), .move (.tmp 0), none, 0⟩,
  ⟨(some 11), .call { callee := .builtin .len, args := #[.tmp 10], argTypes := #[28] }, none, 0⟩,
  ⟨(some 12), .move (.tmp 1), none, 0⟩,
  ⟨(some 13), .call { callee := .builtin .len, args := #[.tmp 12], argTypes := #[28] }, none, 0⟩,
  ⟨(some 14), .binOp .add 3 (.tmp 11) (.tmp 13) 3, none, 0⟩,
  ⟨(some 15), .binOp .add 3 (.tmp 14) (.const (.int .i64 1)) 3, none, 0⟩,
  ⟨(some 16), .makeSlice 28 (.tmp 15) (.tmp 15), none, 0⟩,
  ⟨(some 5), .assign (.tmp 16), none, 0⟩]
def L59r2 : List AOp := [
  ⟨(some 6), .assign (.const (.int .i64 0)), none, 0⟩]
def L59r3 : List AOp := [
  ⟨(some 17), .move (.tmp 6), none, 0⟩,
  ⟨(some 18), .move (.tmp 0), none, 0⟩,
  ⟨(some 19), .call { callee := .builtin .len, args := #[.tmp 18], argTypes := #[28] }, none, 0⟩,
  ⟨(some 20), .binOp .lss 3 (.tmp 17) (.tmp 19) 3, none, 0⟩]
def L59r5 : List AOp := [
  ⟨(some 7), .assign (.const (.int .u64 0)), none, 0⟩]
def L59r6 : List AOp := [
  ⟨(some 8), .assign (.const (.int .i64 0)), none, 0⟩]
def L59r7 : List AOp := [
  ⟨(some 23), .move (.tmp 8), none, 0⟩,
  ⟨(some 24), .move (.tmp 1), none, 0⟩,
  ⟨(some 25), .call { callee := .builtin .len, args := #[.tmp 24], argTypes := #[28] }, none, 0⟩,
  ⟨(some 26), .binOp .lss 3 (.tmp 23) (.tmp 25) 3, none, 0⟩,
  ⟨(some 27), .move (.tmp 26), none, 0⟩,
  ⟨(some 28), .move (.tmp 7), (some (27, false)), 0⟩,
  ⟨(some 29), .binOp .gtr 22 (.tmp 28) (.const (.int .u64 0)) 22, (some (27, false)), 0⟩,
  ⟨(some 30), .pick (.tmp 27) (.const (.bool true)) (.tmp 29), none, 0⟩]
def L59r9 : List AOp := [
  ⟨(some 33), .move (.tmp 5), none, 0⟩,
  ⟨(some 34), .move (.tmp 6), none, 0⟩,
  ⟨(some 35), .move (.tmp 8), none, 0⟩,
  ⟨(some 36), .binOp .add 3 (.tmp 34) (.tmp 35) 3, none, 6⟩,
  ⟨(some 37), .indexAddr 28 (.tmp 33) (.tmp 36), none, 15⟩,
  ⟨(some 38), .load 22 (.tmp 37), none, 31⟩,
  ⟨(some 39), .move (.tmp 0), none, 0⟩,
  ⟨(some 40), .move (.tmp 6), none, 0⟩,
  ⟨(some 41), .indexAddr 28 (.tmp 39) (.tmp 40), none, 192⟩,
  ⟨(some 42), .load 22 (.tmp 41), none, 448⟩,
  ⟨(some 43), .move (.tmp 1), none, 0⟩,
  ⟨(some 44), .move (.tmp 8), none, 0⟩,
  ⟨(some 45), .call { callee := .value (.func 52), args := #[.tmp 43, .tmp 44], argTypes := #[28, 3] }, none, 3072⟩,
  ⟨(some 46), .binOp .mul 22 (.tmp 42) (.tmp 45) 22, none, 8128⟩,
  ⟨(some 47), .binOp .add 22 (.tmp 38) (.tmp 46) 22, none, 16383⟩,
  ⟨(some 48), .move (.tmp 7), none, 0⟩,
  ⟨(some 49), .binOp .add 22 (.tmp 47) (.tmp 48) 22, none, 1267650600228229401496703270911⟩,
  ⟨(some 9), .assign (.tmp 49), none, 1267650600228229401496703336447⟩]
def L59r10 : List AOp := [
  ⟨(some 50), .move (.tmp 5), none, 0⟩,
  ⟨(some 51), .move (.tmp 6), none, 0⟩,
  ⟨(some 52), .move (.tmp 8), none, 0⟩,
  ⟨(some 53), .binOp .add 3 (.tmp 51) (.tmp 52) 3, none, 0⟩,
  ⟨(some 54), .move (.tmp 9), none, 0⟩,
  ⟨(some 55), .binOp .rem 22 (.tmp 54) (.const (.int .u64 4294967296)) 22, none, 0⟩,
  ⟨(some 56), .indexAddr 28 (.tmp 50) (.tmp 53), none, 0⟩,
  ⟨none, .store 22 (.tmp 56) (.tmp 55), none, 0⟩]
def L59r11 : List AOp := [
  ⟨(some 57), .move (.tmp 9), none, 0⟩,
  ⟨(some 58), .binOp .quo 22 (.tmp 57) (.const (.int .u64 4294967296)) 22, none, 0⟩,
  ⟨(some 7), .assign (.tmp 58), none, 0⟩]
def L59r8 : List AOp := [
  ⟨(some 31), .move (.tmp 8), none, 0⟩,
  ⟨(some 32), .binOp .add 3 (.tmp 31) (.const (.int .i64 1)) 3, none, 0⟩,
  ⟨(some 8), .assign (.tmp 32), none, 0⟩]
def L59r4 : List AOp := [
  ⟨(some 21), .move (.tmp 6), none, 0⟩,
  ⟨(some 22), .binOp .add 3 (.tmp 21) (.const (.int .i64 1)) 3, none, 0⟩,
  ⟨(some 6), .assign (.tmp 22), none, 0⟩]
def L59r12 : List AOp := [
  ⟨(some 59), .move (.tmp 5), none, 0⟩,
  ⟨(some 60), .call { callee := .value (.func 53), args := #[.tmp 59], argTypes := #[28] }, none, 0⟩,
  ⟨(some 4), .assign (.tmp 60), none, 0⟩]
def L59 : LC := (.seq (.region L59r0) (.seq (.region L59r1) (.seq (.seq (.region L59r2) (.block 0 (.loop (.seq (.seq (.region L59r3) (.cond (.tmp 20) .skip (.exit 0))) (.seq (.block 1 (.seq (.region L59r5) (.seq (.region L59r6) (.block 2 (.loop (.seq (.seq (.region L59r7) (.cond (.tmp 30) .skip (.exit 2))) (.seq (.block 3 (.seq (.regionD L59r9) (.seq (.region L59r10) (.region L59r11)))) (.region L59r8)))))))) (.region L59r4)))))) (.seq (.region L59r12) .ret))))
theorem nt59 : Tryd.f59.ntmps = 61 := by kernel_rfl
theorem rs59 : Tryd.f59.results.toList = [.tmp 4] := by kernel_rfl
theorem lite59 : Tryd.f59.body.map (lite okDraw) = some L59 := by kernel_rfl
def L60r0 : List AOp := [
  ⟨(some 2), .box 24 (.tmp 0), none, 0⟩,
  ⟨(some 3), .box 24 (.tmp 1), none, 0⟩,
  ⟨(some 4), .alloc 24, none, 0⟩,
  ⟨(some 5), .assign (.const (.int .u64 0)), none, 0⟩]
def L60r1 : List AOp := [
  ⟨(some 6), .alloc 24, none, 0⟩]
def L60r2 : List AOp := [
  ⟨(some 7), .assign (.const (.int .u64 0)), none, 0⟩]
def L60r3 : List AOp := [
  ⟨(some 9), .move (.const (.int .i64 0)), none, 0⟩]
def L60r4 : List AOp := [
  ⟨(some 10), .binOp .lss 3 (.tmp 9) (.const (.int .i64 6)) 3, none, 0⟩]
def L60r5 : List AOp := [
  ⟨(some 11), .move (.tmp 9), none, 0⟩,
  ⟨(some 8), .assign (.tmp 11), none, 0⟩]
def L60r6 : List AOp := [
  ⟨(some 13), .move (.tmp 8), none, 0⟩,
  ⟨(some 14), .move (.tmp 8), none, 0⟩,
  ⟨(some 15), .indexAddr 24 (.tmp 2) (.tmp 14), none, 2⟩,
  ⟨(some 16), .load 22 (.tmp 15), none, 6⟩,
  ⟨(some 17), .move (.tmp 8), none, 0⟩,
  ⟨(some 18), .indexAddr 24 (.tmp 3) (.tmp 17), none, 16⟩,
  ⟨(some 19), .load 22 (.tmp 18), none, 48⟩,
  ⟨(some 20), .move (.tmp 7), none, 0⟩,
  ⟨(some 21), .call { callee := .value (.func 74), args := #[.tmp 16, .tmp 19, .tmp 20], argTypes := #[22, 22, 22] }, none, 254⟩,
  ⟨(some 12), .move (.tmp 21), none, 510⟩,
  ⟨(some 22), .extract (.tmp 12) 0, none, 1022⟩,
  ⟨(some 23), .extract (.tmp 12) 1, none, 1022⟩,
  ⟨(some 24), .indexAddr 24 (.tmp 6) (.tmp 13), none, 2047⟩,
  ⟨none, .store 22 (.tmp 24) (.tmp 22), none, 6143⟩,
  ⟨(some 7), .assign (.tmp 23), none, 1267650600228229401496703221759⟩]
def L60r7 : List AOp := [
  ⟨(some 25), .binOp .add 3 (.tmp 9) (.const (.int .i64 1)) 3, none, 0⟩,
  ⟨(some 9), .move (.tmp 25), none, 0⟩]
def L60r8 : List AOp := [
  ⟨(some 26), .load 24 (.tmp 6), none, 0⟩,
  ⟨(some 27), .move (.tmp 7), none, 0⟩,
  ⟨none, .store 24 (.tmp 4) (.tmp 26), none, 0⟩,
  ⟨(some 5), .assign (.tmp 27), none, 0⟩]
def L60 : LC := (.seq (.region L60r0) (.seq (.region L60r1) (.seq (.region L60r2) (.seq (.seq (.region L60r3) (.block 0 (.loop (.seq (.region L60r4) (.seq (.cond (.tmp 10) .skip (.exit 0)) (.seq (.block 1 (.seq (.region L60r5) (.regionD L60r6))) (.region L60r7))))))) (.seq (.region L60r8) .ret)))))
theorem nt60 : Tryd.f60.ntmps = 28 := by kernel_rfl
theorem rs60 : Tryd.f60.results.toList = [.cell 4 24, .tmp 5] := by kernel_rfl
theorem lite60 : Tryd.f60.body.map (lite okDraw) = some L60 := by kernel_rfl
def L61r0 : List AOp := [
  ⟨(some 3), .box 24 (.tmp 0), none, 0⟩,
  ⟨(some 4), .box 24 (.tmp 1), none, 0⟩,
  ⟨(some 5), .box 52 (.tmp 2), none, 0⟩,
  ⟨(some 6), .alloc 24, none, 0⟩]
def L61r1 : List AOp := [
  ⟨(some 10), .load 24 (.tmp 3), none, 0⟩,
  ⟨(some 11), .fieldAddr 52 (.tmp 5) 2, none, 0⟩,
  ⟨(some 12), .load 24 (.tmp 11), none, 0⟩,
  ⟨(some 13), .load 52 (.tmp 5), none, 0⟩,
  ⟨(some 14), .call { callee := .value (.func 73), args := #[.tmp 10, .tmp 12, .tmp 13], argTypes := #[24, 24, 52] }, none, 0⟩,
  ⟨(some 7), .alloc 24, none, 0⟩,
  ⟨none, .store 24 (.tmp 7) (.tmp 14), none, 0⟩]
def L61r2 : List AOp := [
  ⟨(some 15), .build 24 #[(0, .const (.int .u64 1))], none, 0⟩,
  ⟨(some 16), .fieldAddr 52 (.tmp 5) 2, none, 0⟩,
  ⟨(some 17), .load 24 (.tmp 16), none, 0⟩,
  ⟨(some 18), .load 52 (.tmp 5), none, 0⟩,
  ⟨(some 19), .call { callee := .value (.func 73), args := #[.tmp 15, .tmp 17, .tmp 18], argTypes := #[24, 24, 52] }, none, 0⟩,
  ⟨(some 8), .alloc 24, none, 0⟩,
  ⟨none, .store 24 (.tmp 8) (.tmp 19), none, 0⟩]
def L61r3 : List AOp := [
  ⟨(some 9), .assign (.const (.int .i64 383)), none, 0⟩]
def L61r4 : List AOp := [
  ⟨(some 20), .move (.tmp 9), none, 0⟩,
  ⟨(some 21), .binOp .geq 3 (.tmp 20) (.const (.int .i64 0)) 3, none, 0⟩]
def L61r6 : List AOp := [
  ⟨(some 24), .load 24 (.tmp 8), none, 0⟩,
  ⟨(some 25), .load 24 (.tmp 8), none, 0⟩,
  ⟨(some 26), .load 52 (.tmp 5), none, 0⟩,
  ⟨(some 27), .call { callee := .value (.func 73), args := #[.tmp 24, .tmp 25, .tmp 26], argTypes := #[24, 24, 52] }, none, 0⟩,
  ⟨none, .store 24 (.tmp 8) (.tmp 27), none, 0⟩]
def L61r7 : List AOp := [
  ⟨(some 28), .load 24 (.tmp 4), none, 0⟩,
  ⟨(some 29), .move (.tmp 9), none, 0⟩,
  ⟨(some 30), .call { callee := .value (.func 65), args := #[.tmp 28, .tmp 29], argTypes := #[24, 3] }, none, 3⟩,
  ⟨(some 31), .load 24 (.tmp 8), none, 0⟩,
  ⟨(some 32), .load 24 (.tmp 8), none, 0⟩,
  ⟨(some 33), .load 24 (.tmp 7), none, 0⟩,
  ⟨(some 34), .load 52 (.tmp 5), none, 0⟩,
  ⟨(some 35), .call { callee := .value (.func 73), args := #[.tmp 32, .tmp 33, .tmp 34], argTypes := #[24, 24, 52] }, none, 119⟩,
  ⟨(some 36), .call { callee := .value (.func 64), args := #[.tmp 30, .tmp 31, .tmp 35], argTypes := #[22, 24, 24] }, none, 1267650600228229401496703205631⟩,
  ⟨none, .store 24 (.tmp 8) (.tmp 36), none, 1267650600228229401496703205887⟩]
def L61r5 : List AOp := [
  ⟨(some 22), .move (.tmp 9), none, 0⟩,
  ⟨(some 23), .binOp .sub 3 (.tmp 22) (.const (.int .i64 1)) 3, none, 0⟩,
  ⟨(some 9), .assign (.tmp 23), none, 0⟩]
def L61r8 : List AOp := [
  ⟨(some 37), .load 24 (.tmp 8), none, 0⟩,
  ⟨(some 38), .build 24 #[(0, .const (.int .u64 1))], none, 0⟩,
  ⟨(some 39), .load 52 (.tmp 5), none, 0⟩,
  ⟨(some 40), .call { callee := .value (.func 73), args := #[.tmp 37, .tmp 38, .tmp 39], argTypes := #[24, 24, 52] }, none, 0⟩,
  ⟨none, .store 24 (.tmp 6) (.tmp 40), none, 0⟩]
def L61 : LC := (.seq (.region L61r0) (.seq (.region L61r1) (.seq (.region L61r2) (.seq (.seq (.region L61r3) (.block 0 (.loop (.seq (.seq (.region L61r4) (.cond (.tmp 21) .skip (.exit 0))) (.seq (.block 1 (.seq (.region L61r6) (.regionD L61r7))) (.region L61r5)))))) (.seq (.region L61r8) .ret)))))
theorem nt61 : Tryd.f61.ntmps = 41 := by kernel_rfl
theorem rs61 : Tryd.f61.results.toList = [.cell 6 24] := by kernel_rfl
theorem lite61 : Tryd.f61.body.map (lite okDraw) = some L61 := by kernel_rfl
def L62r0 : List AOp := [
  ⟨(some 2), .box 24 (.tmp 0), none, 0⟩,
  ⟨(some 3), .box 24 (.tmp 1), none, 0⟩,
  ⟨(some 4), .alloc 24, none, 0⟩,
  ⟨(some 5), .assign (.const (.int .u64 0)), none, 0⟩]
def L62r1 : List AOp := [
  ⟨(some 6), .alloc 24, none, 0⟩]
def L62r2 : List AOp := [
  ⟨(some 7), .assign (.const (.int .u64 0)), none, 0⟩]
def L62r3 : List AOp := [
  ⟨(some 9), .move (.const (.int .i64 0)), none, 0⟩]
def L62r4 : List AOp := [
  ⟨(some 10), .binOp .lss 3 (.tmp 9) (.const (.int .i64 6)) 3, none, 0⟩]
def L62r5 : List AOp := [
  ⟨(some 11), .move (.tmp 9), none, 0⟩,
  ⟨(some 8), .assign (.tmp 11), none, 0⟩]
def L62r6 : List AOp := [
  ⟨(some 13), .move (.tmp 8), none, 0⟩,
  ⟨(some 14), .move (.tmp 8), none, 0⟩,
  ⟨(some 15), .indexAddr 24 (.tmp 2) (.tmp 14), none, 2⟩,
  ⟨(some 16), .load 22 (.tmp 15), none, 6⟩,
  ⟨(some 17), .move (.tmp 8), none, 0⟩,
  ⟨(some 18), .indexAddr 24 (.tmp 3) (.tmp 17), none, 16⟩,
  ⟨(some 19), .load 22 (.tmp 18), none, 48⟩,
  ⟨(some 20), .move (.tmp 7), none, 0⟩,
  ⟨(some 21), .call { callee := .value (.func 75), args := #[.tmp 16, .tmp 19, .tmp 20], argTypes := #[22, 22, 22] }, none, 254⟩,
  ⟨(some 12), .move (.tmp 21), none, 510⟩,
  ⟨(some 22), .extract (.tmp 12) 0, none, 1022⟩,
  ⟨(some 23), .extract (.tmp 12) 1, none, 1022⟩,
  ⟨(some 24), .indexAddr 24 (.tmp 6) (.tmp 13), none, 2047⟩,
  ⟨none, .store 22 (.tmp 24) (.tmp 22), none, 6143⟩,
  ⟨(some 7), .assign (.tmp 23), none, 1267650600228229401496703221759⟩]
def L62r7 : List AOp := [
  ⟨(some 25), .binOp .add 3 (.tmp 9) (.const (.int .i64 1)) 3, none, 0⟩,
  ⟨(some 9), .move (.tmp 25), none, 0⟩]
def L62r8 : List AOp := [
  ⟨(some 26), .load 24 (.tmp 6), none, 0⟩,
  ⟨(some 27), .move (.tmp 7), none, 0⟩,
  ⟨none, .store 24 (.tmp 4) (.tmp 26), none, 0⟩,
  ⟨(some 5), .assign (.tmp 27), none, 0⟩]
def L62 : LC := (.seq (.region L62r0) (.seq (.region L62r1) (.seq (.region L62r2) (.seq (.seq (.region L62r3) (.block 0 (.loop (.seq (.region L62r4) (.seq (.cond (.tmp 10) .skip (.exit 0)) (.seq (.block 1 (.seq (.region L62r5) (.regionD L62r6))) (.region L62r7))))))) (.seq (.region L62r8) .ret)))))
theorem nt62 : Tryd.f62.ntmps = 28 := by kernel_rfl
theorem rs62 : Tryd.f62.results.toList = [.cell 4 24, .tmp 5] := by kernel_rfl
theorem lite62 : Tryd.f62.body.map (lite okDraw) = some L62 := by kernel_rfl
def L63r0 : List AOp := [
  ⟨(some 2), .box 24 (.tmp 0), none, 0⟩,
  ⟨(some 3), .box 24 (.tmp 1), none, 0⟩,
  ⟨(some 4), .assign (.const (.int .u64 0)), none, 0⟩]
def L63r1 : List AOp := [
  ⟨(some 5), .assign (.const (.int .u64 0)), none, 0⟩]
def L63r2 : List AOp := [
  ⟨(some 9), .move (.const (.int .i64 0)), none, 0⟩]
def L63r3 : List AOp := [
  ⟨(some 10), .binOp .lss 3 (.tmp 9) (.const (.int .i64 6)) 3, none, 0⟩]
def L63r4 : List AOp := [
  ⟨(some 11), .move (.tmp 9), none, 0⟩,
  ⟨(some 6), .assign (.tmp 11), none, 0⟩]
def L63r5 : List AOp := [
  ⟨(some 12), .move (.tmp 5), none, 0⟩,
  ⟨(some 13), .move (.tmp 6), none, 0⟩,
  ⟨(some 14), .indexAddr 24 (.tmp 2) (.tmp 13), none, 2⟩,
  ⟨(some 15), .load 22 (.tmp 14), none, 6⟩,
  ⟨(some 16), .move (.tmp 6), none, 0⟩,
  ⟨(some 17), .indexAddr 24 (.tmp 3) (.tmp 16), none, 16⟩,
  ⟨(some 18), .load 22 (.tmp 17), none, 48⟩,
  ⟨(some 19), .binOp .xor 22 (.tmp 15) (.tmp 18) 22, none, 126⟩,
  ⟨(some 20), .binOp .or 22 (.tmp 12) (.tmp 19) 22, none, 1267650600228229401496703205631⟩,
  ⟨(some 5), .assign (.tmp 20), none, 1267650600228229401496703205887⟩]
def L63r6 : List AOp := [
  ⟨(some 21), .binOp .add 3 (.tmp 9) (.const (.int .i64 1)) 3, none, 0⟩,
  ⟨(some 9), .move (.tmp 21), none, 0⟩]
def L63r7 : List AOp := [
  ⟨(some 23), .move (.tmp 5), none, 0⟩,
  ⟨(some 24), .call { callee := .value (.func 74), args := #[.tmp 23, .const (.int .u64 1), .const (.int .u64 0)], argTypes := #[22, 22, 22] }, none, 0⟩,
  ⟨(some 22), .move (.tmp 24), none, 0⟩,
  ⟨(some 25), .extract (.tmp 22) 0, none, 0⟩,
  ⟨(some 26), .extract (.tmp 22) 1, none, 0⟩,
  ⟨(some 7), .assign (.tmp 25), none, 0⟩,
  ⟨(some 8), .assign (.tmp 26), none, 0⟩]
def L63r8 : List AOp := [
  ⟨(some 27), .move (.tmp 8), none, 0⟩,
  ⟨(some 4), .assign (.tmp 27), none, 0⟩]
def L63 : LC := (.seq (.region L63r0) (.seq (.region L63r1) (.seq (.seq (.region L63r2) (.block 0 (.loop (.seq (.region L63r3) (.seq (.cond (.tmp 10) .skip (.exit 0)) (.seq (.block 1 (.seq (.region L63r4) (.regionD L63r5))) (.region L63r6))))))) (.seq (.region L63r7) (.seq (.region L63r8) .ret)))))
theorem nt63 : Tryd.f63.ntmps = 28 := by kernel_rfl
theorem rs63 : Tryd.f63.results.toList = [.tmp 4] := by kernel_rfl
theorem lite63 : Tryd.f63.body.map (lite okDraw) = some L63 := by kernel_rfl
def L64r0 : List AOp := [
  ⟨(some 4), .box 24 (.tmp 1), none, 0⟩,
  ⟨(some 5), .box 24 (.tmp 2), none, 0⟩,
  ⟨(some 6), .alloc 24, none, 0⟩]
def L64r1 : List AOp := [
  ⟨(some 10), .move (.tmp 0), none, 0⟩,
  ⟨(some 11), .binOp .and 22 (.tmp 10) (.const (.int .u64 1)) 22, none, 0⟩,
  ⟨(some 12), .unOp .neg 22 (.tmp 11), none, 0⟩,
  ⟨(some 7), .assign (.tmp 12), none, 0⟩]
def L64r2 : List AOp := [
  ⟨(some 8), .alloc 24, none, 0⟩]
def L64r3 : List AOp := [
  ⟨(some 13), .move (.const (.int .i64 0)), none, 0⟩]
def L64r4 : List AOp := [
  ⟨(some 14), .binOp .lss 3 (.tmp 13) (.const (.int .i64 6)) 3, none, 0⟩]
def L64r5 : List AOp := [
  ⟨(some 15), .move (.tmp 13), none, 0⟩,
  ⟨(some 9), .assign (.tmp 15), none, 0⟩]
def L64r6 : List AOp := [
  ⟨(some 16), .move (.tmp 9), none, 0⟩,
  ⟨(some 17), .move (.tmp 9), none, 0⟩,
  ⟨(some 18), .indexAddr 24 (.tmp 4) (.tmp 17), none, 2⟩,
  ⟨(some 19), .load 22 (.tmp 18), none, 6⟩,
  ⟨(some 20), .move (.tmp 7), none, 0⟩,
  ⟨(some 21), .binOp .andNot 22 (.tmp 19) (.tmp 20) 22, none, 30⟩,
  ⟨(some 22), .move (.tmp 9), none, 0⟩,
  ⟨(some 23), .indexAddr 24 (.tmp 5) (.tmp 22), none, 64⟩,
  ⟨(some 24), .load 22 (.tmp 23), none, 192⟩,
  ⟨(some 25), .move (.tmp 7), none, 0⟩,
  ⟨(some 26), .binOp .and 22 (.tmp 24) (.tmp 25) 22, none, 960⟩,
  ⟨(some 27), .binOp .or 22 (.tmp 21) (.tmp 26) 22, none, 2046⟩,
  ⟨(some 28), .indexAddr 24 (.tmp 8) (.tmp 16), none, 1267650600228229401496703209471⟩,
  ⟨none, .store 22 (.tmp 28) (.tmp 27), none, 1267650600228229401496703213567⟩]
def L64r7 : List AOp := [
  ⟨(some 29), .binOp .add 3 (.tmp 13) (.const (.int .i64 1)) 3, none, 0⟩,
  ⟨(some 13), .move (.tmp 29), none, 0⟩]
def L64r8 : List AOp := [
  ⟨(some 30), .load 24 (.tmp 8), none, 0⟩,
  ⟨none, .store 24 (.tmp 6) (.tmp 30), none, 0⟩]
def L64 : LC := (.seq (.region L64r0) (.seq (.region L64r1) (.seq (.region L64r2) (.seq (.seq (.region L64r3) (.block 0 (.loop (.seq (.region L64r4) (.seq (.cond (.tmp 14) .skip (.exit 0)) (.seq (.block 1 (.seq (.region L64r5) (.regionD L64r6))) (.region L64r7))))))) (.seq (.region L64r8) .ret)))))
theorem nt64 : Tryd.f64.ntmps = 31 := by kernel_rfl
theorem rs64 : Tryd.f64.results.toList = [.cell 6 24] := by kernel_rfl
theorem lite64 : Tryd.f64.body.map (lite okDraw) = some L64 := by kernel_rfl
def L65r0 : List AOp := [
  ⟨(some 2), .box 24 (.tmp 0), none, 0⟩,
  ⟨(some 4), .assign (.const (.int .u64 0)), none, 0⟩]
def L65r1 : List AOp := [
  ⟨(some 5), .move (.tmp 1), none, 0⟩,
  ⟨(some 6), .binOp .lss 3 (.tmp 5) (.const (.int .i64 0)) 3, none, 0⟩,
  ⟨(some 7), .move (.tmp 6), none, 0⟩,
  ⟨(some 8), .move (.tmp 1), (some (7, false)), 0⟩,
  ⟨(some 9), .binOp .geq 3 (.tmp 8) (.const (.int .i64 384)) 3, (some (7, false)), 0⟩,
  ⟨(some 10), .pick (.tmp 7) (.const (.bool true)) (.tmp 9), none, 0⟩]
def L65r2 : List AOp := [
  ⟨(some 4), .assign (.const (.int .u64 0)), none, 0⟩]
def L65r3 : List AOp := [
  ⟨(some 11), .move (.tmp 1), none, 0⟩,
  ⟨(some 12), .binOp .quo 3 (.tmp 11) (.const (.int .i64 64)) 3, none, 0⟩,
  ⟨(some 13), .indexAddr 24 (.tmp 2) (.tmp 12), none, 0⟩,
  ⟨(some 14), .load 22 (.tmp 13), none, 0⟩,
  ⟨(some 15), .move (.tmp 1), none, 0⟩,
  ⟨(some 16), .binOp .rem 3 (.tmp 15) (.const (.int .i64 64)) 3, none, 0⟩,
  ⟨(some 17), .binOp .shr 22 (.tmp 14) (.tmp 16) 3, none, 0⟩,
  ⟨(some 18), .binOp .and 22 (.tmp 17) (.const (.int .u64 1)) 22, none, 0⟩,
  ⟨(some 4), .assign (.tmp 18), none, 0⟩]
def L65 : LC := (.seq (.region L65r0) (.seq (.seq (.region L65r1) (.cond (.tmp 10) (.seq (.region L65r2) .ret) .skip)) (.seq (.region L65r3) .ret)))
theorem nt65 : Tryd.f65.ntmps = 19 := by kernel_rfl
theorem rs65 : Tryd.f65.results.toList = [.tmp 4] := by kernel_rfl
theorem lite65 : Tryd.f65.body.map (lite okDraw) = some L65 := by kernel_rfl
def L66r0 : List AOp := [
  ⟨(some 4), .assign (.const (.slice none 0 0)), none, 0⟩,
  ⟨(some 5), .assign (.const (.slice none 0 0)), none, 0⟩]
def L66r1 : List AOp := [
  ⟨(some 6), .assign (.const (.slice none 0 0)), none, 0⟩]
def L66r2 : List AOp := [
  ⟨(some 7), .assign (.const (.slice none 0 0)), none, 0⟩]
def L66r3 : List AOp := [
  ⟨(some 10), .move (.tmp 0), none, 0⟩,
  ⟨(some 11), .call { callee := .value (.func 76), args := #[.tmp 10], argTypes := #[28] }, none, 0⟩,
  ⟨(some 12), .binOp .sub 3 (.tmp 11) (.const (.int .i64 1)) 3, none, 0⟩,
  ⟨(some 8), .assign (.tmp 12), none, 0⟩]
def L66r4 : List AOp := [
  ⟨(some 13), .move (.tmp 8), none, 0⟩,
  ⟨(some 14), .binOp .geq 3 (.tmp 13) (.const (.int .i64 0)) 3, none, 0⟩]
def L66r6 : List AOp := [
  ⟨(some 17), .move (.tmp 7), none, 0⟩,
  ⟨(some 18), .move (.tmp 7), none, 0⟩,
  ⟨(some 19), .call { callee := .value (.func 27), args := #[.tmp 17, .tmp 18], argTypes := #[28, 28] }, none, 0⟩,
  ⟨(some 7), .assign (.tmp 19), none, 0⟩]
def L66r7 : List AOp := [
  ⟨(some 20), .move (.tmp 0), none, 0⟩,
  ⟨(some 21), .move (.tmp 8), none, 0⟩,
  ⟨(some 22), .call { callee := .value (.func 77), args := #[.tmp 20, .tmp 21], argTypes := #[28, 3] }, none, 0⟩,
  ⟨(some 9), .assign (.tmp 22), none, 0⟩]
def L66r8 : List AOp := [
  ⟨(some 23), .move (.tmp 9), none, 0⟩]
def L66r9 : List AOp := [
  ⟨(some 24), .move (.tmp 7), none, 0⟩,
  ⟨(some 25), .buildSlice 28 1 #[(0, .const (.int .u64 1))], none, 0⟩,
  ⟨(some 26), .call { callee := .value (.func 27), args := #[.tmp 24, .tmp 25], argTypes := #[28, 28] }, none, 0⟩,
  ⟨(some 7), .assign (.tmp 26), none, 0⟩]
def L66r10 : List AOp := [
  ⟨(some 27), .move (.tmp 6), none, 0⟩,
  ⟨(some 28), .move (.tmp 6), none, 0⟩,
  ⟨(some 29), .call { callee := .value (.func 27), args := #[.tmp 27, .tmp 28], argTypes := #[28, 28] }, none, 0⟩,
  ⟨(some 6), .assign (.tmp 29), none, 0⟩]
def L66r11 : List AOp := [
  ⟨(some 30), .move (.tmp 7), none, 0⟩,
  ⟨(some 31), .move (.tmp 1), none, 0⟩,
  ⟨(some 32), .call { callee := .value (.func 37), args := #[.tmp 30, .tmp 31], argTypes := #[28, 28] }, none, 0⟩,
  ⟨(some 33), .binOp .geq 3 (.tmp 32) (.const (.int .i64 0)) 3, none, 0⟩]
def L66r12 : List AOp := [
  ⟨(some 34), .move (.tmp 7), none, 0⟩,
  ⟨(some 35), .move (.tmp 1), none, 0⟩,
  ⟨(some 36), .call { callee := .value (.func 55), args := #[.tmp 34, .tmp 35], argTypes := #[28, 28] }, none, 0⟩,
  ⟨(some 7), .assign (.tmp 36), none, 0⟩]
def L66r13 : List AOp := [
  ⟨(some 37), .move (.tmp 6), none, 0⟩,
  ⟨(some 38), .buildSlice 28 1 #[(0, .const (.int .u64 1))], none, 0⟩,
  ⟨(some 39), .call { callee := .value (.func 27), args := #[.tmp 37, .tmp 38], argTypes := #[28, 28] }, none, 0⟩,
  ⟨(some 6), .assign (.tmp 39), none, 0⟩]
def L66r5 : List AOp := [
  ⟨(some 15), .move (.tmp 8), none, 0⟩,
  ⟨(some 16), .binOp .sub 3 (.tmp 15) (.const (.int .i64 1)) 3, none, 0⟩,
  ⟨(some 8), .assign (.tmp 16), none, 0⟩]
def L66r14 : List AOp := [
  ⟨(some 40), .move (.tmp 6), none, 0⟩,
  ⟨(some 41), .move (.tmp 7), none, 0⟩,
  ⟨(some 4), .assign (.tmp 40), none, 0⟩,
  ⟨(some 5), .assign (.tmp 41), none, 0⟩]
def L66 : LC := (.seq (.region L66r0) (.seq (.region L66r1) (.seq (.region L66r2) (.seq (.seq (.region L66r3) (.block 0 (.loop (.seq (.seq (.region L66r4) (.cond (.tmp 14) .skip (.exit 0))) (.seq (.block 1 (.seq (.region L66r6) (.seq (.region L66r7) (.seq (.seq (.region L66r8) (.cond (.tmp 23) (.region L66r9) .skip)) (.seq (.region L66r10) (.seq (.region L66r11) (.cond (.tmp 33) (.seq (.region L66r12) (.region L66r13)) .skip))))))) (.region L66r5)))))) (.seq (.region L66r14) .ret)))))
theorem nt66 : Tryd.f66.ntmps = 42 := by kernel_rfl
theorem rs66 : Tryd.f66.results.toList = [.tmp 4, .tmp 5] := by kernel_rfl
theorem lite66 : Tryd.f66.body.map (lite okDraw) = some L66 := by kernel_rfl
def L67r0 : List AOp := [
  ⟨(some 6), .assign (.const (.slice none 0 0)), none, 0⟩]
def L67r1 : List AOp := [
  ⟨(some 11), .buildSlice 28 1 #[(0, .const (.int .u64 1))], none, 0⟩,
  ⟨(some 12), .move (.tmp 2), none, 0⟩,
  ⟨(some 13), .call { callee := .value (.func 50), args := #[.tmp 11, .tmp 12], argTypes := #[28, 28] }, none, 0⟩,
  ⟨(some 7), .assign (.tmp 13), none, 0⟩]
def L67r2 : List AOp := [
  ⟨(some 14), .move (.tmp 0), none, 0⟩,
  ⟨(some 15), .move (.tmp 2), none, 0⟩,
  ⟨(some 16), .call { callee := .value (.func 50), args := #[.tmp 14, .tmp 15], argTypes := #[28, 28] }, none, 0⟩,
  ⟨(some 8), .assign (.tmp 16), none, 0⟩]
def L67r3 : List AOp := [
  ⟨(some 17), .move (.tmp 1), none, 0⟩,
  ⟨(some 18), .call { callee := .value (.func 76), args := #[.tmp 17], argTypes := #[28] }, none, 0⟩,
  ⟨(some 19), .binOp .sub 3 (.tmp 18) (.const (.int .i64 1)) 3, none, 0⟩,
  ⟨(some 9), .assign (.tmp 19), none, 0⟩]
def L67r4 : List AOp := [
  ⟨(some 20), .move (.tmp 9), none, 0⟩,
  ⟨(some 21), .binOp .geq 3 (.tmp 20) (.const (.int .i64 0)) 3, none, 0⟩]
def L67r6 : List AOp := [
  ⟨(some 24), .move (.tmp 7), none, 0⟩,
  ⟨(some 25), .move (.tmp 7), none, 0⟩,
  ⟨(some 26), .call { callee := .value (.func 59), args := #[.tmp 24, .tmp 25], argTypes := #[28, 28] }, none, 0⟩,
  ⟨(some 27), .move (.tmp 2), none, 0⟩,
  ⟨(some 28), .call { callee := .value (.func 50), args := #[.tmp 26, .tmp 27], argTypes := #[28, 28] }, none, 0⟩,
  ⟨(some 7), .assign (.tmp 28), none, 0⟩]
def L67r7 : List AOp := [
  ⟨(some 29), .move (.tmp 1), none, 0⟩,
  ⟨(some 30), .move (.tmp 9), none, 0⟩,
  ⟨(some 31), .call { callee := .value (.func 77), args := #[.tmp 29, .tmp 30], argTypes := #[28, 3] }, none, 0⟩,
  ⟨(some 10), .assign (.tmp 31), none, 0⟩]
def L67r8 : List AOp := [
  ⟨(some 32), .move (.tmp 10), none, 0⟩]
def L67r9 : List AOp := [
  ⟨(some 33), .move (.tmp 7), none, 0⟩,
  ⟨(some 34), .move (.tmp 8), none, 0⟩,
  ⟨(some 35), .call { callee := .value (.func 59), args := #[.tmp 33, .tmp 34], argTypes := #[28, 28] }, none, 0⟩,
  ⟨(some 36), .move (.tmp 2), none, 0⟩,
  ⟨(some 37), .call { callee := .value (.func 50), args := #[.tmp 35, .tmp 36], argTypes := #[28, 28] }, none, 0⟩,
  ⟨(some 7), .assign (.tmp 37), none, 0⟩]
def L67r5 : List AOp := [
  ⟨(some 22), .move (.tmp 9), none, 0⟩,
  ⟨(some 23), .binOp .sub 3 (.tmp 22) (.const (.int .i64 1)) 3, none, 0⟩,
  ⟨(some 9), .assign (.tmp 23), none, 0⟩]
def L67r10 : List AOp := [
  ⟨(some 38), .move (.tmp 7), none, 0⟩,
  ⟨(some 6), .assign (.tmp 38), none, 0⟩]
def L67 : LC := (.seq (.region L67r0) (.seq (.region L67r1) (.seq (.region L67r2) (.seq (.seq (.region L67r3) (.block 0 (.loop (.seq (.seq (.region L67r4) (.cond (.tmp 21) .skip (.exit 0))) (.seq (.block 1 (.seq (.region L67r6) (.seq (.region L67r7) (.seq (.region L67r8) (.cond (.tmp 32) (.region L67r9) .skip))))) (.region L67r5)))))) (.seq (.region L67r10) .ret)))))
theorem nt67 : Tryd.f67.ntmps = 39 := by kernel_rfl
theorem rs67 : Tryd.f67.results.toList = [.tmp 6] := by kernel_rfl
theorem lite67 : Tryd.f67.body.map (lite okDraw) = some L67 := by kernel_rfl
def L68r0 : List AOp := [
  ⟨(some 2), .box 24 (.tmp 0), none, 0⟩,
  ⟨(some 3), .box 52 (.tmp 1), none, 0⟩,
  ⟨(some 4), .alloc 24, none, 0⟩]
def L68r1 : List AOp := [
  ⟨(some 5), .load 24 (.tmp 2), none, 0⟩,
  ⟨(some 6), .fieldAddr 52 (.tmp 3) 0, none, 0⟩,
  ⟨(some 7), .load 24 (.tmp 6), none, 0⟩,
  ⟨(some 8), .call { callee := .value (.func 69), args := #[.tmp 5, .const (.int .u64 0), .tmp 7], argTypes := #[24, 22, 24] }, none, 0⟩,
  ⟨none, .store 24 (.tmp 4) (.tmp 8), none, 0⟩]
def L68 : LC := (.seq (.region L68r0) (.seq (.region L68r1) .ret))
theorem nt68 : Tryd.f68.ntmps = 9 := by kernel_rfl
theorem rs68 : Tryd.f68.results.toList = [.cell 4 24] := by kernel_rfl
theorem lite68 : Tryd.f68.body.map (lite okDraw) = some L68 := by kernel_rfl
def L69r0 : List AOp := [
  ⟨(some 3), .box 24 (.tmp 0), none, 0⟩,
  ⟨(some 5), .box 24 (.tmp 2), none, 0⟩,
  ⟨(some 6), .alloc 24, none, 0⟩]
def L69r1 : List AOp := [
  ⟨(some 10), .load 24 (.tmp 3), none, 0⟩,
  ⟨(some 11), .load 24 (.tmp 5), none, 0⟩,
  ⟨(some 12), .call { callee := .value (.func 60), args := #[.tmp 10, .tmp 11], argTypes := #[24, 24] }, none, 0⟩,
  ⟨(some 9), .move (.tmp 12), none, 0⟩,
  ⟨(some 13), .extract (.tmp 9) 0, none, 0⟩,
  ⟨(some 14), .extract (.tmp 9) 1, none, 0⟩,
  ⟨(some 7), .alloc 24, none, 0⟩,
  ⟨none, .store 24 (.tmp 7) (.tmp 13), none, 0⟩,
  ⟨(some 8), .assign (.tmp 14), none, 0⟩]
def L69r2 : List AOp := [
  ⟨(some 15), .move (.tmp 1), none, 0⟩,
  ⟨(some 16), .move (.tmp 8), none, 0⟩,
  ⟨(some 17), .binOp .xor 22 (.const (.int .u64 1)) (.tmp 16) 22, none, 0⟩,
  ⟨(some 18), .binOp .or 22 (.tmp 15) (.tmp 17) 22, none, 0⟩,
  ⟨(some 19), .load 24 (.tmp 3), none, 0⟩,
  ⟨(some 20), .load 24 (.tmp 7), none, 0⟩,
  ⟨(some 21), .call { callee := .value (.func 64), args := #[.tmp 18, .tmp 19, .tmp 20], argTypes := #[22, 24, 24] }, none, 0⟩,
  ⟨none, .store 24 (.tmp 6) (.tmp 21), none, 0⟩]
def L69 : LC := (.seq (.region L69r0) (.seq (.region L69r1) (.seq (.region L69r2) .ret)))
theorem nt69 : Tryd.f69.ntmps = 22 := by kernel_rfl
theorem rs69 : Tryd.f69.results.toList = [.cell 6 24] := by kernel_rfl
theorem lite69 : Tryd.f69.body.map (lite okDraw) = some L69 := by kernel_rfl
def L70r0 : List AOp := [
  ⟨(some 0), .assign (.const (.slice none 0 0)), none, 0⟩]
def L70r1 : List AOp := [
  ⟨(some 1), .buildSlice 28 13 #[(0, .const (.int .u64 0)), (1, .const (.int .u64 0)), (2, .const (.int .u64 0)), (3, .const (.int .u64 0)), (4, .const (.int .u64 0)), (5, .const (.int .u64 0)), (6, .const (.int .u64 0)), (7, .const (.int .u64 0)), (8, .const (.int .u64 0)), (9, .const (.int .u64 0)), (10, .const (.int .u64 0)), (11, .const (.int .u64 0)), (12, .const (.int .u64 1))], none, 0⟩,
  ⟨(some 0), .assign (.tmp 1), none, 0⟩]
def L70 : LC := (.seq (.region L70r0) (.seq (.region L70r1) .ret))
theorem nt70 : Tryd.f70.ntmps = 2 := by kernel_rfl
theorem rs70 : Tryd.f70.results.toList = [.tmp 0] := by kernel_rfl
theorem lite70 : Tryd.f70.body.map (lite okDraw) = some L70 := by kernel_rfl
def L71r0 : List AOp := [
  ⟨(some 2), .assign (.const (.slice none 0 0)), none, 0⟩,
  ⟨(some 3), .assign (.const (.slice none 0 0)), none, 0⟩]
def L71r1 : List AOp := [
  ⟨(some 4), .move (.tmp 0), none, 0⟩,
  ⟨(some 5), .call { callee := .builtin .len, args := #[.tmp 4], argTypes := #[28] }, none, 0⟩,
  ⟨(some 6), .binOp .leq 3 (.tmp 5) (.const (.int .i64 12)) 3, none, 0⟩]
def L71r2 : List AOp := [
  ⟨(some 7), .move (.tmp 0), none, 0⟩,
  ⟨(some 2), .assign (.tmp 7), none, 0⟩,
  ⟨(some 3), .assign (.const (.slice none 0 0)), none, 0⟩]
def L71r3 : List AOp := [
  ⟨(some 8), .buildSlice 28 0 #[], none, 0⟩,
  ⟨(some 9), .move (.tmp 0), none, 0⟩,
  ⟨(some 10), .slice 28 (.tmp 9) none (some (.const (.int .i64 12))) none, none, 2⟩,
  ⟨(some 11), .call { callee := .builtin .append, args := #[.tmp 8, .tmp 10], argTypes := #[28, 28] }, none, 7⟩,
  ⟨(some 12), .call { callee := .value (.func 53), args := #[.tmp 11], argTypes := #[28] }, none, 15⟩,
  ⟨(some 13), .buildSlice 28 0 #[], none, 0⟩,
  ⟨(some 14), .move (.tmp 0), none, 0⟩,
  ⟨(some 15), .slice 28 (.tmp 14) (some (.const (.int .i64 12))) none none, none, 64⟩,
  ⟨(some 16), .call { callee := .builtin .append, args := #[.tmp 13, .tmp 15], argTypes := #[28, 28] }, none, 1267650600228229401496703205631⟩,
  ⟨(some 2), .assign (.tmp 12), none, 1267650600228229401496703205887⟩,
  ⟨(some 3), .assign (.tmp 16), none, 1267650600228229401496703206399⟩]
def L71 : LC := (.seq (.region L71r0) (.seq (.seq (.region L71r1) (.cond (.tmp 6) (.seq (.region L71r2) .ret) .skip)) (.seq (.regionD L71r3) .ret)))
theorem nt71 : Tryd.f71.ntmps = 17 := by kernel_rfl
theorem rs71 : Tryd.f71.results.toList = [.tmp 2, .tmp 3] := by kernel_rfl
theorem lite71 : Tryd.f71.body.map (lite okDraw) = some L71 := by kernel_rfl
def L72r0 : List AOp := [
  ⟨(some 2), .assign (.const (.slice none 0 0)), none, 0⟩]
def L72r1 : List AOp := [
  ⟨(some 3), .assign (.const (.slice none 0 0)), none, 0⟩]
def L72r2 : List AOp := [
  ⟨(some 4), .assign (.const (.int .i64 0)), none, 0⟩]
def L72r3 : List AOp := [
  ⟨(some 5), .move (.tmp 4), none, 0⟩,
  ⟨(some 6), .move (.tmp 0), none, 0⟩,
  ⟨(some 7), .call { callee := .builtin .len, args := #[.tmp 6], argTypes := #[27] }, none, 0⟩,
  ⟨(some 8), .binOp .lss 3 (.tmp 5) (.tmp 7) 3, none, 0⟩]
def L72r5 : List AOp := [
  ⟨(some 11), .move (.tmp 3), none, 0⟩,
  ⟨(some 12), .move (.tmp 0), none, 0⟩,
  ⟨(some 13), .move (.tmp 4), none, 0⟩,
  ⟨(some 14), .indexAddr 27 (.tmp 12) (.tmp 13), none, 6⟩,
  ⟨(some 15), .load 22 (.tmp 14), none, 14⟩,
  ⟨(some 16), .binOp .rem 22 (.tmp 15) (.const (.int .u64 4294967296)) 22, none, 30⟩,
  ⟨(some 17), .move (.tmp 0), none, 0⟩,
  ⟨(some 18), .move (.tmp 4), none, 0⟩,
  ⟨(some 19), .indexAddr 27 (.tmp 17) (.tmp 18), none, 192⟩,
  ⟨(some 20), .load 22 (.tmp 19), none, 448⟩,
  ⟨(some 21), .binOp .quo 22 (.tmp 20) (.const (.int .u64 4294967296)) 22, none, 960⟩,
  ⟨(some 22), .buildSlice 28 2 #[(0, .tmp 16), (1, .tmp 21)], none, 2046⟩,
  ⟨(some 23), .call { callee := .builtin .append, args := #[.tmp 11, .tmp 22], argTypes := #[28, 28] }, none, 1267650600228229401496703209471⟩,
  ⟨(some 3), .assign (.tmp 23), none, 1267650600228229401496703213567⟩]
def L72r4 : List AOp := [
  ⟨(some 9), .move (.tmp 4), none, 0⟩,
  ⟨(some 10), .binOp .add 3 (.tmp 9) (.const (.int .i64 1)) 3, none, 0⟩,
  ⟨(some 4), .assign (.tmp 10), none, 0⟩]
def L72r6 : List AOp := [
  ⟨(some 24), .move (.tmp 3), none, 0⟩,
  ⟨(some 25), .call { callee := .value (.func 53), args := #[.tmp 24], argTypes := #[28] }, none, 0⟩,
  ⟨(some 2), .assign (.tmp 25), none, 0⟩]
def L72 : LC := (.seq (.region L72r0) (.seq (.region L72r1) (.seq (.seq (.region L72r2) (.block 0 (.loop (.seq (.seq (.region L72r3) (.cond (.tmp 8) .skip (.exit 0))) (.seq (.block 1 (.regionD L72r5)) (.region L72r4)))))) (.seq (.region L72r6) .ret))))
theorem nt72 : Tryd.f72.ntmps = 26 := by kernel_rfl
theorem rs72 : Tryd.f72.results.toList = [.tmp 2] := by kernel_rfl
theorem lite72 : Tryd.f72.body.map (lite okDraw) = some L72 := by kernel_rfl
def L73r0 : List AOp := [
  ⟨(some 3), .box 24 (.tmp 0), none, 0⟩,
  ⟨(some 4), .box 24 (.tmp 1), none, 0⟩,
  ⟨(some 5), .box 52 (.tmp 2), none, 0⟩,
  ⟨(some 6), .alloc 24, none, 0⟩]
def L73r1 : List AOp := [
  ⟨(some 7), .load 24 (.tmp 3), none, 0⟩,
  ⟨(some 8), .load 24 (.tmp 4), none, 0⟩,
  ⟨(some 9), .call { callee := .value (.func 79), args := #[.tmp 7, .tmp 8], argTypes := #[24, 24] }, none, 3⟩,
  ⟨(some 10), .load 52 (.tmp 5), none, 0⟩,
  ⟨(some 11), .call { callee := .value (.func 78), args := #[.tmp 9, .tmp 10], argTypes := #[75, 52] }, none, 1267650600228229401496703205391⟩,
  ⟨none, .store 24 (.tmp 6) (.tmp 11), none, 1267650600228229401496703205407⟩]
def L73 : LC := (.seq (.region L73r0) (.seq (.regionD L73r1) .ret))
theorem nt73 : Tryd.f73.ntmps = 12 := by kernel_rfl
theorem rs73 : Tryd.f73.results.toList = [.cell 6 24] := by kernel_rfl
theorem lite73 : Tryd.f73.body.map (lite okDraw) = some L73 := by kernel_rfl
def L76r0 : List AOp := [
  ⟨(some 2), .assign (.const (.int .i64 0)), none, 0⟩]
def L76r1 : List AOp := [
  ⟨(some 5), .move (.tmp 0), none, 0⟩,
  ⟨(some 6), .call { callee := .builtin .len, args := #[.tmp 5], argTypes := #[28] }, none, 0⟩,
  ⟨(some 7), .binOp .eql 3 (.tmp 6) (.const (.int .i64 0)) 3, none, 0⟩]
def L76r2 : List AOp := [
  ⟨(some 2), .assign (.const (.int .i64 0)), none, 0⟩]
def L76r3 : List AOp := [
  ⟨(some 8), .move (.tmp 0), none, 0⟩,
  ⟨(some 9), .call { callee := .builtin .len, args := #[.tmp 8], argTypes := #[28] }, none, 0⟩,
  ⟨(some 10), .binOp .sub 3 (.tmp 9) (.const (.int .i64 1)) 3, none, 0⟩,
  ⟨(some 11), .binOp .mul 3 (.const (.int .i64 32)) (.tmp 10) 3, none, 0⟩,
  ⟨(some 3), .assign (.tmp 11), none, 0⟩]
def L76r4 : List AOp := [
  ⟨(some 12), .move (.tmp 0), none, 0⟩,
  ⟨(some 13), .move (.tmp 0), none, 0⟩,
  ⟨(some 14), .call { callee := .builtin .len, args := #[.tmp 13], argTypes := #[28] }, none, 0⟩,
  ⟨(some 15), .binOp .sub 3 (.tmp 14) (.const (.int .i64 1)) 3, none, 0⟩,
  ⟨(some 16), .indexAddr 28 (.tmp 12) (.tmp 15), none, 0⟩,
  ⟨(some 17), .load 22 (.tmp 16), none, 0⟩,
  ⟨(some 4), .assign (.tmp 17), none, 0⟩]
def L76r5 : List AOp := [
  ⟨(some 18), .move (.tmp 4), none, 0⟩,
  ⟨(some 19), .binOp .gtr 22 (.tmp 18) (.const (.int .u64 0)) 22, none, 0⟩]
def L76r6 : List AOp := [
  ⟨(some 20), .move (.tmp 4), none, 0⟩,
  ⟨(some 21), .binOp .quo 22 (.tmp 20) (.const (.int .u64 2)) 22, none, 0⟩,
  ⟨(some 4), .assign (.tmp 21), none, 0⟩]
def L76r7 : List AOp := [
  ⟨(some 22), .move (.tmp 3), none, 0⟩,
  ⟨(some 23), .binOp .add 3 (.tmp 22) (.const (.int .i64 1)) 3, none, 0⟩,
  ⟨(some 3), .assign (.tmp 23), none, 0⟩]
def L76r8 : List AOp := [
  ⟨(some 24), .move (.tmp 3), none, 0⟩,
  ⟨(some 2), .assign (.tmp 24), none, 0⟩]
def L76 : LC := (.seq (.region L76r0) (.seq (.seq (.region L76r1) (.cond (.tmp 7) (.seq (.region L76r2) .ret) .skip)) (.seq (.region L76r3) (.seq (.region L76r4) (.seq (.block 0 (.loop (.seq (.seq (.region L76r5) (.cond (.tmp 19) .skip (.exit 0))) (.block 1 (.seq (.region L76r6) (.region L76r7)))))) (.seq (.region L76r8) .ret))))))
theorem nt76 : Tryd.f76.ntmps = 25 := by kernel_rfl
theorem rs76 : Tryd.f76.results.toList = [.tmp 2] := by kernel_rfl
theorem lite76 : Tryd.f76.body.map (lite okDraw) = some L76 := by kernel_rfl
def L77r0 : List AOp := [
  ⟨(some 4), .assign (.const (.bool false)), none, 0⟩]
def L77r1 : List AOp := [
  ⟨(some 7), .move (.tmp 1), none, 0⟩,
  ⟨(some 8), .binOp .lss 3 (.tmp 7) (.const (.int .i64 0)) 3, none, 0⟩,
  ⟨(some 9), .move (.tmp 8), none, 0⟩,
  ⟨(some 10), .move (.tmp 1), (some (9, false)), 0⟩,
  ⟨(some 11), .binOp .quo 3 (.tmp 10) (.const (.int .i64 32)) 3, (some (9, false)), 0⟩,
  ⟨(some 12), .move (.tmp 0), (some (9, false)), 0⟩,
  ⟨(some 13), .call { callee := .builtin .len, args := #[.tmp 12], argTypes := #[28] }, (some (9, false)), 0⟩,
  ⟨(some 14), .binOp .geq 3 (.tmp 11) (.tmp 13) 3, (some (9, false)), 0⟩,
  ⟨(some 15), .pick (.tmp 9) (.const (.bool true)) (.tmp 14), none, 0⟩]
def L77r2 : List AOp := [
  ⟨(some 4), .assign (.const (.bool false)), none, 0⟩]
def L77r3 : List AOp := [
  ⟨(some 16), .move (.tmp 0), none, 0⟩,
  ⟨(some 17), .move (.tmp 1), none, 0⟩,
  ⟨(some 18), .binOp .quo 3 (.tmp 17) (.const (.int .i64 32)) 3, none, 0⟩,
  ⟨(some 19), .indexAddr 28 (.tmp 16) (.tmp 18), none, 0⟩,
  ⟨(some 20), .load 22 (.tmp 19), none, 0⟩,
  ⟨(some 5), .assign (.tmp 20), none, 0⟩]
def L77r4 : List AOp := [
  ⟨(some 6), .assign (.const (.int .i64 0)), none, 0⟩]
def L77r5 : List AOp := [
  ⟨(some 21), .move (.tmp 6), none, 0⟩,
  ⟨(some 22), .move (.tmp 1), none, 0⟩,
  ⟨(some 23), .binOp .rem 3 (.tmp 22) (.const (.int .i64 32)) 3, none, 0⟩,
  ⟨(some 24), .binOp .lss 3 (.tmp 21) (.tmp 23) 3, none, 0⟩]
def L77r7 : List AOp := [
  ⟨(some 27), .move (.tmp 5), none, 0⟩,
  ⟨(some 28), .binOp .quo 22 (.tmp 27) (.const (.int .u64 2)) 22, none, 0⟩,
  ⟨(some 5), .assign (.tmp 28), none, 0⟩]
def L77r6 : List AOp := [
  ⟨(some 25), .move (.tmp 6), none, 0⟩,
  ⟨(some 26), .binOp .add 3 (.tmp 25) (.const (.int .i64 1)) 3, none, 0⟩,
  ⟨(some 6), .assign (.tmp 26), none, 0⟩]
def L77r8 : List AOp := [
  ⟨(some 29), .move (.tmp 5), none, 0⟩,
  ⟨(some 30), .binOp .rem 22 (.tmp 29) (.const (.int .u64 2)) 22, none, 0⟩,
  ⟨(some 31), .binOp .eql 22 (.tmp 30) (.const (.int .u64 1)) 22, none, 0⟩,
  ⟨(some 4), .assign (.tmp 31), none, 0⟩]
def L77 : LC := (.seq (.region L77r0) (.seq (.seq (.region L77r1) (.cond (.tmp 15) (.seq (.region L77r2) .ret) .skip)) (.seq (.region L77r3) (.seq (.seq (.region L77r4) (.block 0 (.loop (.seq (.seq (.region L77r5) (.cond (.tmp 24) .skip (.exit 0))) (.seq (.block 1 (.region L77r7)) (.region L77r6)))))) (.seq (.region L77r8) .ret)))))
theorem nt77 : Tryd.f77.ntmps = 32 := by kernel_rfl
theorem rs77 : Tryd.f77.results.toList = [.tmp 4] := by kernel_rfl
theorem lite77 : Tryd.f77.body.map (lite okDraw) = some L77 := by kernel_rfl
def L78r0 : List AOp := [
  ⟨(some 2), .box 75 (.tmp 0), none, 0⟩,
  ⟨(some 3), .box 52 (.tmp 1), none, 0⟩,
  ⟨(some 4), .alloc 24, none, 0⟩]
def L78r1 : List AOp := [
  ⟨(some 5), .assign (.const (.int .u64 0)), none, 0⟩]
def L78r2 : List AOp := [
  ⟨(some 16), .move (.const (.int .i64 0)), none, 0⟩]
def L78r3 : List AOp := [
  ⟨(some 17), .binOp .lss 3 (.tmp 16) (.const (.int .i64 6)) 3, none, 0⟩]
def L78r4 : List AOp := [
  ⟨(some 18), .move (.tmp 16), none, 0⟩,
  ⟨(some 6), .assign (.tmp 18), none, 0⟩]
def L78r5 : List AOp := [
  ⟨(some 19), .move (.tmp 6), none, 0⟩,
  ⟨(some 20), .indexAddr 75 (.tmp 2) (.tmp 19), none, 1⟩,
  ⟨(some 21), .load 22 (.tmp 20), none, 3⟩,
  ⟨(some 22), .fieldAddr 52 (.tmp 3) 1, none, 0⟩,
  ⟨(some 23), .load 22 (.tmp 22), none, 8⟩,
  ⟨(some 24), .binOp .mul 22 (.tmp 21) (.tmp 23) 22, none, 1267650600228229401496703205407⟩,
  ⟨(some 7), .assign (.tmp 24), none, 1267650600228229401496703205439⟩]
def L78r6 : List AOp := [
  ⟨(some 8), .assign (.const (.int .u64 0)), none, 0⟩]
def L78r7 : List AOp := [
  ⟨(some 25), .move (.const (.int .i64 0)), none, 0⟩]
def L78r8 : List AOp := [
  ⟨(some 26), .binOp .lss 3 (.tmp 25) (.const (.int .i64 6)) 3, none, 0⟩]
def L78r9 : List AOp := [
  ⟨(some 27), .move (.tmp 25), none, 0⟩,
  ⟨(some 9), .assign (.tmp 27), none, 0⟩]
def L78r10 : List AOp := [
  ⟨(some 29), .move (.tmp 7), none, 0⟩,
  ⟨(some 30), .move (.tmp 9), none, 0⟩,
  ⟨(some 31), .fieldAddr 52 (.tmp 3) 0, none, 0⟩,
  ⟨(some 32), .indexAddr 24 (.tmp 31) (.tmp 30), none, 0⟩,
  ⟨(some 33), .load 22 (.tmp 32), none, 0⟩,
  ⟨(some 34), .call { callee := .value (.func 80), args := #[.tmp 29, .tmp 33], argTypes := #[22, 22] }, none, 0⟩,
  ⟨(some 28), .move (.tmp 34), none, 0⟩,
  ⟨(some 35), .extract (.tmp 28) 0, none, 0⟩,
  ⟨(some 36), .extract (.tmp 28) 1, none, 0⟩,
  ⟨(some 10), .assign (.tmp 35), none, 0⟩,
  ⟨(some 11), .assign (.tmp 36), none, 0⟩]
def L78r11 : List AOp := [
  ⟨(some 12), .assign (.const (.int .u64 0)), none, 0⟩]
def L78r12 : List AOp := [
  ⟨(some 38), .move (.tmp 11), none, 0⟩,
  ⟨(some 39), .move (.tmp 6), none, 0⟩,
  ⟨(some 40), .move (.tmp 9), none, 0⟩,
  ⟨(some 41), .binOp .add 3 (.tmp 39) (.tmp 40) 3, none, 0⟩,
  ⟨(some 42), .indexAddr 75 (.tmp 2) (.tmp 41), none, 0⟩,
  ⟨(some 43), .load 22 (.tmp 42), none, 0⟩,
  ⟨(some 44), .call { callee := .value (.func 75), args := #[.tmp 38, .tmp 43, .const (.int .u64 0)], argTypes := #[22, 22, 22] }, none, 0⟩,
  ⟨(some 37), .move (.tmp 44), none, 0⟩,
  ⟨(some 45), .extract (.tmp 37) 0, none, 0⟩,
  ⟨(some 46), .extract (.tmp 37) 1, none, 0⟩,
  ⟨(some 11), .assign (.tmp 45), none, 0⟩,
  ⟨(some 12), .assign (.tmp 46), none, 0⟩]
def L78r13 : List AOp := [
  ⟨(some 47), .move (.tmp 10), none, 0⟩,
  ⟨(some 48), .move (.tmp 12), none, 0⟩,
  ⟨(some 49), .binOp .add 22 (.tmp 47) (.tmp 48) 22, none, 0⟩,
  ⟨(some 10), .assign (.tmp 49), none, 0⟩]
def L78r14 : List AOp := [
  ⟨(some 51), .move (.tmp 11), none, 0⟩,
  ⟨(some 52), .move (.tmp 8), none, 0⟩,
  ⟨(some 53), .call { callee := .value (.func 75), args := #[.tmp 51, .tmp 52, .const (.int .u64 0)], argTypes := #[22, 22, 22] }, none, 0⟩,
  ⟨(some 50), .move (.tmp 53), none, 0⟩,
  ⟨(some 54), .extract (.tmp 50) 0, none, 0⟩,
  ⟨(some 55), .extract (.tmp 50) 1, none, 0⟩,
  ⟨(some 11), .assign (.tmp 54), none, 0⟩,
  ⟨(some 12), .assign (.tmp 55), none, 0⟩]
def L78r15 : List AOp := [
  ⟨(some 56), .move (.tmp 6), none, 0⟩,
  ⟨(some 57), .move (.tmp 9), none, 0⟩,
  ⟨(some 58), .binOp .add 3 (.tmp 56) (.tmp 57) 3, none, 0⟩,
  ⟨(some 59), .move (.tmp 11), none, 0⟩,
  ⟨(some 60), .move (.tmp 10), none, 0⟩,
  ⟨(some 61), .move (.tmp 12), none, 0⟩,
  ⟨(some 62), .binOp .add 22 (.tmp 60) (.tmp 61) 22, none, 0⟩,
  ⟨(some 63), .indexAddr 75 (.tmp 2) (.tmp 58), none, 0⟩,
  ⟨none, .store 22 (.tmp 63) (.tmp 59), none, 0⟩,
  ⟨(some 8), .assign (.tmp 62), none, 0⟩]
def L78r16 : List AOp := [
  ⟨(some 64), .binOp .add 3 (.tmp 25) (.const (.int .i64 1)) 3, none, 0⟩,
  ⟨(some 25), .move (.tmp 64), none, 0⟩]
def L78r17 : List AOp := [
  ⟨(some 13), .assign (.const (.int .u64 0)), none, 0⟩]
def L78r18 : List AOp := [
  ⟨(some 65), .move (.tmp 6), none, 0⟩,
  ⟨(some 66), .binOp .add 3 (.tmp 65) (.const (.int .i64 6)) 3, none, 0⟩,
  ⟨(some 14), .assign (.tmp 66), none, 0⟩]
def L78r19 : List AOp := [
  ⟨(some 67), .move (.tmp 14), none, 0⟩,
  ⟨(some 68), .binOp .lss 3 (.tmp 67) (.const (.int .i64 12)) 3, none, 0⟩]
def L78r21 : List AOp := [
  ⟨(some 72), .move (.tmp 14), none, 0⟩,
  ⟨(some 73), .move (.tmp 14), none, 0⟩,
  ⟨(some 74), .indexAddr 75 (.tmp 2) (.tmp 73), none, 0⟩,
  ⟨(some 75), .load 22 (.tmp 74), none, 0⟩,
  ⟨(some 76), .move (.tmp 8), none, 0⟩,
  ⟨(some 77), .call { callee := .value (.func 75), args := #[.tmp 75, .tmp 76, .const (.int .u64 0)], argTypes := #[22, 22, 22] }, none, 0⟩,
  ⟨(some 71), .move (.tmp 77), none, 0⟩,
  ⟨(some 78), .extract (.tmp 71) 0, none, 0⟩,
  ⟨(some 79), .extract (.tmp 71) 1, none, 0⟩,
  ⟨(some 80), .indexAddr 75 (.tmp 2) (.tmp 72), none, 0⟩,
  ⟨none, .store 22 (.tmp 80) (.tmp 78), none, 0⟩,
  ⟨(some 13), .assign (.tmp 79), none, 0⟩]
def L78r22 : List AOp := [
  ⟨(some 81), .move (.tmp 13), none, 0⟩,
  ⟨(some 8), .assign (.tmp 81), none, 0⟩]
def L78r20 : List AOp := [
  ⟨(some 69), .move (.tmp 14), none, 0⟩,
  ⟨(some 70), .binOp .add 3 (.tmp 69) (.const (.int .i64 1)) 3, none, 0⟩,
  ⟨(some 14), .assign (.tmp 70), none, 0⟩]
def L78r23 : List AOp := [
  ⟨(some 82), .move (.tmp 5), none, 0⟩,
  ⟨(some 83), .move (.tmp 8), none, 0⟩,
  ⟨(some 84), .binOp .add 22 (.tmp 82) (.tmp 83) 22, none, 0⟩,
  ⟨(some 5), .assign (.tmp 84), none, 0⟩]
def L78r24 : List AOp := [
  ⟨(some 85), .binOp .add 3 (.tmp 16) (.const (.int .i64 1)) 3, none, 0⟩,
  ⟨(some 16), .move (.tmp 85), none, 0⟩]
def L78r25 : List AOp := [
  ⟨(some 86), .slice 75 (.tmp 2) (some (.const (.int .i64 6))) none none, none, 0⟩,
  ⟨(some 87), .sliceToArrayPointer 24 (.tmp 86), none, 0⟩,
  ⟨(some 88), .load 24 (.tmp 87), none, 0⟩,
  ⟨(some 15), .alloc 24, none, 0⟩,
  ⟨none, .store 24 (.tmp 15) (.tmp 88), none, 0⟩]
def L78r26 : List AOp := [
  ⟨(some 89), .load 24 (.tmp 15), none, 0⟩,
  ⟨(some 90), .move (.tmp 5), none, 0⟩,
  ⟨(some 91), .fieldAddr 52 (.tmp 3) 0, none, 0⟩,
  ⟨(some 92), .load 24 (.tmp 91), none, 0⟩,
  ⟨(some 93), .call { callee := .value (.func 69), args := #[.tmp 89, .tmp 90, .tmp 92], argTypes := #[24, 22, 24] }, none, 0⟩,
  ⟨none, .store 24 (.tmp 15) (.tmp 93), none, 0⟩]
def L78r27 : List AOp := [
  ⟨(some 94), .load 24 (.tmp 15), none, 0⟩,
  ⟨(some 95), .fieldAddr 52 (.tmp 3) 0, none, 0⟩,
  ⟨(some 96), .load 24 (.tmp 95), none, 0⟩,
  ⟨(some 97), .call { callee := .value (.func 69), args := #[.tmp 94, .const (.int .u64 0), .tmp 96], argTypes := #[24, 22, 24] }, none, 0⟩,
  ⟨none, .store 24 (.tmp 4) (.tmp 97), none, 0⟩]
def L78 : LC := (.seq (.region L78r0) (.seq (.region L78r1) (.seq (.seq (.region L78r2) (.block 0 (.loop (.seq (.region L78r3) (.seq (.cond (.tmp 17) .skip (.exit 0)) (.seq (.block 1 (.seq (.region L78r4) (.seq (.regionD L78r5) (.seq (.region L78r6) (.seq (.seq (.region L78r7) (.block 2 (.loop (.seq (.region L78r8) (.seq (.cond (.tmp 26) .skip (.exit 2)) (.seq (.block 3 (.seq (.region L78r9) (.seq (.region L78r10) (.seq (.region L78r11) (.seq (.region L78r12) (.seq (.region L78r13) (.seq (.region L78r14) (.region L78r15)))))))) (.region L78r16))))))) (.seq (.region L78r17) (.seq (.seq (.region L78r18) (.block 4 (.loop (.seq (.seq (.region L78r19) (.cond (.tmp 68) .skip (.exit 4))) (.seq (.block 5 (.seq (.region L78r21) (.region L78r22))) (.region L78r20)))))) (.region L78r23)))))))) (.region L78r24))))))) (.seq (.region L78r25) (.seq (.region L78r26) (.seq (.region L78r27) .ret))))))
theorem nt78 : Tryd.f78.ntmps = 98 := by kernel_rfl
theorem rs78 : Tryd.f78.results.toList = [.cell 4 24] := by kernel_rfl
theorem lite78 : Tryd.f78.body.map (lite okDraw) = some L78 := by kernel_rfl
def L79r0 : List AOp := [
  ⟨(some 2), .box 24 (.tmp 0), none, 0⟩,
  ⟨(some 3), .box 24 (.tmp 1), none, 0⟩,
  ⟨(some 4), .alloc 75, none, 0⟩]
def L79r1 : List AOp := [
  ⟨(some 5), .alloc 75, none, 0⟩]
def L79r2 : List AOp := [
  ⟨(some 12), .move (.const (.int .i64 0)), none, 0⟩]
def L79r3 : List AOp := [
  ⟨(some 13), .binOp .lss 3 (.tmp 12) (.const (.int .i64 6)) 3, none, 0⟩]
def L79r4 : List AOp := [
  ⟨(some 14), .move (.tmp 12), none, 0⟩,
  ⟨(some 6), .assign (.tmp 14), none, 0⟩]
def L79r5 : List AOp := [
  ⟨(some 7), .assign (.const (.int .u64 0)), none, 0⟩]
def L79r6 : List AOp := [
  ⟨(some 15), .move (.const (.int .i64 0)), none, 0⟩]
def L79r7 : List AOp := [
  ⟨(some 16), .binOp .lss 3 (.tmp 15) (.const (.int .i64 6)) 3, none, 0⟩]
def L79r8 : List AOp := [
  ⟨(some 17), .move (.tmp 15), none, 0⟩,
  ⟨(some 8), .assign (.tmp 17), none, 0⟩]
def L79r9 : List AOp := [
  ⟨(some 19), .move (.tmp 6), none, 0⟩,
  ⟨(some 20), .indexAddr 24 (.tmp 2) (.tmp 19), none, 1⟩,
  ⟨(some 21), .load 22 (.tmp 20), none, 3⟩,
  ⟨(some 22), .move (.tmp 8), none, 0⟩,
  ⟨(some 23), .indexAddr 24 (.tmp 3) (.tmp 22), none, 8⟩,
  ⟨(some 24), .load 22 (.tmp 23), none, 24⟩,
  ⟨(some 25), .call { callee := .value (.func 80), args := #[.tmp 21, .tmp 24], argTypes := #[22, 22] }, none, 1267650600228229401496703205439⟩,
  ⟨(some 18), .move (.tmp 25), none, 1267650600228229401496703205503⟩,
  ⟨(some 26), .extract (.tmp 18) 0, none, 255⟩,
  ⟨(some 27), .extract (.tmp 18) 1, none, 255⟩,
  ⟨(some 9), .assign (.tmp 26), none, 511⟩,
  ⟨(some 10), .assign (.tmp 27), none, 1267650600228229401496703207423⟩]
def L79r10 : List AOp := [
  ⟨(some 11), .assign (.const (.int .u64 0)), none, 0⟩]
def L79r11 : List AOp := [
  ⟨(some 29), .move (.tmp 10), none, 0⟩,
  ⟨(some 30), .move (.tmp 6), none, 0⟩,
  ⟨(some 31), .move (.tmp 8), none, 0⟩,
  ⟨(some 32), .binOp .add 3 (.tmp 30) (.tmp 31) 3, none, 0⟩,
  ⟨(some 33), .indexAddr 75 (.tmp 5) (.tmp 32), none, 0⟩,
  ⟨(some 34), .load 22 (.tmp 33), none, 0⟩,
  ⟨(some 35), .call { callee := .value (.func 75), args := #[.tmp 29, .tmp 34, .const (.int .u64 0)], argTypes := #[22, 22, 22] }, none, 0⟩,
  ⟨(some 28), .move (.tmp 35), none, 0⟩,
  ⟨(some 36), .extract (.tmp 28) 0, none, 0⟩,
  ⟨(some 37), .extract (.tmp 28) 1, none, 0⟩,
  ⟨(some 10), .assign (.tmp 36), none, 0⟩,
  ⟨(some 11), .assign (.tmp 37), none, 0⟩]
def L79r12 : List AOp := [
  ⟨(some 38), .move (.tmp 9), none, 0⟩,
  ⟨(some 39), .move (.tmp 11), none, 0⟩,
  ⟨(some 40), .binOp .add 22 (.tmp 38) (.tmp 39) 22, none, 0⟩,
  ⟨(some 9), .assign (.tmp 40), none, 0⟩]
def L79r13 : List AOp := [
  ⟨(some 42), .move (.tmp 10), none, 0⟩,
  ⟨(some 43), .move (.tmp 7), none, 0⟩,
  ⟨(some 44), .call { callee := .value (.func 75), args := #[.tmp 42, .tmp 43, .const (.int .u64 0)], argTypes := #[22, 22, 22] }, none, 0⟩,
  ⟨(some 41), .move (.tmp 44), none, 0⟩,
  ⟨(some 45), .extract (.tmp 41) 0, none, 0⟩,
  ⟨(some 46), .extract (.tmp 41) 1, none, 0⟩,
  ⟨(some 10), .assign (.tmp 45), none, 0⟩,
  ⟨(some 11), .assign (.tmp 46), none, 0⟩]
def L79r14 : List AOp := [
  ⟨(some 47), .move (.tmp 6), none, 0⟩,
  ⟨(some 48), .move (.tmp 8), none, 0⟩,
  ⟨(some 49), .binOp .add 3 (.tmp 47) (.tmp 48) 3, none, 0⟩,
  ⟨(some 50), .move (.tmp 10), none, 0⟩,
  ⟨(some 51), .move (.tmp 9), none, 0⟩,
  ⟨(some 52), .move (.tmp 11), none, 0⟩,
  ⟨(some 53), .binOp .add 22 (.tmp 51) (.tmp 52) 22, none, 0⟩,
  ⟨(some 54), .indexAddr 75 (.tmp 5) (.tmp 49), none, 0⟩,
  ⟨none, .store 22 (.tmp 54) (.tmp 50), none, 0⟩,
  ⟨(some 7), .assign (.tmp 53), none, 0⟩]
def L79r15 : List AOp := [
  ⟨(some 55), .binOp .add 3 (.tmp 15) (.const (.int .i64 1)) 3, none, 0⟩,
  ⟨(some 15), .move (.tmp 55), none, 0⟩]
def L79r16 : List AOp := [
  ⟨(some 56), .move (.tmp 6), none, 0⟩,
  ⟨(some 57), .binOp .add 3 (.tmp 56) (.const (.int .i64 6)) 3, none, 0⟩,
  ⟨(some 58), .move (.tmp 7), none, 0⟩,
  ⟨(some 59), .indexAddr 75 (.tmp 5) (.tmp 57), none, 0⟩,
  ⟨none, .store 22 (.tmp 59) (.tmp 58), none, 0⟩]
def L79r17 : List AOp := [
  ⟨(some 60), .binOp .add 3 (.tmp 12) (.const (.int .i64 1)) 3, none, 0⟩,
  ⟨(some 12), .move (.tmp 60), none, 0⟩]
def L79r18 : List AOp := [
  ⟨(some 61), .load 75 (.tmp 5), none, 0⟩,
  ⟨none, .store 75 (.tmp 4) (.tmp 61), none, 0⟩]
def L79 : LC := (.seq (.region L79r0) (.seq (.region L79r1) (.seq (.seq (.region L79r2) (.block 0 (.loop (.seq (.region L79r3) (.seq (.cond (.tmp 13) .skip (.exit 0)) (.seq (.block 1 (.seq (.region L79r4) (.seq (.region L79r5) (.seq (.seq (.region L79r6) (.block 2 (.loop (.seq (.region L79r7) (.seq (.cond (.tmp 16) .skip (.exit 2)) (.seq (.block 3 (.seq (.region L79r8) (.seq (.regionD L79r9) (.seq (.region L79r10) (.seq (.region L79r11) (.seq (.region L79r12) (.seq (.region L79r13) (.region L79r14)))))))) (.region L79r15))))))) (.region L79r16))))) (.region L79r17))))))) (.seq (.region L79r18) .ret))))
theorem nt79 : Tryd.f79.ntmps = 62 := by kernel_rfl
theorem rs79 : Tryd.f79.results.toList = [.cell 4 75] := by kernel_rfl
theorem lite79 : Tryd.f79.body.map (lite okDraw) = some L79 := by kernel_rfl
def L80r0 : List AOp := [
  ⟨(some 4), .assign (.const (.int .u64 0)), none, 0⟩,
  ⟨(some 5), .assign (.const (.int .u64 0)), none, 0⟩]
def L80r1 : List AOp := [
  ⟨(some 14), .move (.tmp 0), none, 0⟩,
  ⟨(some 15), .binOp .and 22 (.tmp 14) (.const (.int .u64 4294967295)) 22, none, 0⟩,
  ⟨(some 6), .assign (.tmp 15), none, 0⟩]
def L80r2 : List AOp := [
  ⟨(some 16), .move (.tmp 0), none, 0⟩,
  ⟨(some 17), .binOp .shr 22 (.tmp 16) (.const (.int .u64 32)) 59, none, 0⟩,
  ⟨(some 7), .assign (.tmp 17), none, 0⟩]
def L80r3 : List AOp := [
  ⟨(some 18), .move (.tmp 1), none, 0⟩,
  ⟨(some 19), .binOp .and 22 (.tmp 18) (.const (.int .u64 4294967295)) 22, none, 0⟩,
  ⟨(some 8), .assign (.tmp 19), none, 0⟩]
def L80r4 : List AOp := [
  ⟨(some 20), .move (.tmp 1), none, 0⟩,
  ⟨(some 21), .binOp .shr 22 (.tmp 20) (.const (.int .u64 32)) 59, none, 0⟩,
  ⟨(some 9), .assign (.tmp 21), none, 0⟩]
def L80r5 : List AOp := [
  ⟨(some 22), .move (.tmp 6), none, 0⟩,
  ⟨(some 23), .move (.tmp 8), none, 0⟩,
  ⟨(some 24), .binOp .mul 22 (.tmp 22) (.tmp 23) 22, none, 0⟩,
  ⟨(some 10), .assign (.tmp 24), none, 0⟩]
def L80r6 : List AOp := [
  ⟨(some 25), .move (.tmp 7), none, 0⟩,
  ⟨(some 26), .move (.tmp 8), none, 0⟩,
  ⟨(some 27), .binOp .mul 22 (.tmp 25) (.tmp 26) 22, none, 0⟩,
  ⟨(some 28), .move (.tmp 10), none, 0⟩,
  ⟨(some 29), .binOp .shr 22 (.tmp 28) (.const (.int .u64 32)) 59, none, 0⟩,
  ⟨(some 30), .binOp .add 22 (.tmp 27) (.tmp 29) 22, none, 0⟩,
  ⟨(some 11), .assign (.tmp 30), none, 0⟩]
def L80r7 : List AOp := [
  ⟨(some 31), .move (.tmp 11), none, 0⟩,
  ⟨(some 32), .binOp .and 22 (.tmp 31) (.const (.int .u64 4294967295)) 22, none, 0⟩,
  ⟨(some 12), .assign (.tmp 32), none, 0⟩]
def L80r8 : List AOp := [
  ⟨(some 33), .move (.tmp 11), none, 0⟩,
  ⟨(some 34), .binOp .shr 22 (.tmp 33) (.const (.int .u64 32)) 59, none, 0⟩,
  ⟨(some 13), .assign (.tmp 34), none, 0⟩]
def L80r9 : List AOp := [
  ⟨(some 35), .move (.tmp 12), none, 0⟩,
  ⟨(some 36), .move (.tmp 6), none, 0⟩,
  ⟨(some 37), .move (.tmp 9), none, 0⟩,
  ⟨(some 38), .binOp .mul 22 (.tmp 36) (.tmp 37) 22, none, 0⟩,
  ⟨(some 39), .binOp .add 22 (.tmp 35) (.tmp 38) 22, none, 0⟩,
  ⟨(some 12), .assign (.tmp 39), none, 0⟩]
def L80r10 : List AOp := [
  ⟨(some 40), .move (.tmp 7), none, 0⟩,
  ⟨(some 41), .move (.tmp 9), none, 0⟩,
  ⟨(some 42), .binOp .mul 22 (.tmp 40) (.tmp 41) 22, none, 0⟩,
  ⟨(some 43), .move (.tmp 13), none, 0⟩,
  ⟨(some 44), .binOp .add 22 (.tmp 42) (.tmp 43) 22, none, 0⟩,
  ⟨(some 45), .move (.tmp 12), none, 0⟩,
  ⟨(some 46), .binOp .shr 22 (.tmp 45) (.const (.int .u64 32)) 59, none, 0⟩,
  ⟨(some 47), .binOp .add 22 (.tmp 44) (.tmp 46) 22, none, 0⟩,
  ⟨(some 4), .assign (.tmp 47), none, 0⟩]
def L80r11 : List AOp := [
  ⟨(some 48), .move (.tmp 0), none, 0⟩,
  ⟨(some 49), .move (.tmp 1), none, 0⟩,
  ⟨(some 50), .binOp .mul 22 (.tmp 48) (.tmp 49) 22, none, 0⟩,
  ⟨(some 5), .assign (.tmp 50), none, 0⟩]
def L80 : LC := (.seq (.region L80r0) (.seq (.region L80r1) (.seq (.region L80r2) (.seq (.region L80r3) (.seq (.region L80r4) (.seq (.region L80r5) (.seq (.region L80r6) (.seq (.region L80r7) (.seq (.region L80r8) (.seq (.region L80r9) (.seq (.region L80r10) (.seq (.region L80r11) .ret))))))))))))
theorem nt80 : Tryd.f80.ntmps = 51 := by kernel_rfl
theorem rs80 : Tryd.f80.results.toList = [.tmp 4, .tmp 5] := by kernel_rfl
theorem lite80 : Tryd.f80.body.map (lite okDraw) = some L80 := by kernel_rfl
end Eng


namespace Eng
open Go Go.Proofs Go.ChangeShapes Go.WideShapes Go.ChangeAt Go.RowKit
def U6 (a : List Int) : Prop := a.length = 6 ∧ ∀ x ∈ a, 0 ≤ x ∧ x < 18446744073709551616
def I64 (i : Int) : Prop := -9223372036854775808 ≤ i ∧ i < 9223372036854775808
def U64 (n : Int) : Prop := 0 ≤ n ∧ n < 18446744073709551616
theorem U6.at {a : List Int} (h : U6 a) (j : Nat) : U64 (a.getD j 0) := by
  rcases Nat.lt_or_ge j a.length with hj | hj
  · rw [List.getD_eq_getElem?_getD, List.getElem?_eq_getElem hj, Option.getD_some]
    exact h.2 _ (List.getElem_mem hj)
  · rw [List.getD_eq_getElem?_getD, List.getElem?_eq_none hj]
    exact ⟨by decide, by decide⟩
theorem own : ownKnob Tryd.prog.godebug = none := by kernel_rfl
theorem laidOut : laidOutB Tryd.prog = true := by kernel_rfl
theorem ct24 : Tryd.prog.cellTypes Tryd.prog.depth 24 = some (List.replicate 6 22) := by kernel_rfl
theorem co24 : Tryd.prog.cellsOf 24 = 6 := by kernel_rfl
theorem U6_of {xs : List Int} (hl : xs.length = 6) (h : ∀ x ∈ xs, IntKind.u64.min ≤ x ∧ x ≤ IntKind.u64.max) : U6 xs :=
  ⟨hl, fun x hx => by
    have := h x hx
    have h0 : IntKind.u64.min = 0 := by decide
    have h1 : IntKind.u64.max = 18446744073709551615 := by decide
    omega⟩
end Eng


namespace Eng
open Go Go.Proofs Go.RowKit
def subEntry : Array Value → Sem Value := fun args => do
  let (x, y, b) ← Extern.MathBitsCarry.three "Sub64" args
  pure (Extern.MathBitsCarry.pair ((x + Extern.MathBitsCarry.m64 - y - b) % Extern.MathBitsCarry.m64) (if x < y + b then 1 else 0))
theorem run_sub64 {P : Program} (x y c : Int) (hx : 0 ≤ x) (hx1 : x < 18446744073709551616) (hy : 0 ≤ y) (hy1 : y < 18446744073709551616) (hc0 : 0 ≤ c) (hc : c ≤ 1) (w : World) :
    (subEntry #[.int .u64 x, .int .u64 y, .int .u64 c]).run P w =
      .ok (.tuple #[.int .u64 ((x - y - c) % 18446744073709551616), .int .u64 (if x < y + c then 1 else 0)]) w := by
  have key : ∀ k : Nat, k ≤ 1 → (subEntry #[.int .u64 x, .int .u64 y, .int .u64 (k : Int)]).run P w =
      .ok (Extern.MathBitsCarry.pair ((x.toNat + Extern.MathBitsCarry.m64 - y.toNat - k) % Extern.MathBitsCarry.m64) (if x.toNat < y.toNat + k then 1 else 0)) w := by
    intro k hk
    have : k = 0 ∨ k = 1 := by omega
    rcases this with rfl | rfl <;> rfl
  obtain ⟨k, rfl⟩ := Int.eq_ofNat_of_zero_le hc0
  rw [key k (by omega)]
  obtain ⟨X, rfl⟩ := Int.eq_ofNat_of_zero_le hx
  obtain ⟨Y, rfl⟩ := Int.eq_ofNat_of_zero_le hy
  simp only [Extern.MathBitsCarry.pair, Extern.MathBitsCarry.m64, Int.toNat_natCast]
  have e1 : Int.ofNat ((X + 2 ^ 64 - Y - k) % 2 ^ 64) = ((X : Int) - Y - k) % 18446744073709551616 := by
    simp only [Int.ofNat_eq_natCast]; omega
  have e2 : Int.ofNat (if X < Y + k then 1 else 0) = (if (X : Int) < Y + k then 1 else 0) := by
    by_cases h : X < Y + k
    · rw [if_pos h, if_pos (by omega)]; rfl
    · rw [if_neg h, if_neg (by omega)]; rfl
  rw [e1, e2]

noncomputable def subX : List AV → Option AV
  | [.int .u64 a, .int .u64 b, .int .u64 c] => @ite _ (0 ≤ a ∧ a < 18446744073709551616 ∧ 0 ≤ b ∧ b < 18446744073709551616 ∧ 0 ≤ c ∧ c ≤ 1) (Classical.propDecidable _) (some (.tup [.int .u64 ((a - b - c) % 18446744073709551616), .int .u64 (if a < b + c then 1 else 0)])) none
  | _ => none
noncomputable def addX : List AV → Option AV
  | [.int .u64 a, .int .u64 b, .int .u64 c] => @ite _ (0 ≤ a ∧ 0 ≤ b ∧ 0 ≤ c ∧ c ≤ 1) (Classical.propDecidable _) (some (.tup [.int .u64 ((a + b + c) % 18446744073709551616), .int .u64 ((a + b + c) / 18446744073709551616)])) none
  | _ => none

theorem ext_run {P : Program} {f : FuncId} {fn : Func} {e : Array Value → Sem Value} (hf : P.funcs[f]? = some fn) (hm : (fn.name == "runtime.NumGoroutine") = false) (hb : fn.body.isNone = true) (hn : (Extern.findNext fn).isNone = true)
    (he : Extern.find fn = some e) {args : Array Value} {v : Value} {w : World} (h : (e args).run P w = .ok v w) : (callFunc f args).run P w = .ok (.value v) w := by
  have h1 : fn.name ≠ "runtime.NumGoroutine" := by simpa using hm
  have h2 : Extern.findNext fn = none := by simpa using hn
  have h3 : fn.body = none := by simpa using hb
  simp [callFunc, hf, h1, h3, h2, he, h]

theorem three_of {σ : Sg} {X : Nat → Prop} {w : World} {a b c : Int} {vals : List Value} (h : RvL σ X w false [.int .u64 a, .int .u64 b, .int .u64 c] vals) : vals = [.int .u64 a, .int .u64 b, .int .u64 c] := by
  simp only [RvL, Rv] at h
  obtain ⟨_, _, rfl, rfl, _, _, rfl, rfl, _, _, rfl, rfl, rfl⟩ := h
  rfl

theorem ext74 : ExtOk Tryd.prog 74 subX := by
  intro σ X w args vals v hv hx
  unfold subX at hx
  split at hx
  · split at hx
    · rename_i a b c h
      cases hx
      rw [three_of hv]
      refine ⟨_, ext_run Tryd.func74 (by kernel_rfl) (by kernel_rfl) (by kernel_rfl) (e := subEntry) (by kernel_rfl) (run_sub64 a b c h.1 h.2.1 h.2.2.1 h.2.2.2.1 h.2.2.2.2.1 h.2.2.2.2.2 w), ?_⟩
      simp [Rv, RvL]
    · cases hx
  · cases hx
theorem ext75 : ExtOk Tryd.prog 75 addX := by
  intro σ X w args vals v hv hx
  unfold addX at hx
  split at hx
  · split at hx
    · rename_i a b c h
      cases hx
      rw [three_of hv]
      refine ⟨_, ext_run Tryd.func75 (by kernel_rfl) (by kernel_rfl) (by kernel_rfl) (e := add64Entry) (by kernel_rfl) (run_add64 a b c h.1 h.2.1 h.2.2.1 h.2.2.2 w), ?_⟩
      simp [Rv, RvL]
    · cases hx
  · cases hx
theorem subX_eq (a b c : Int) (ha : U64 a) (hb : U64 b) (hc0 : 0 ≤ c) (hc : c ≤ 1) : subX [.int .u64 a, .int .u64 b, .int .u64 c] = some (.tup [.int .u64 ((a - b - c) % 18446744073709551616), .int .u64 (if a < b + c then 1 else 0)]) := by
  simp only [subX]; rw [if_pos ⟨ha.1, ha.2, hb.1, hb.2, hc0, hc⟩]
theorem addX_eq (a b c : Int) (ha : U64 a) (hb : U64 b) (hc0 : 0 ≤ c) (hc : c ≤ 1) : addX [.int .u64 a, .int .u64 b, .int .u64 c] = some (.tup [.int .u64 ((a + b + c) % 18446744073709551616), .int .u64 ((a + b + c) / 18446744073709551616)]) := by
  simp only [addX]; rw [if_pos ⟨ha.1, hb.1, hc0, hc⟩]
end Eng


namespace Eng
open Go Go.Proofs
set_option linter.unusedSimpArgs false

def one6 : List Int := [1, 0, 0, 0, 0, 0]
@[go_sem] theorem one6_len : one6.length = 6 := by decide
theorem U6_zero : U6 (List.replicate 6 0) := ⟨rfl, by decide⟩
end Eng


namespace Eng
open Go

/-- The digits of a number, the lowest first, none a nought at the end. -/
def dig (n : Nat) : List Int := if h : n = 0 then [] else ((n % 4294967296 : Nat) : Int) :: dig (n / 4294967296)
termination_by n
decreasing_by omega

theorem dig_zero : dig 0 = [] := by rw [dig]; simp
theorem dig_pos {n : Nat} (h : n ≠ 0) : dig n = ((n % 4294967296 : Nat) : Int) :: dig (n / 4294967296) := by
  rw [dig]; simp [h]

def D32 (l : List Int) : Prop := ∀ x ∈ l, 0 ≤ x ∧ x < 4294967296
def val : List Int → Nat
  | [] => 0
  | x :: l => x.toNat + 4294967296 * val l

theorem val_dig (n : Nat) : val (dig n) = n := by
  induction n using Nat.strongRecOn with
  | ind n ih =>
    by_cases h : n = 0
    · subst h; rw [dig_zero]; rfl
    · rw [dig_pos h, val, ih _ (by omega)]
      simp only [Int.toNat_natCast]
      omega
theorem dig_inj {a b : Nat} (h : dig a = dig b) : a = b := by rw [← val_dig a, ← val_dig b, h]
theorem dig_getD (n i : Nat) : (dig n).getD i 0 = ((n / 4294967296 ^ i % 4294967296 : Nat) : Int) := by
  induction i generalizing n with
  | zero =>
    by_cases h : n = 0
    · subst h; rw [dig_zero]; rfl
    · rw [dig_pos h]; simp
  | succ i ih =>
    by_cases h : n = 0
    · subst h; rw [dig_zero]; simp
    · rw [dig_pos h, List.getD_cons_succ, ih, Nat.div_div_eq_div_mul, Nat.pow_succ, Nat.mul_comm]
theorem dig_len_le (n k : Nat) : (dig n).length ≤ k ↔ n < 4294967296 ^ k := by
  induction k generalizing n with
  | zero =>
    by_cases h : n = 0
    · subst h; rw [dig_zero]; simp
    · rw [dig_pos h]; simp; omega
  | succ k ih =>
    by_cases h : n = 0
    · subst h; rw [dig_zero]; simp; exact Nat.pow_pos (by decide)
    · rw [dig_pos h, List.length_cons, Nat.succ_le_succ_iff, ih, Nat.pow_succ, Nat.div_lt_iff_lt_mul (by decide)]
/-- The low digits of a number, so many. -/
def low (i n : Nat) : List Int := tab i (fun j => ((n / 4294967296 ^ j % 4294967296 : Nat) : Int))
theorem low_len (i n : Nat) : (low i n).length = i := tab_len _ _
theorem low_succ (i n : Nat) : low (i + 1) n = low i n ++ [((n / 4294967296 ^ i % 4294967296 : Nat) : Int)] := by
  simp [low, tab, List.range_succ]
theorem low_D32 (i n : Nat) : D32 (low i n) := by
  intro x hx
  simp only [low, tab, List.mem_map] at hx
  obtain ⟨j, _, rfl⟩ := hx
  omega
theorem val_append (a b : List Int) : val (a ++ b) = val a + 4294967296 ^ a.length * val b := by
  induction a with
  | nil => simp [val]
  | cons x a ih =>
    simp only [List.cons_append, val, ih, List.length_cons, Nat.pow_succ]
    rw [Nat.mul_add, Nat.add_assoc, ← Nat.mul_assoc, Nat.mul_comm 4294967296 (4294967296 ^ _)]
theorem val_low (i n : Nat) : val (low i n) = n % 4294967296 ^ i := by
  induction i with
  | zero => simp [low, tab, val, Nat.mod_one]
  | succ i ih =>
    rw [low_succ, val_append, ih, low_len, Nat.mod_pow_succ]
    simp only [val, Int.toNat_natCast, Nat.mul_zero, Nat.add_zero]
theorem val_zeros (l : List Int) (h : ∀ x ∈ l, x = 0) : val l = 0 := by
  induction l with
  | nil => rfl
  | cons x l ih => simp [val, h x (by simp), ih fun y hy => h y (by simp [hy])]
/-- A list of digits whose last one is no nought is that of its number. -/
theorem dig_val : ∀ (l : List Int), D32 l → (l = [] ∨ l.getD (l.length - 1) 0 ≠ 0) → dig (val l) = l
  | [], _, _ => by rw [val, dig_zero]
  | x :: l, hd, hl => by
    have hx := hd x (by simp)
    have hd' : D32 l := fun y hy => hd y (by simp [hy])
    rcases hl with h | h
    · cases h
    · by_cases hl0 : l = []
      · subst hl0
        simp at h
        have : val [x] = x.toNat := by simp [val]
        rw [this, dig_pos (by omega), Nat.mod_eq_of_lt (by omega), Nat.div_eq_of_lt (by omega), dig_zero]
        congr 1
        omega
      · have hlen : 0 < l.length := List.length_pos_iff.2 hl0
        have ih := dig_val l hd' (.inr (by
          rw [show (x :: l).length - 1 = (l.length - 1) + 1 by simp; omega, List.getD_cons_succ] at h
          exact h))
        have hne : val l ≠ 0 := by
          intro h0
          rw [h0, dig_zero] at ih
          exact hl0 ih.symm
        have e : val (x :: l) = x.toNat + 4294967296 * val l := rfl
        rw [e, dig_pos (by omega), show (x.toNat + 4294967296 * val l) % 4294967296 = x.toNat by omega, show (x.toNat + 4294967296 * val l) / 4294967296 = val l by omega, ih]
        congr 1
        omega
/-- What Trim finds. -/
theorem trim_eq {l : List Int} (hd : D32 l) {n : Nat} (hn : n ≤ l.length) (h0 : ∀ i, n ≤ i → i < l.length → l.getD i 0 = 0) (h1 : n = 0 ∨ l.getD (n - 1) 0 ≠ 0) : l.take n = dig (val l) := by
  have hv : val l = val (l.take n) := by
    conv => lhs; rw [← List.take_append_drop n l]
    rw [val_append, val_zeros (l.drop n), Nat.mul_zero, Nat.add_zero]
    intro x hx
    obtain ⟨i, hi⟩ := List.getElem?_of_mem hx
    rw [List.getElem?_drop] at hi
    have hlt := (List.getElem?_eq_some_iff.1 hi).1
    have := h0 (n + i) (by omega) hlt
    rw [List.getD_eq_getElem?_getD, hi, Option.getD_some] at this
    exact this
  rw [hv]
  refine (dig_val _ (fun x hx => hd x (List.mem_of_mem_take hx)) ?_).symm
  by_cases hn0 : n = 0
  · subst hn0; left; simp
  · right
    have h := h1.resolve_left hn0
    have hl : (l.take n).length = n := by simp; omega
    rw [hl]
    rw [List.getD_eq_getElem?_getD] at h ⊢
    rw [List.getElem?_take]
    split
    · exact h
    · rename_i hh
      exfalso
      by_cases hn0 : n = 0
      · subst hn0; omega
      · omega
theorem dig_low {i n : Nat} (h : n < 4294967296 ^ i) : val (low i n) = n := by rw [val_low, Nat.mod_eq_of_lt h]

/- Sums and differences, digit by digit. -/
theorem add_dig (B x y i : Nat) (hB : 0 < B) : (x + y) / B ^ i % B = (x / B ^ i % B + y / B ^ i % B + (x % B ^ i + y % B ^ i) / B ^ i) % B := by
  have hp : 0 < B ^ i := Nat.pow_pos hB
  have h : (x + y) / B ^ i = x / B ^ i + y / B ^ i + (x % B ^ i + y % B ^ i) / B ^ i := by
    have e : x + y = (x % B ^ i + y % B ^ i) + B ^ i * (x / B ^ i + y / B ^ i) := by
      have h1 := Nat.mod_add_div x (B ^ i)
      have h2 := Nat.mod_add_div y (B ^ i)
      rw [Nat.mul_add]; omega
    rw [e, Nat.add_mul_div_left _ _ hp]
    omega
  rw [h]
  rw [Nat.add_mod (x / B ^ i + y / B ^ i), Nat.add_mod (x / B ^ i) (y / B ^ i)]
  rw [Nat.add_mod (x / B ^ i % B + y / B ^ i % B)]
theorem add_car (B x y i : Nat) (hB : 0 < B) : (x % B ^ (i + 1) + y % B ^ (i + 1)) / B ^ (i + 1) = (x / B ^ i % B + y / B ^ i % B + (x % B ^ i + y % B ^ i) / B ^ i) / B := by
  have hp : 0 < B ^ i := Nat.pow_pos hB
  rw [Nat.mod_pow_succ, Nat.mod_pow_succ, Nat.pow_succ, ← Nat.div_div_eq_div_mul]
  congr 1
  rw [show x % B ^ i + B ^ i * (x / B ^ i % B) + (y % B ^ i + B ^ i * (y / B ^ i % B)) = (x % B ^ i + y % B ^ i) + B ^ i * (x / B ^ i % B + y / B ^ i % B) by rw [Nat.mul_add]; omega]
  rw [Nat.add_mul_div_left _ _ hp]
  omega
def borrow (B x y i : Nat) : Nat := if x % B ^ i < y % B ^ i then 1 else 0
theorem bor_succ (B x y i : Nat) (hB : 0 < B) : borrow B x y (i + 1) = if x / B ^ i % B < y / B ^ i % B + borrow B x y i then 1 else 0 := by
  have hp : 0 < B ^ i := Nat.pow_pos hB
  unfold borrow
  rw [Nat.mod_pow_succ, Nat.mod_pow_succ]
  have hx := Nat.mod_lt x hp
  have hy := Nat.mod_lt y hp
  generalize x / B ^ i % B = dx
  generalize y / B ^ i % B = dy
  generalize x % B ^ i = rx at *
  generalize y % B ^ i = ry at *
  generalize B ^ i = M at *
  have key : rx + M * dx < ry + M * dy ↔ dx < dy + (if rx < ry then 1 else 0) := by
    constructor
    · intro h
      split
      · rename_i hr
        have : M * dx < M * (dy + 1) := by rw [Nat.mul_add]; omega
        exact Nat.lt_of_mul_lt_mul_left this
      · rename_i hr
        have : M * dx < M * dy := by omega
        have := Nat.lt_of_mul_lt_mul_left this
        omega
    · intro h
      split at h
      · rename_i hr
        have : M * dx ≤ M * dy := Nat.mul_le_mul_left _ (by omega)
        omega
      · rename_i hr
        have : M * (dx + 1) ≤ M * dy := Nat.mul_le_mul_left _ (by omega)
        rw [Nat.mul_add] at this
        omega
  by_cases h : dx < dy + (if rx < ry then 1 else 0)
  · rw [if_pos h, if_pos (key.2 h)]
  · rw [if_neg h, if_neg (fun h' => h (key.1 h'))]
/-- The digits of a difference, as integers. -/
theorem sub_dig (B x y i : Nat) (hB : 0 < B) : (((x : Int) - y) / (B : Int) ^ i) % B = (((x / B ^ i % B : Nat) : Int) - ((y / B ^ i % B : Nat) : Int) - (borrow B x y i : Int)) % B := by
  have hp : 0 < B ^ i := Nat.pow_pos hB
  have e : ((x : Int) - y) / (B : Int) ^ i = ((x / B ^ i : Nat) : Int) - ((y / B ^ i : Nat) : Int) - (borrow B x y i : Int) := by
    have h1 := Nat.mod_add_div x (B ^ i)
    have h2 := Nat.mod_add_div y (B ^ i)
    have hx := Nat.mod_lt x hp
    have hy := Nat.mod_lt y hp
    rw [← Int.natCast_pow]
    unfold borrow
    generalize x / B ^ i = qx at *
    generalize y / B ^ i = qy at *
    generalize x % B ^ i = rx at *
    generalize y % B ^ i = ry at *
    generalize B ^ i = M at *
    have e1 : (x : Int) - y = ((rx : Int) - ry) + (M : Int) * ((qx : Int) - qy) := by
      rw [← h1, ← h2]; push_cast; rw [Int.mul_sub]; omega
    rw [e1, Int.add_mul_ediv_left _ _ (by omega)]
    have hM : (0 : Int) < M := by omega
    split
    · rename_i hr
      have : ((rx : Int) - ry) / M = -1 := by
        rw [show (rx : Int) - ry = ((rx : Int) - ry + M) + M * (-1) by omega, Int.add_mul_ediv_left _ _ (by omega), Int.ediv_eq_zero_of_lt (by omega) (by omega)]
        rfl
      rw [this]; omega
    · rename_i hr
      rw [Int.ediv_eq_zero_of_lt (by omega) (by omega)]; omega
  rw [e]
  rw [Int.emod_eq_emod_iff_emod_sub_eq_zero]
  have a1 := Nat.mod_add_div (x / B ^ i) B
  have a2 := Nat.mod_add_div (y / B ^ i) B
  generalize x / B ^ i = qx at *
  generalize y / B ^ i = qy at *
  have : ((qx : Int) - qy - (borrow B x y i : Int)) - (((qx % B : Nat) : Int) - ((qy % B : Nat) : Int) - (borrow B x y i : Int)) = B * (((qx / B : Nat) : Int) - ((qy / B : Nat) : Int)) := by
    have b1 : (qx : Int) = ((qx % B : Nat) : Int) + (B : Int) * ((qx / B : Nat) : Int) := by exact_mod_cast a1.symm
    have b2 : (qy : Int) = ((qy % B : Nat) : Int) + (B : Int) * ((qy / B : Nat) : Int) := by exact_mod_cast a2.symm
    rw [Int.mul_sub]; omega
  rw [this]
  exact Int.mul_emod_right _ _
theorem dig_injEq (a b : Nat) : (dig a = dig b) = (a = b) := propext ⟨dig_inj, fun h => by rw [h]⟩
theorem wrap_pred {n : Nat} (h : 0 < n) (hn : n ≤ 4611686018427387904) : IntKind.i64.wrap ((n : Int) - 1) = ((n - 1 : Nat) : Int) := by
  rw [wrap_i64 (by omega) (by omega)]; omega
theorem wrap_succ' {n : Nat} (hn : n ≤ 4611686018427387904) : IntKind.i64.wrap ((n : Int) + 1) = ((n + 1 : Nat) : Int) := by
  rw [wrap_i64 (by omega) (by omega)]; omega
theorem D32.at {l : List Int} (h : D32 l) (i : Nat) : 0 ≤ l.getD i 0 ∧ l.getD i 0 < 4294967296 := by
  rcases Nat.lt_or_ge i l.length with hj | hj
  · rw [List.getD_eq_getElem?_getD, List.getElem?_eq_getElem hj, Option.getD_some]
    exact h _ (List.getElem_mem hj)
  · rw [List.getD_eq_getElem?_getD, List.getElem?_eq_none hj]
    exact ⟨by decide, by decide⟩
theorem lt_of_digs {x y j : Nat} (h : x / 4294967296 ^ (j + 1) = y / 4294967296 ^ (j + 1)) (hd : x / 4294967296 ^ j % 4294967296 < y / 4294967296 ^ j % 4294967296) : x < y := by
  rw [Nat.pow_succ, ← Nat.div_div_eq_div_mul, ← Nat.div_div_eq_div_mul] at h
  have : x / 4294967296 ^ j < y / 4294967296 ^ j := by omega
  exact Nat.lt_of_not_le fun hle => by
    have := Nat.div_le_div_right (c := 4294967296 ^ j) hle
    omega
theorem eq_of_digs {x y j : Nat} (h : x / 4294967296 ^ (j + 1) = y / 4294967296 ^ (j + 1)) (hd : x / 4294967296 ^ j % 4294967296 = y / 4294967296 ^ j % 4294967296) : x / 4294967296 ^ j = y / 4294967296 ^ j := by
  rw [Nat.pow_succ, ← Nat.div_div_eq_div_mul, ← Nat.div_div_eq_div_mul] at h
  omega
theorem lt_of_lens {x y : Nat} (h : (dig x).length < (dig y).length) : x < y := by
  have h1 := (dig_len_le x (dig x).length).1 (Nat.le_refl _)
  have h2 : ¬ (dig y).length ≤ (dig x).length := by omega
  rw [dig_len_le] at h2
  omega
def D64 (l : List Int) : Prop := ∀ x ∈ l, 0 ≤ x ∧ x < 18446744073709551616
def v64 : List Int → Nat
  | [] => 0
  | x :: l => x.toNat + 18446744073709551616 * v64 l
theorem v64_lt : ∀ {l : List Int}, D64 l → v64 l < 18446744073709551616 ^ l.length
  | [], _ => by simp [v64]
  | x :: l, h => by
    have := v64_lt (l := l) fun y hy => h y (by simp [hy])
    have hx := h x (by simp)
    rw [v64, List.length_cons, Nat.pow_succ]
    generalize 18446744073709551616 ^ l.length = M at *
    omega
theorem v64_getD : ∀ {l : List Int}, D64 l → ∀ i, l.getD i 0 = ((v64 l / 18446744073709551616 ^ i % 18446744073709551616 : Nat) : Int)
  | [], _, i => by simp [v64]
  | x :: l, h, 0 => by
    have hx := h x (by simp)
    simp [v64]; omega
  | x :: l, h, i + 1 => by
    have hx := h x (by simp)
    rw [List.getD_cons_succ, v64_getD (fun y hy => h y (by simp [hy])) i, v64, Nat.pow_succ, Nat.mul_comm (18446744073709551616 ^ i), ← Nat.div_div_eq_div_mul]
    rw [show (x.toNat + 18446744073709551616 * v64 l) / 18446744073709551616 = v64 l by omega]
theorem pow_two32 (i : Nat) : 4294967296 ^ (2 * i) = 18446744073709551616 ^ i := by rw [Nat.pow_mul]
theorem pow_two33 (i : Nat) : 4294967296 ^ (2 * i + 1) = 18446744073709551616 ^ i * 4294967296 := by rw [Nat.pow_succ, pow_two32]
/-- A limb is two digits. -/
theorem limb_lo (v i : Nat) : ((v / 18446744073709551616 ^ i % 18446744073709551616 : Nat) : Int).tmod 4294967296 = ((v / 4294967296 ^ (2 * i) % 4294967296 : Nat) : Int) := by
  rw [Int.tmod_eq_emod_of_nonneg (by omega), pow_two32]; omega
theorem limb_hi (v i : Nat) : ((v / 18446744073709551616 ^ i % 18446744073709551616 : Nat) : Int).tdiv 4294967296 = ((v / 4294967296 ^ (2 * i + 1) % 4294967296 : Nat) : Int) := by
  rw [Int.tdiv_eq_ediv_of_nonneg (by omega), pow_two33, ← Nat.div_div_eq_div_mul]; omega
theorem low_two (v i : Nat) : low (2 * (i + 1)) v = low (2 * i) v ++ [((v / 4294967296 ^ (2 * i) % 4294967296 : Nat) : Int), ((v / 4294967296 ^ (2 * i + 1) % 4294967296 : Nat) : Int)] := by
  rw [show 2 * (i + 1) = (2 * i + 1) + 1 by omega, low_succ, low_succ, List.append_assoc]; rfl
theorem ofInt_bv (v : BitVec 64) : BitVec.ofInt 64 (v.toNat : Int) = v := by
  apply BitVec.eq_of_toNat_eq
  rw [ofInt_toNat (by omega) (by have := v.isLt; omega)]; simp
theorem bv_ofInt {x : Int} (h0 : 0 ≤ x) (h1 : x < 18446744073709551616) : ((BitVec.ofInt 64 x).toNat : Int) = x := by
  rw [ofInt_toNat h0 (by omega)]; omega

/- Limbs of 64 bits. -/
def lim6 (x : Nat) : List Int := tab 6 (fun j => ((x / 18446744073709551616 ^ j % 18446744073709551616 : Nat) : Int))
theorem lim6_len (x : Nat) : (lim6 x).length = 6 := tab_len _ _
theorem lim6_getD (x : Nat) {j : Nat} (h : j < 6) : (lim6 x).getD j 0 = ((x / 18446744073709551616 ^ j % 18446744073709551616 : Nat) : Int) := tab_getD _ _ h
theorem lim6_D64 (x : Nat) : D64 (lim6 x) := by
  intro y hy
  simp only [lim6, tab, List.mem_map] at hy
  obtain ⟨j, _, rfl⟩ := hy
  omega
theorem lim6_v64 {a : List Int} (hl : a.length = 6) (h : D64 a) : lim6 (v64 a) = a := (eq_tab hl fun i _ => v64_getD h i).symm
theorem part_lt {B r q j k : Nat} (hB : 0 < B) (h : k < j) : (r + B ^ j * q) / B ^ k % B = r / B ^ k % B := by
  obtain ⟨m, rfl⟩ : ∃ m, j = k + 1 + m := ⟨j - (k + 1), by omega⟩
  have : B ^ (k + 1 + m) * q = B ^ k * (B * (B ^ m * q)) := by rw [Nat.pow_add, Nat.pow_succ, Nat.mul_assoc, Nat.mul_assoc]
  rw [this, Nat.add_mul_div_left _ _ (Nat.pow_pos hB), Nat.add_mul_mod_self_left]
theorem part_gt {B r k : Nat} (h : r < B ^ k) : r / B ^ k % B = 0 := by rw [Nat.div_eq_of_lt h]; simp
theorem lim6_mod (x : Nat) : lim6 (x % 4294967296 ^ 12) = lim6 x := tab_ext fun k hk => by
  have e : x = x % 4294967296 ^ 12 + 18446744073709551616 ^ 6 * (x / 4294967296 ^ 12) := by
    have := Nat.mod_add_div x (4294967296 ^ 12)
    rw [show 18446744073709551616 ^ 6 = 4294967296 ^ 12 from rfl]; omega
  congr 1
  conv => rhs; rw [e]
  rw [part_lt (by decide) hk]
/-- How many bits. -/
def nb (x : Nat) : Nat := if x = 0 then 0 else x.log2 + 1
theorem nb_le (x k : Nat) : nb x ≤ k ↔ x < 2 ^ k := by
  unfold nb
  split
  · rename_i h; subst h; simp only [Nat.zero_le, true_iff]; exact Nat.pow_pos (by decide)
  · rename_i h; rw [Nat.succ_le_iff, Nat.log2_lt h]
end Eng

