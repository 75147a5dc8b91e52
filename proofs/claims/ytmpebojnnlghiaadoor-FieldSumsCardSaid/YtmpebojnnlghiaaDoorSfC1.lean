/- Contracts of the program's functions, and laws over them. There is no further condition. -/
import Derived.Test.YtmpebojnnlghiaaDoorSfTy
set_option linter.unusedVariables false
set_option linter.unusedSimpArgs false
set_option exponentiation.threshold 2000
namespace Eng
open Go Go.Proofs
theorem hM0 : Tryd.prog.follows .mixedOrders = true := by kernel_rfl
theorem eq24 : eqArr Tryd.prog 24 = true := by kernel_rfl
def L2r0 : List AOp := [
  ⟨(some 0), .call { callee := .value (.func 1), args := #[], argTypes := #[] }, none, 0⟩]
def L2 : LC := (.region L2r0)
theorem nt2 : Tryd.f2.ntmps = 1 := by kernel_rfl
theorem rs2 : Tryd.f2.results.toList = [] := by kernel_rfl
theorem lite2 : Tryd.f2.body.map (lite okDraw) = some L2 := by kernel_rfl
def L3r0 : List AOp := [
  ⟨(some 1), .box 24 (.tmp 0), none, 0⟩,
  ⟨(some 2), .assign (.const (.bool false)), none, 0⟩]
def L3r1 : List AOp := [
  ⟨(some 4), .call { callee := .value (.func 15), args := #[], argTypes := #[] }, none, 0⟩,
  ⟨(some 5), .call { callee := .value (.func 16), args := #[], argTypes := #[] }, none, 0⟩,
  ⟨(some 6), .call { callee := .value (.func 14), args := #[.tmp 4, .tmp 5], argTypes := #[24, 28] }, none, 0⟩,
  ⟨(some 3), .assign (.tmp 6), none, 0⟩]
def L3r2 : List AOp := [
  ⟨(some 7), .move (.tmp 3), none, 1267650600228229401496703205376⟩,
  ⟨(some 8), .move (.tmp 7), none, 1267650600228229401496703205377⟩,
  ⟨(some 9), .load 24 (.tmp 1), (some (8, true)), 3⟩,
  ⟨(some 10), .call { callee := .value (.func 17), args := #[.tmp 9], argTypes := #[24] }, (some (8, true)), 7⟩,
  ⟨(some 11), .load 24 (.tmp 1), (some (8, true)), 3⟩,
  ⟨(some 12), .call { callee := .value (.func 19), args := #[.tmp 11], argTypes := #[24] }, (some (8, true)), 1267650600228229401496703205407⟩,
  ⟨(some 13), .call { callee := .value (.func 18), args := #[.tmp 12], argTypes := #[28] }, (some (8, true)), 1267650600228229401496703205439⟩,
  ⟨(some 14), .call { callee := .value (.func 14), args := #[.tmp 10, .tmp 13], argTypes := #[24, 28] }, (some (8, true)), 1267650600228229401496703205503⟩,
  ⟨(some 15), .pick (.tmp 8) (.tmp 14) (.const (.bool false)), none, 1267650600228229401496703205631⟩,
  ⟨(some 2), .assign (.tmp 15), none, 1267650600228229401496703205887⟩]
def L3 : LC := (.seq (.region L3r0) (.seq (.region L3r1) (.seq (.regionD L3r2) .ret)))
theorem nt3 : Tryd.f3.ntmps = 16 := by kernel_rfl
theorem rs3 : Tryd.f3.results.toList = [.tmp 2] := by kernel_rfl
theorem lite3 : Tryd.f3.body.map (lite okDraw) = some L3 := by kernel_rfl
def L4r0 : List AOp := [
  ⟨(some 2), .box 24 (.tmp 0), none, 0⟩,
  ⟨(some 3), .box 24 (.tmp 1), none, 0⟩,
  ⟨(some 4), .assign (.const (.bool false)), none, 0⟩]
def L4r1 : List AOp := [
  ⟨(some 8), .call { callee := .value (.func 21), args := #[], argTypes := #[] }, none, 0⟩,
  ⟨(some 9), .call { callee := .value (.func 22), args := #[], argTypes := #[] }, none, 0⟩,
  ⟨(some 10), .call { callee := .value (.func 20), args := #[.tmp 8, .tmp 9], argTypes := #[24, 28] }, none, 0⟩,
  ⟨(some 5), .assign (.tmp 10), none, 0⟩]
def L4r2 : List AOp := [
  ⟨(some 11), .load 24 (.tmp 2), none, 0⟩,
  ⟨(some 12), .call { callee := .value (.func 23), args := #[.tmp 11], argTypes := #[24] }, none, 1⟩,
  ⟨(some 13), .load 24 (.tmp 2), none, 0⟩,
  ⟨(some 14), .call { callee := .value (.func 25), args := #[.tmp 13], argTypes := #[24] }, none, 1267650600228229401496703205383⟩,
  ⟨(some 15), .call { callee := .value (.func 24), args := #[.tmp 14], argTypes := #[28] }, none, 1267650600228229401496703205391⟩,
  ⟨(some 16), .call { callee := .value (.func 20), args := #[.tmp 12, .tmp 15], argTypes := #[24, 28] }, none, 1267650600228229401496703205407⟩,
  ⟨(some 6), .assign (.tmp 16), none, 1267650600228229401496703205439⟩]
def L4r3 : List AOp := [
  ⟨(some 17), .load 24 (.tmp 2), none, 0⟩,
  ⟨(some 18), .load 24 (.tmp 3), none, 0⟩,
  ⟨(some 19), .call { callee := .value (.func 26), args := #[.tmp 17, .tmp 18], argTypes := #[24, 24] }, none, 3⟩,
  ⟨(some 20), .load 24 (.tmp 2), none, 0⟩,
  ⟨(some 21), .call { callee := .value (.func 25), args := #[.tmp 20], argTypes := #[24] }, none, 15⟩,
  ⟨(some 22), .load 24 (.tmp 3), none, 0⟩,
  ⟨(some 23), .call { callee := .value (.func 25), args := #[.tmp 22], argTypes := #[24] }, none, 1267650600228229401496703205439⟩,
  ⟨(some 24), .call { callee := .value (.func 27), args := #[.tmp 21, .tmp 23], argTypes := #[28, 28] }, none, 1267650600228229401496703205503⟩,
  ⟨(some 25), .call { callee := .value (.func 24), args := #[.tmp 24], argTypes := #[28] }, none, 1267650600228229401496703205631⟩,
  ⟨(some 26), .call { callee := .value (.func 20), args := #[.tmp 19, .tmp 25], argTypes := #[24, 28] }, none, 1267650600228229401496703205887⟩,
  ⟨(some 7), .assign (.tmp 26), none, 1267650600228229401496703206399⟩]
def L4r4 : List AOp := [
  ⟨(some 27), .call { callee := .value (.func 28), args := #[], argTypes := #[] }, none, 0⟩,
  ⟨(some 28), .move (.tmp 27), none, 0⟩,
  ⟨(some 29), .move (.tmp 5), (some (28, true)), 0⟩,
  ⟨(some 30), .pick (.tmp 28) (.tmp 29) (.const (.bool false)), none, 0⟩,
  ⟨(some 31), .move (.tmp 30), none, 0⟩,
  ⟨(some 32), .move (.tmp 6), (some (31, true)), 0⟩,
  ⟨(some 33), .pick (.tmp 31) (.tmp 32) (.const (.bool false)), none, 0⟩,
  ⟨(some 34), .move (.tmp 33), none, 0⟩,
  ⟨(some 35), .move (.tmp 7), (some (34, true)), 0⟩,
  ⟨(some 36), .pick (.tmp 34) (.tmp 35) (.const (.bool false)), none, 0⟩,
  ⟨(some 4), .assign (.tmp 36), none, 0⟩]
def L4 : LC := (.seq (.region L4r0) (.seq (.region L4r1) (.seq (.regionD L4r2) (.seq (.regionD L4r3) (.seq (.region L4r4) .ret)))))
theorem nt4 : Tryd.f4.ntmps = 37 := by kernel_rfl
theorem rs4 : Tryd.f4.results.toList = [.tmp 4] := by kernel_rfl
theorem lite4 : Tryd.f4.body.map (lite okDraw) = some L4 := by kernel_rfl
def L5r0 : List AOp := [
  ⟨(some 2), .box 24 (.tmp 0), none, 0⟩,
  ⟨(some 3), .box 24 (.tmp 1), none, 0⟩,
  ⟨(some 4), .assign (.const (.bool false)), none, 0⟩]
def L5r1 : List AOp := [
  ⟨(some 8), .load 24 (.tmp 2), none, 0⟩,
  ⟨(some 9), .load 24 (.tmp 3), none, 0⟩,
  ⟨(some 10), .call { callee := .value (.func 29), args := #[.tmp 8, .tmp 9], argTypes := #[24, 24] }, none, 3⟩,
  ⟨(some 11), .load 24 (.tmp 2), none, 0⟩,
  ⟨(some 12), .call { callee := .value (.func 19), args := #[.tmp 11], argTypes := #[24] }, none, 15⟩,
  ⟨(some 13), .load 24 (.tmp 3), none, 0⟩,
  ⟨(some 14), .call { callee := .value (.func 19), args := #[.tmp 13], argTypes := #[24] }, none, 1267650600228229401496703205439⟩,
  ⟨(some 15), .call { callee := .value (.func 30), args := #[.tmp 12, .tmp 14], argTypes := #[28, 28] }, none, 1267650600228229401496703205503⟩,
  ⟨(some 16), .call { callee := .value (.func 14), args := #[.tmp 10, .tmp 15], argTypes := #[24, 28] }, none, 1267650600228229401496703205631⟩,
  ⟨(some 5), .assign (.tmp 16), none, 1267650600228229401496703205887⟩]
def L5r2 : List AOp := [
  ⟨(some 17), .load 24 (.tmp 2), none, 0⟩,
  ⟨(some 18), .load 24 (.tmp 3), none, 0⟩,
  ⟨(some 19), .call { callee := .value (.func 31), args := #[.tmp 17, .tmp 18], argTypes := #[24, 24] }, none, 3⟩,
  ⟨(some 20), .load 24 (.tmp 2), none, 0⟩,
  ⟨(some 21), .call { callee := .value (.func 19), args := #[.tmp 20], argTypes := #[24] }, none, 15⟩,
  ⟨(some 22), .load 24 (.tmp 3), none, 0⟩,
  ⟨(some 23), .call { callee := .value (.func 19), args := #[.tmp 22], argTypes := #[24] }, none, 1267650600228229401496703205439⟩,
  ⟨(some 24), .call { callee := .value (.func 32), args := #[.tmp 21, .tmp 23], argTypes := #[28, 28] }, none, 1267650600228229401496703205503⟩,
  ⟨(some 25), .call { callee := .value (.func 14), args := #[.tmp 19, .tmp 24], argTypes := #[24, 28] }, none, 1267650600228229401496703205631⟩,
  ⟨(some 6), .assign (.tmp 25), none, 1267650600228229401496703205887⟩]
def L5r3 : List AOp := [
  ⟨(some 26), .load 24 (.tmp 2), none, 0⟩,
  ⟨(some 27), .call { callee := .value (.func 33), args := #[.tmp 26], argTypes := #[24] }, none, 1⟩,
  ⟨(some 28), .load 24 (.tmp 2), none, 0⟩,
  ⟨(some 29), .call { callee := .value (.func 19), args := #[.tmp 28], argTypes := #[24] }, none, 1267650600228229401496703205383⟩,
  ⟨(some 30), .call { callee := .value (.func 32), args := #[.const (.slice none 0 0), .tmp 29], argTypes := #[28, 28] }, none, 1267650600228229401496703205391⟩,
  ⟨(some 31), .call { callee := .value (.func 14), args := #[.tmp 27, .tmp 30], argTypes := #[24, 28] }, none, 1267650600228229401496703205407⟩,
  ⟨(some 7), .assign (.tmp 31), none, 1267650600228229401496703205439⟩]
def L5r4 : List AOp := [
  ⟨(some 32), .call { callee := .value (.func 34), args := #[], argTypes := #[] }, none, 0⟩,
  ⟨(some 33), .move (.tmp 32), none, 0⟩,
  ⟨(some 34), .move (.tmp 5), (some (33, true)), 0⟩,
  ⟨(some 35), .pick (.tmp 33) (.tmp 34) (.const (.bool false)), none, 0⟩,
  ⟨(some 36), .move (.tmp 35), none, 0⟩,
  ⟨(some 37), .move (.tmp 6), (some (36, true)), 0⟩,
  ⟨(some 38), .pick (.tmp 36) (.tmp 37) (.const (.bool false)), none, 0⟩,
  ⟨(some 39), .move (.tmp 38), none, 0⟩,
  ⟨(some 40), .move (.tmp 7), (some (39, true)), 0⟩,
  ⟨(some 41), .pick (.tmp 39) (.tmp 40) (.const (.bool false)), none, 0⟩,
  ⟨(some 4), .assign (.tmp 41), none, 0⟩]
def L5 : LC := (.seq (.region L5r0) (.seq (.regionD L5r1) (.seq (.regionD L5r2) (.seq (.regionD L5r3) (.seq (.region L5r4) .ret)))))
theorem nt5 : Tryd.f5.ntmps = 42 := by kernel_rfl
theorem rs5 : Tryd.f5.results.toList = [.tmp 4] := by kernel_rfl
theorem lite5 : Tryd.f5.body.map (lite okDraw) = some L5 := by kernel_rfl
def L6r0 : List AOp := [
  ⟨(some 2), .assign (.const (.bool false)), none, 0⟩]
def L6r1 : List AOp := [
  ⟨(some 7), .move (.tmp 0), none, 0⟩,
  ⟨(some 8), .call { callee := .value (.func 35), args := #[.tmp 7], argTypes := #[38] }, none, 0⟩,
  ⟨(some 6), .move (.tmp 8), none, 0⟩,
  ⟨(some 9), .extract (.tmp 6) 0, none, 0⟩,
  ⟨(some 10), .extract (.tmp 6) 1, none, 0⟩,
  ⟨(some 3), .alloc 24, none, 0⟩,
  ⟨none, .store 24 (.tmp 3) (.tmp 9), none, 0⟩,
  ⟨(some 4), .assign (.tmp 10), none, 0⟩]
def L6r2 : List AOp := [
  ⟨(some 11), .move (.tmp 0), none, 0⟩,
  ⟨(some 12), .call { callee := .builtin .len, args := #[.tmp 11], argTypes := #[38] }, none, 0⟩,
  ⟨(some 13), .binOp .lss 3 (.tmp 12) (.const (.int .i64 48)) 3, none, 0⟩]
def L6r3 : List AOp := [
  ⟨(some 14), .call { callee := .value (.func 34), args := #[], argTypes := #[] }, none, 0⟩,
  ⟨(some 15), .move (.tmp 14), none, 0⟩,
  ⟨(some 16), .move (.tmp 4), (some (15, true)), 0⟩,
  ⟨(some 17), .makeInterface 43 (.const (.int .i64 6)), (some (15, true)), 0⟩,
  ⟨(some 18), .binOp .eql 40 (.tmp 16) (.tmp 17) 40, (some (15, true)), 0⟩,
  ⟨(some 19), .pick (.tmp 15) (.tmp 18) (.const (.bool false)), none, 0⟩,
  ⟨(some 20), .move (.tmp 19), none, 0⟩,
  ⟨(some 21), .load 24 (.tmp 3), (some (20, true)), 0⟩,
  ⟨(some 22), .build 24 #[], (some (20, true)), 0⟩,
  ⟨(some 23), .binOp .eql 24 (.tmp 21) (.tmp 22) 24, (some (20, true)), 0⟩,
  ⟨(some 24), .pick (.tmp 20) (.tmp 23) (.const (.bool false)), none, 0⟩,
  ⟨(some 2), .assign (.tmp 24), none, 0⟩]
def L6r4 : List AOp := [
  ⟨(some 25), .move (.tmp 0), none, 0⟩,
  ⟨(some 26), .call { callee := .builtin .len, args := #[.tmp 25], argTypes := #[38] }, none, 0⟩,
  ⟨(some 27), .binOp .gtr 3 (.tmp 26) (.const (.int .i64 48)) 3, none, 0⟩]
def L6r5 : List AOp := [
  ⟨(some 28), .call { callee := .value (.func 34), args := #[], argTypes := #[] }, none, 0⟩,
  ⟨(some 29), .move (.tmp 28), none, 0⟩,
  ⟨(some 30), .move (.tmp 4), (some (29, true)), 0⟩,
  ⟨(some 31), .makeInterface 43 (.const (.int .i64 8)), (some (29, true)), 0⟩,
  ⟨(some 32), .binOp .eql 40 (.tmp 30) (.tmp 31) 40, (some (29, true)), 0⟩,
  ⟨(some 33), .pick (.tmp 29) (.tmp 32) (.const (.bool false)), none, 0⟩,
  ⟨(some 34), .move (.tmp 33), none, 0⟩,
  ⟨(some 35), .load 24 (.tmp 3), (some (34, true)), 0⟩,
  ⟨(some 36), .build 24 #[], (some (34, true)), 0⟩,
  ⟨(some 37), .binOp .eql 24 (.tmp 35) (.tmp 36) 24, (some (34, true)), 0⟩,
  ⟨(some 38), .pick (.tmp 34) (.tmp 37) (.const (.bool false)), none, 0⟩,
  ⟨(some 2), .assign (.tmp 38), none, 0⟩]
def L6r6 : List AOp := [
  ⟨(some 39), .move (.tmp 0), none, 0⟩,
  ⟨(some 40), .call { callee := .value (.func 36), args := #[.tmp 39], argTypes := #[38] }, none, 0⟩,
  ⟨(some 5), .assign (.tmp 40), none, 0⟩]
def L6r7 : List AOp := [
  ⟨(some 41), .move (.tmp 5), none, 0⟩,
  ⟨(some 42), .call { callee := .value (.func 16), args := #[], argTypes := #[] }, none, 0⟩,
  ⟨(some 43), .call { callee := .value (.func 37), args := #[.tmp 41, .tmp 42], argTypes := #[28, 28] }, none, 0⟩,
  ⟨(some 44), .binOp .geq 3 (.tmp 43) (.const (.int .i64 0)) 3, none, 0⟩]
def L6r8 : List AOp := [
  ⟨(some 45), .call { callee := .value (.func 34), args := #[], argTypes := #[] }, none, 0⟩,
  ⟨(some 46), .move (.tmp 45), none, 0⟩,
  ⟨(some 47), .move (.tmp 4), (some (46, true)), 0⟩,
  ⟨(some 48), .makeInterface 43 (.const (.int .i64 3)), (some (46, true)), 0⟩,
  ⟨(some 49), .binOp .eql 40 (.tmp 47) (.tmp 48) 40, (some (46, true)), 0⟩,
  ⟨(some 50), .pick (.tmp 46) (.tmp 49) (.const (.bool false)), none, 0⟩,
  ⟨(some 51), .move (.tmp 50), none, 0⟩,
  ⟨(some 52), .load 24 (.tmp 3), (some (51, true)), 0⟩,
  ⟨(some 53), .build 24 #[], (some (51, true)), 0⟩,
  ⟨(some 54), .binOp .eql 24 (.tmp 52) (.tmp 53) 24, (some (51, true)), 0⟩,
  ⟨(some 55), .pick (.tmp 51) (.tmp 54) (.const (.bool false)), none, 0⟩,
  ⟨(some 2), .assign (.tmp 55), none, 0⟩]
def L6r9 : List AOp := [
  ⟨(some 56), .call { callee := .value (.func 34), args := #[], argTypes := #[] }, none, 0⟩,
  ⟨(some 57), .move (.tmp 56), none, 0⟩,
  ⟨(some 58), .move (.tmp 4), (some (57, true)), 0⟩,
  ⟨(some 59), .binOp .eql 40 (.tmp 58) (.const .nilIface) 40, (some (57, true)), 0⟩,
  ⟨(some 60), .pick (.tmp 57) (.tmp 59) (.const (.bool false)), none, 0⟩,
  ⟨(some 61), .move (.tmp 60), none, 0⟩,
  ⟨(some 62), .load 24 (.tmp 3), (some (61, true)), 0⟩,
  ⟨(some 63), .move (.tmp 5), (some (61, true)), 0⟩,
  ⟨(some 64), .call { callee := .value (.func 14), args := #[.tmp 62, .tmp 63], argTypes := #[24, 28] }, (some (61, true)), 0⟩,
  ⟨(some 65), .pick (.tmp 61) (.tmp 64) (.const (.bool false)), none, 0⟩,
  ⟨(some 2), .assign (.tmp 65), none, 0⟩]
def L6 : LC := (.seq (.region L6r0) (.seq (.region L6r1) (.seq (.seq (.region L6r2) (.cond (.tmp 13) (.seq (.region L6r3) .ret) .skip)) (.seq (.seq (.region L6r4) (.cond (.tmp 27) (.seq (.region L6r5) .ret) .skip)) (.seq (.region L6r6) (.seq (.seq (.region L6r7) (.cond (.tmp 44) (.seq (.region L6r8) .ret) .skip)) (.seq (.region L6r9) .ret)))))))
theorem nt6 : Tryd.f6.ntmps = 66 := by kernel_rfl
theorem rs6 : Tryd.f6.results.toList = [.tmp 2] := by kernel_rfl
theorem lite6 : Tryd.f6.body.map (lite okDraw) = some L6 := by kernel_rfl
def L7r0 : List AOp := [
  ⟨(some 2), .assign (.const (.bool false)), none, 0⟩]
def L7r1 : List AOp := [
  ⟨(some 10), .move (.tmp 0), none, 0⟩,
  ⟨(some 11), .call { callee := .value (.func 38), args := #[.tmp 10], argTypes := #[38] }, none, 0⟩,
  ⟨(some 9), .move (.tmp 11), none, 0⟩,
  ⟨(some 12), .extract (.tmp 9) 0, none, 0⟩,
  ⟨(some 13), .extract (.tmp 9) 1, none, 0⟩,
  ⟨(some 3), .alloc 24, none, 0⟩,
  ⟨none, .store 24 (.tmp 3) (.tmp 12), none, 0⟩,
  ⟨(some 4), .assign (.tmp 13), none, 0⟩]
def L7r2 : List AOp := [
  ⟨(some 15), .move (.tmp 0), none, 0⟩,
  ⟨(some 16), .call { callee := .value (.func 39), args := #[.tmp 15], argTypes := #[38] }, none, 0⟩,
  ⟨(some 14), .move (.tmp 16), none, 0⟩,
  ⟨(some 17), .extract (.tmp 14) 0, none, 0⟩,
  ⟨(some 18), .extract (.tmp 14) 1, none, 0⟩,
  ⟨(some 5), .alloc 24, none, 0⟩,
  ⟨none, .store 24 (.tmp 5) (.tmp 17), none, 0⟩,
  ⟨(some 6), .assign (.tmp 18), none, 0⟩]
def L7r3 : List AOp := [
  ⟨(some 19), .move (.tmp 0), none, 0⟩,
  ⟨(some 20), .call { callee := .builtin .len, args := #[.tmp 19], argTypes := #[38] }, none, 0⟩,
  ⟨(some 21), .binOp .lss 3 (.tmp 20) (.const (.int .i64 48)) 3, none, 0⟩]
def L7r4 : List AOp := [
  ⟨(some 22), .call { callee := .value (.func 28), args := #[], argTypes := #[] }, none, 0⟩,
  ⟨(some 23), .move (.tmp 22), none, 0⟩,
  ⟨(some 24), .move (.tmp 4), (some (23, true)), 0⟩,
  ⟨(some 25), .makeInterface 43 (.const (.int .i64 6)), (some (23, true)), 0⟩,
  ⟨(some 26), .binOp .eql 40 (.tmp 24) (.tmp 25) 40, (some (23, true)), 0⟩,
  ⟨(some 27), .pick (.tmp 23) (.tmp 26) (.const (.bool false)), none, 0⟩,
  ⟨(some 28), .move (.tmp 27), none, 0⟩,
  ⟨(some 29), .load 24 (.tmp 3), (some (28, true)), 0⟩,
  ⟨(some 30), .build 24 #[], (some (28, true)), 0⟩,
  ⟨(some 31), .binOp .eql 24 (.tmp 29) (.tmp 30) 24, (some (28, true)), 0⟩,
  ⟨(some 32), .pick (.tmp 28) (.tmp 31) (.const (.bool false)), none, 0⟩,
  ⟨(some 33), .move (.tmp 32), none, 0⟩,
  ⟨(some 34), .move (.tmp 6), (some (33, true)), 0⟩,
  ⟨(some 35), .makeInterface 43 (.const (.int .i64 6)), (some (33, true)), 0⟩,
  ⟨(some 36), .binOp .eql 40 (.tmp 34) (.tmp 35) 40, (some (33, true)), 0⟩,
  ⟨(some 37), .pick (.tmp 33) (.tmp 36) (.const (.bool false)), none, 0⟩,
  ⟨(some 38), .move (.tmp 37), none, 0⟩,
  ⟨(some 39), .load 24 (.tmp 5), (some (38, true)), 0⟩,
  ⟨(some 40), .build 24 #[], (some (38, true)), 0⟩,
  ⟨(some 41), .binOp .eql 24 (.tmp 39) (.tmp 40) 24, (some (38, true)), 0⟩,
  ⟨(some 42), .pick (.tmp 38) (.tmp 41) (.const (.bool false)), none, 0⟩,
  ⟨(some 2), .assign (.tmp 42), none, 0⟩]
def L7r5 : List AOp := [
  ⟨(some 43), .move (.tmp 0), none, 0⟩,
  ⟨(some 44), .call { callee := .builtin .len, args := #[.tmp 43], argTypes := #[38] }, none, 0⟩,
  ⟨(some 45), .binOp .gtr 3 (.tmp 44) (.const (.int .i64 48)) 3, none, 0⟩]
def L7r6 : List AOp := [
  ⟨(some 46), .call { callee := .value (.func 28), args := #[], argTypes := #[] }, none, 0⟩,
  ⟨(some 47), .move (.tmp 46), none, 0⟩,
  ⟨(some 48), .move (.tmp 4), (some (47, true)), 0⟩,
  ⟨(some 49), .makeInterface 43 (.const (.int .i64 8)), (some (47, true)), 0⟩,
  ⟨(some 50), .binOp .eql 40 (.tmp 48) (.tmp 49) 40, (some (47, true)), 0⟩,
  ⟨(some 51), .pick (.tmp 47) (.tmp 50) (.const (.bool false)), none, 0⟩,
  ⟨(some 52), .move (.tmp 51), none, 0⟩,
  ⟨(some 53), .load 24 (.tmp 3), (some (52, true)), 0⟩,
  ⟨(some 54), .build 24 #[], (some (52, true)), 0⟩,
  ⟨(some 55), .binOp .eql 24 (.tmp 53) (.tmp 54) 24, (some (52, true)), 0⟩,
  ⟨(some 56), .pick (.tmp 52) (.tmp 55) (.const (.bool false)), none, 0⟩,
  ⟨(some 57), .move (.tmp 56), none, 0⟩,
  ⟨(some 58), .move (.tmp 6), (some (57, true)), 0⟩,
  ⟨(some 59), .makeInterface 43 (.const (.int .i64 8)), (some (57, true)), 0⟩,
  ⟨(some 60), .binOp .eql 40 (.tmp 58) (.tmp 59) 40, (some (57, true)), 0⟩,
  ⟨(some 61), .pick (.tmp 57) (.tmp 60) (.const (.bool false)), none, 0⟩,
  ⟨(some 62), .move (.tmp 61), none, 0⟩,
  ⟨(some 63), .load 24 (.tmp 5), (some (62, true)), 0⟩,
  ⟨(some 64), .build 24 #[], (some (62, true)), 0⟩,
  ⟨(some 65), .binOp .eql 24 (.tmp 63) (.tmp 64) 24, (some (62, true)), 0⟩,
  ⟨(some 66), .pick (.tmp 62) (.tmp 65) (.const (.bool false)), none, 0⟩,
  ⟨(some 2), .assign (.tmp 66), none, 0⟩]
def L7r7 : List AOp := [
  ⟨(some 67), .move (.tmp 0), none, 0⟩,
  ⟨(some 68), .call { callee := .value (.func 36), args := #[.tmp 67], argTypes := #[38] }, none, 0⟩,
  ⟨(some 7), .assign (.tmp 68), none, 0⟩]
def L7r8 : List AOp := [
  ⟨(some 69), .load 24 (.tmp 5), none, 0⟩,
  ⟨(some 70), .move (.tmp 7), none, 0⟩,
  ⟨(some 71), .call { callee := .value (.func 24), args := #[.tmp 70], argTypes := #[28] }, none, 2⟩,
  ⟨(some 72), .call { callee := .value (.func 20), args := #[.tmp 69, .tmp 71], argTypes := #[24, 28] }, none, 1267650600228229401496703205383⟩,
  ⟨(some 8), .assign (.tmp 72), none, 1267650600228229401496703205391⟩]
def L7r9 : List AOp := [
  ⟨(some 73), .move (.tmp 6), none, 0⟩,
  ⟨(some 74), .binOp .neq 40 (.tmp 73) (.const .nilIface) 40, none, 0⟩,
  ⟨(some 75), .move (.tmp 74), none, 0⟩,
  ⟨(some 76), .move (.tmp 8), (some (75, false)), 0⟩,
  ⟨(some 77), .unOp .not 4 (.tmp 76), (some (75, false)), 0⟩,
  ⟨(some 78), .pick (.tmp 75) (.const (.bool true)) (.tmp 77), none, 0⟩]
def L7r10 : List AOp := [
  ⟨(some 2), .assign (.const (.bool false)), none, 0⟩]
def L7r11 : List AOp := [
  ⟨(some 79), .move (.tmp 7), none, 0⟩,
  ⟨(some 80), .call { callee := .builtin .len, args := #[.tmp 79], argTypes := #[28] }, none, 0⟩,
  ⟨(some 81), .binOp .eql 3 (.tmp 80) (.const (.int .i64 0)) 3, none, 0⟩,
  ⟨(some 82), .move (.tmp 81), none, 0⟩,
  ⟨(some 83), .move (.tmp 7), (some (82, false)), 0⟩,
  ⟨(some 84), .call { callee := .value (.func 22), args := #[], argTypes := #[] }, (some (82, false)), 0⟩,
  ⟨(some 85), .call { callee := .value (.func 37), args := #[.tmp 83, .tmp 84], argTypes := #[28, 28] }, (some (82, false)), 0⟩,
  ⟨(some 86), .binOp .geq 3 (.tmp 85) (.const (.int .i64 0)) 3, (some (82, false)), 0⟩,
  ⟨(some 87), .pick (.tmp 82) (.const (.bool true)) (.tmp 86), none, 0⟩]
def L7r12 : List AOp := [
  ⟨(some 88), .call { callee := .value (.func 28), args := #[], argTypes := #[] }, none, 0⟩,
  ⟨(some 89), .move (.tmp 88), none, 0⟩,
  ⟨(some 90), .move (.tmp 4), (some (89, true)), 0⟩,
  ⟨(some 91), .makeInterface 43 (.const (.int .i64 3)), (some (89, true)), 0⟩,
  ⟨(some 92), .binOp .eql 40 (.tmp 90) (.tmp 91) 40, (some (89, true)), 0⟩,
  ⟨(some 93), .pick (.tmp 89) (.tmp 92) (.const (.bool false)), none, 0⟩,
  ⟨(some 94), .move (.tmp 93), none, 0⟩,
  ⟨(some 95), .load 24 (.tmp 3), (some (94, true)), 0⟩,
  ⟨(some 96), .build 24 #[], (some (94, true)), 0⟩,
  ⟨(some 97), .binOp .eql 24 (.tmp 95) (.tmp 96) 24, (some (94, true)), 0⟩,
  ⟨(some 98), .pick (.tmp 94) (.tmp 97) (.const (.bool false)), none, 0⟩,
  ⟨(some 2), .assign (.tmp 98), none, 0⟩]
def L7r13 : List AOp := [
  ⟨(some 99), .call { callee := .value (.func 28), args := #[], argTypes := #[] }, none, 0⟩,
  ⟨(some 100), .move (.tmp 99), none, 0⟩,
  ⟨(some 101), .move (.tmp 4), (some (100, true)), 0⟩,
  ⟨(some 102), .binOp .eql 40 (.tmp 101) (.const .nilIface) 40, (some (100, true)), 0⟩,
  ⟨(some 103), .pick (.tmp 100) (.tmp 102) (.const (.bool false)), none, 0⟩,
  ⟨(some 104), .move (.tmp 103), none, 0⟩,
  ⟨(some 105), .load 24 (.tmp 3), (some (104, true)), 0⟩,
  ⟨(some 106), .move (.tmp 7), (some (104, true)), 0⟩,
  ⟨(some 107), .call { callee := .value (.func 20), args := #[.tmp 105, .tmp 106], argTypes := #[24, 28] }, (some (104, true)), 0⟩,
  ⟨(some 108), .pick (.tmp 104) (.tmp 107) (.const (.bool false)), none, 0⟩,
  ⟨(some 2), .assign (.tmp 108), none, 0⟩]
def L7 : LC := (.seq (.region L7r0) (.seq (.region L7r1) (.seq (.region L7r2) (.seq (.seq (.region L7r3) (.cond (.tmp 21) (.seq (.region L7r4) .ret) .skip)) (.seq (.seq (.region L7r5) (.cond (.tmp 45) (.seq (.region L7r6) .ret) .skip)) (.seq (.region L7r7) (.seq (.regionD L7r8) (.seq (.seq (.region L7r9) (.cond (.tmp 78) (.seq (.region L7r10) .ret) .skip)) (.seq (.seq (.region L7r11) (.cond (.tmp 87) (.seq (.region L7r12) .ret) .skip)) (.seq (.region L7r13) .ret))))))))))
theorem nt7 : Tryd.f7.ntmps = 109 := by kernel_rfl
theorem rs7 : Tryd.f7.results.toList = [.tmp 2] := by kernel_rfl
theorem lite7 : Tryd.f7.body.map (lite okDraw) = some L7 := by kernel_rfl
def L8r0 : List AOp := [
  ⟨(some 2), .box 24 (.tmp 0), none, 0⟩,
  ⟨(some 3), .box 24 (.tmp 1), none, 0⟩,
  ⟨(some 4), .assign (.const (.bool false)), none, 0⟩]
def L8r1 : List AOp := [
  ⟨(some 5), .call { callee := .value (.func 34), args := #[], argTypes := #[] }, none, 1267650600228229401496703205376⟩,
  ⟨(some 6), .move (.tmp 5), none, 1267650600228229401496703205377⟩,
  ⟨(some 7), .load 24 (.tmp 2), (some (6, true)), 3⟩,
  ⟨(some 8), .load 24 (.tmp 3), (some (6, true)), 3⟩,
  ⟨(some 9), .call { callee := .value (.func 40), args := #[.tmp 7, .tmp 8], argTypes := #[24, 24] }, (some (6, true)), 15⟩,
  ⟨(some 10), .load 24 (.tmp 2), (some (6, true)), 3⟩,
  ⟨(some 11), .call { callee := .value (.func 19), args := #[.tmp 10], argTypes := #[24] }, (some (6, true)), 63⟩,
  ⟨(some 12), .load 24 (.tmp 3), (some (6, true)), 3⟩,
  ⟨(some 13), .call { callee := .value (.func 19), args := #[.tmp 12], argTypes := #[24] }, (some (6, true)), 1267650600228229401496703205631⟩,
  ⟨(some 14), .call { callee := .value (.func 41), args := #[.tmp 11, .tmp 13], argTypes := #[28, 28] }, (some (6, true)), 1267650600228229401496703205887⟩,
  ⟨(some 15), .call { callee := .value (.func 14), args := #[.tmp 9, .tmp 14], argTypes := #[24, 28] }, (some (6, true)), 1267650600228229401496703206399⟩,
  ⟨(some 16), .pick (.tmp 6) (.tmp 15) (.const (.bool false)), none, 1267650600228229401496703207423⟩,
  ⟨(some 4), .assign (.tmp 16), none, 1267650600228229401496703209471⟩]
def L8 : LC := (.seq (.region L8r0) (.seq (.regionD L8r1) .ret))
theorem nt8 : Tryd.f8.ntmps = 17 := by kernel_rfl
theorem rs8 : Tryd.f8.results.toList = [.tmp 4] := by kernel_rfl
theorem lite8 : Tryd.f8.body.map (lite okDraw) = some L8 := by kernel_rfl
def L9r0 : List AOp := [
  ⟨(some 2), .box 24 (.tmp 0), none, 0⟩,
  ⟨(some 3), .box 24 (.tmp 1), none, 0⟩,
  ⟨(some 4), .assign (.const (.bool false)), none, 0⟩]
def L9r1 : List AOp := [
  ⟨(some 5), .call { callee := .value (.func 28), args := #[], argTypes := #[] }, none, 1267650600228229401496703205376⟩,
  ⟨(some 6), .move (.tmp 5), none, 1267650600228229401496703205377⟩,
  ⟨(some 7), .load 24 (.tmp 2), (some (6, true)), 3⟩,
  ⟨(some 8), .load 24 (.tmp 3), (some (6, true)), 3⟩,
  ⟨(some 9), .call { callee := .value (.func 42), args := #[.tmp 7, .tmp 8], argTypes := #[24, 24] }, (some (6, true)), 15⟩,
  ⟨(some 10), .load 24 (.tmp 2), (some (6, true)), 3⟩,
  ⟨(some 11), .call { callee := .value (.func 25), args := #[.tmp 10], argTypes := #[24] }, (some (6, true)), 63⟩,
  ⟨(some 12), .load 24 (.tmp 3), (some (6, true)), 3⟩,
  ⟨(some 13), .call { callee := .value (.func 25), args := #[.tmp 12], argTypes := #[24] }, (some (6, true)), 1267650600228229401496703205631⟩,
  ⟨(some 14), .call { callee := .value (.func 43), args := #[.tmp 11, .tmp 13], argTypes := #[28, 28] }, (some (6, true)), 1267650600228229401496703205887⟩,
  ⟨(some 15), .call { callee := .value (.func 20), args := #[.tmp 9, .tmp 14], argTypes := #[24, 28] }, (some (6, true)), 1267650600228229401496703206399⟩,
  ⟨(some 16), .pick (.tmp 6) (.tmp 15) (.const (.bool false)), none, 1267650600228229401496703207423⟩,
  ⟨(some 4), .assign (.tmp 16), none, 1267650600228229401496703209471⟩]
def L9 : LC := (.seq (.region L9r0) (.seq (.regionD L9r1) .ret))
theorem nt9 : Tryd.f9.ntmps = 17 := by kernel_rfl
theorem rs9 : Tryd.f9.results.toList = [.tmp 4] := by kernel_rfl
theorem lite9 : Tryd.f9.body.map (lite okDraw) = some L9 := by kernel_rfl
def L10r0 : List AOp := [
  ⟨(some 3), .box 24 (.tmp 0), none, 0⟩,
  ⟨(some 4), .box 24 (.tmp 1), none, 0⟩,
  ⟨(some 5), .box 24 (.tmp 2), none, 0⟩,
  ⟨(some 6), .assign (.const (.bool false)), none, 0⟩]
def L10r1 : List AOp := [
  ⟨(some 12), .load 24 (.tmp 3), none, 0⟩,
  ⟨(some 13), .load 24 (.tmp 4), none, 0⟩,
  ⟨(some 14), .call { callee := .value (.func 29), args := #[.tmp 12, .tmp 13], argTypes := #[24, 24] }, none, 3⟩,
  ⟨(some 15), .load 24 (.tmp 4), none, 0⟩,
  ⟨(some 16), .load 24 (.tmp 3), none, 0⟩,
  ⟨(some 17), .call { callee := .value (.func 29), args := #[.tmp 15, .tmp 16], argTypes := #[24, 24] }, none, 1267650600228229401496703205407⟩,
  ⟨(some 18), .binOp .eql 24 (.tmp 14) (.tmp 17) 24, none, 1267650600228229401496703205439⟩,
  ⟨(some 19), .move (.tmp 18), none, 1267650600228229401496703205503⟩,
  ⟨(some 20), .load 24 (.tmp 3), (some (19, true)), 255⟩,
  ⟨(some 21), .load 24 (.tmp 4), (some (19, true)), 255⟩,
  ⟨(some 22), .call { callee := .value (.func 40), args := #[.tmp 20, .tmp 21], argTypes := #[24, 24] }, (some (19, true)), 1023⟩,
  ⟨(some 23), .load 24 (.tmp 4), (some (19, true)), 255⟩,
  ⟨(some 24), .load 24 (.tmp 3), (some (19, true)), 255⟩,
  ⟨(some 25), .call { callee := .value (.func 40), args := #[.tmp 23, .tmp 24], argTypes := #[24, 24] }, (some (19, true)), 1267650600228229401496703213567⟩,
  ⟨(some 26), .binOp .eql 24 (.tmp 22) (.tmp 25) 24, (some (19, true)), 1267650600228229401496703221759⟩,
  ⟨(some 27), .pick (.tmp 19) (.tmp 26) (.const (.bool false)), none, 1267650600228229401496703238143⟩,
  ⟨(some 7), .assign (.tmp 27), none, 1267650600228229401496703270911⟩]
def L10r2 : List AOp := [
  ⟨(some 28), .load 24 (.tmp 3), none, 0⟩,
  ⟨(some 29), .load 24 (.tmp 4), none, 0⟩,
  ⟨(some 30), .call { callee := .value (.func 29), args := #[.tmp 28, .tmp 29], argTypes := #[24, 24] }, none, 3⟩,
  ⟨(some 31), .load 24 (.tmp 5), none, 0⟩,
  ⟨(some 32), .call { callee := .value (.func 29), args := #[.tmp 30, .tmp 31], argTypes := #[24, 24] }, none, 15⟩,
  ⟨(some 33), .load 24 (.tmp 3), none, 0⟩,
  ⟨(some 34), .load 24 (.tmp 4), none, 0⟩,
  ⟨(some 35), .load 24 (.tmp 5), none, 0⟩,
  ⟨(some 36), .call { callee := .value (.func 29), args := #[.tmp 34, .tmp 35], argTypes := #[24, 24] }, none, 223⟩,
  ⟨(some 37), .call { callee := .value (.func 29), args := #[.tmp 33, .tmp 36], argTypes := #[24, 24] }, none, 1267650600228229401496703205887⟩,
  ⟨(some 38), .binOp .eql 24 (.tmp 32) (.tmp 37) 24, none, 1267650600228229401496703206399⟩,
  ⟨(some 8), .assign (.tmp 38), none, 1267650600228229401496703207423⟩]
def L10r3 : List AOp := [
  ⟨(some 39), .load 24 (.tmp 3), none, 0⟩,
  ⟨(some 40), .load 24 (.tmp 4), none, 0⟩,
  ⟨(some 41), .call { callee := .value (.func 40), args := #[.tmp 39, .tmp 40], argTypes := #[24, 24] }, none, 3⟩,
  ⟨(some 42), .load 24 (.tmp 5), none, 0⟩,
  ⟨(some 43), .call { callee := .value (.func 40), args := #[.tmp 41, .tmp 42], argTypes := #[24, 24] }, none, 15⟩,
  ⟨(some 44), .load 24 (.tmp 3), none, 0⟩,
  ⟨(some 45), .load 24 (.tmp 4), none, 0⟩,
  ⟨(some 46), .load 24 (.tmp 5), none, 0⟩,
  ⟨(some 47), .call { callee := .value (.func 40), args := #[.tmp 45, .tmp 46], argTypes := #[24, 24] }, none, 223⟩,
  ⟨(some 48), .call { callee := .value (.func 40), args := #[.tmp 44, .tmp 47], argTypes := #[24, 24] }, none, 1267650600228229401496703205887⟩,
  ⟨(some 49), .binOp .eql 24 (.tmp 43) (.tmp 48) 24, none, 1267650600228229401496703206399⟩,
  ⟨(some 9), .assign (.tmp 49), none, 1267650600228229401496703207423⟩]
def L10r4 : List AOp := [
  ⟨(some 50), .load 24 (.tmp 3), none, 0⟩,
  ⟨(some 51), .load 24 (.tmp 4), none, 0⟩,
  ⟨(some 52), .load 24 (.tmp 5), none, 0⟩,
  ⟨(some 53), .call { callee := .value (.func 29), args := #[.tmp 51, .tmp 52], argTypes := #[24, 24] }, none, 6⟩,
  ⟨(some 54), .call { callee := .value (.func 40), args := #[.tmp 50, .tmp 53], argTypes := #[24, 24] }, none, 15⟩,
  ⟨(some 55), .load 24 (.tmp 3), none, 0⟩,
  ⟨(some 56), .load 24 (.tmp 4), none, 0⟩,
  ⟨(some 57), .call { callee := .value (.func 40), args := #[.tmp 55, .tmp 56], argTypes := #[24, 24] }, none, 127⟩,
  ⟨(some 58), .load 24 (.tmp 3), none, 0⟩,
  ⟨(some 59), .load 24 (.tmp 5), none, 0⟩,
  ⟨(some 60), .call { callee := .value (.func 40), args := #[.tmp 58, .tmp 59], argTypes := #[24, 24] }, none, 1267650600228229401496703206399⟩,
  ⟨(some 61), .call { callee := .value (.func 29), args := #[.tmp 57, .tmp 60], argTypes := #[24, 24] }, none, 1267650600228229401496703207423⟩,
  ⟨(some 62), .binOp .eql 24 (.tmp 54) (.tmp 61) 24, none, 1267650600228229401496703209471⟩,
  ⟨(some 10), .assign (.tmp 62), none, 1267650600228229401496703213567⟩]
def L10r5 : List AOp := [
  ⟨(some 63), .load 24 (.tmp 3), none, 0⟩,
  ⟨(some 64), .load 24 (.tmp 4), none, 0⟩,
  ⟨(some 65), .call { callee := .value (.func 31), args := #[.tmp 63, .tmp 64], argTypes := #[24, 24] }, none, 3⟩,
  ⟨(some 66), .load 24 (.tmp 4), none, 0⟩,
  ⟨(some 67), .call { callee := .value (.func 29), args := #[.tmp 65, .tmp 66], argTypes := #[24, 24] }, none, 15⟩,
  ⟨(some 68), .load 24 (.tmp 3), none, 0⟩,
  ⟨(some 69), .call { callee := .value (.func 17), args := #[.tmp 68], argTypes := #[24] }, none, 1267650600228229401496703205439⟩,
  ⟨(some 70), .binOp .eql 24 (.tmp 67) (.tmp 69) 24, none, 1267650600228229401496703205503⟩,
  ⟨(some 71), .move (.tmp 70), none, 1267650600228229401496703205631⟩,
  ⟨(some 72), .load 24 (.tmp 3), (some (71, true)), 511⟩,
  ⟨(some 73), .load 24 (.tmp 3), (some (71, true)), 511⟩,
  ⟨(some 74), .call { callee := .value (.func 33), args := #[.tmp 73], argTypes := #[24] }, (some (71, true)), 1535⟩,
  ⟨(some 75), .call { callee := .value (.func 29), args := #[.tmp 72, .tmp 74], argTypes := #[24, 24] }, (some (71, true)), 4095⟩,
  ⟨(some 76), .build 24 #[], (some (71, true)), 511⟩,
  ⟨(some 77), .binOp .eql 24 (.tmp 75) (.tmp 76) 24, (some (71, true)), 1267650600228229401496703221759⟩,
  ⟨(some 78), .pick (.tmp 71) (.tmp 77) (.const (.bool false)), none, 1267650600228229401496703238143⟩,
  ⟨(some 11), .assign (.tmp 78), none, 1267650600228229401496703270911⟩]
def L10r6 : List AOp := [
  ⟨(some 79), .call { callee := .value (.func 34), args := #[], argTypes := #[] }, none, 0⟩,
  ⟨(some 80), .move (.tmp 79), none, 0⟩,
  ⟨(some 81), .move (.tmp 7), (some (80, true)), 0⟩,
  ⟨(some 82), .pick (.tmp 80) (.tmp 81) (.const (.bool false)), none, 0⟩,
  ⟨(some 83), .move (.tmp 82), none, 0⟩,
  ⟨(some 84), .move (.tmp 8), (some (83, true)), 0⟩,
  ⟨(some 85), .pick (.tmp 83) (.tmp 84) (.const (.bool false)), none, 0⟩,
  ⟨(some 86), .move (.tmp 85), none, 0⟩,
  ⟨(some 87), .move (.tmp 9), (some (86, true)), 0⟩,
  ⟨(some 88), .pick (.tmp 86) (.tmp 87) (.const (.bool false)), none, 0⟩,
  ⟨(some 89), .move (.tmp 88), none, 0⟩,
  ⟨(some 90), .move (.tmp 10), (some (89, true)), 0⟩,
  ⟨(some 91), .pick (.tmp 89) (.tmp 90) (.const (.bool false)), none, 0⟩,
  ⟨(some 92), .move (.tmp 91), none, 0⟩,
  ⟨(some 93), .move (.tmp 11), (some (92, true)), 0⟩,
  ⟨(some 94), .pick (.tmp 92) (.tmp 93) (.const (.bool false)), none, 0⟩,
  ⟨(some 6), .assign (.tmp 94), none, 0⟩]
def L10 : LC := (.seq (.region L10r0) (.seq (.regionD L10r1) (.seq (.regionD L10r2) (.seq (.regionD L10r3) (.seq (.regionD L10r4) (.seq (.regionD L10r5) (.seq (.region L10r6) .ret)))))))
theorem nt10 : Tryd.f10.ntmps = 95 := by kernel_rfl
theorem rs10 : Tryd.f10.results.toList = [.tmp 6] := by kernel_rfl
theorem lite10 : Tryd.f10.body.map (lite okDraw) = some L10 := by kernel_rfl
def L11r0 : List AOp := [
  ⟨(some 1), .box 24 (.tmp 0), none, 0⟩,
  ⟨(some 2), .assign (.const (.bool false)), none, 0⟩]
def L11r1 : List AOp := [
  ⟨(some 6), .load 24 (.tmp 1), none, 0⟩,
  ⟨(some 7), .call { callee := .value (.func 44), args := #[.tmp 6], argTypes := #[24] }, none, 0⟩,
  ⟨(some 3), .alloc 24, none, 0⟩,
  ⟨none, .store 24 (.tmp 3) (.tmp 7), none, 0⟩]
def L11r2 : List AOp := [
  ⟨(some 8), .load 24 (.tmp 1), none, 0⟩,
  ⟨(some 9), .load 24 (.tmp 3), none, 0⟩,
  ⟨(some 10), .call { callee := .value (.func 40), args := #[.tmp 8, .tmp 9], argTypes := #[24, 24] }, none, 0⟩,
  ⟨(some 4), .alloc 24, none, 0⟩,
  ⟨none, .store 24 (.tmp 4) (.tmp 10), none, 0⟩]
def L11r3 : List AOp := [
  ⟨(some 11), .load 24 (.tmp 1), none, 0⟩,
  ⟨(some 12), .call { callee := .value (.func 17), args := #[.tmp 11], argTypes := #[24] }, none, 0⟩,
  ⟨(some 13), .build 24 #[], none, 0⟩,
  ⟨(some 14), .binOp .eql 24 (.tmp 12) (.tmp 13) 24, none, 0⟩,
  ⟨(some 5), .assign (.tmp 14), none, 0⟩]
def L11r4 : List AOp := [
  ⟨(some 15), .move (.tmp 5), none, 0⟩]
def L11r5 : List AOp := [
  ⟨(some 16), .call { callee := .value (.func 34), args := #[], argTypes := #[] }, none, 0⟩,
  ⟨(some 17), .move (.tmp 16), none, 0⟩,
  ⟨(some 18), .load 24 (.tmp 3), (some (17, true)), 0⟩,
  ⟨(some 19), .build 24 #[], (some (17, true)), 0⟩,
  ⟨(some 20), .binOp .eql 24 (.tmp 18) (.tmp 19) 24, (some (17, true)), 0⟩,
  ⟨(some 21), .pick (.tmp 17) (.tmp 20) (.const (.bool false)), none, 0⟩,
  ⟨(some 2), .assign (.tmp 21), none, 0⟩]
def L11r6 : List AOp := [
  ⟨(some 22), .call { callee := .value (.func 34), args := #[], argTypes := #[] }, none, 0⟩,
  ⟨(some 23), .move (.tmp 22), none, 0⟩,
  ⟨(some 24), .load 24 (.tmp 4), (some (23, true)), 0⟩,
  ⟨(some 25), .build 24 #[(0, .const (.int .u64 1))], (some (23, true)), 0⟩,
  ⟨(some 26), .binOp .eql 24 (.tmp 24) (.tmp 25) 24, (some (23, true)), 0⟩,
  ⟨(some 27), .pick (.tmp 23) (.tmp 26) (.const (.bool false)), none, 0⟩,
  ⟨(some 28), .move (.tmp 27), none, 0⟩,
  ⟨(some 29), .load 24 (.tmp 3), (some (28, true)), 0⟩,
  ⟨(some 30), .call { callee := .value (.func 19), args := #[.tmp 29], argTypes := #[24] }, (some (28, true)), 0⟩,
  ⟨(some 31), .call { callee := .value (.func 16), args := #[], argTypes := #[] }, (some (28, true)), 0⟩,
  ⟨(some 32), .call { callee := .value (.func 37), args := #[.tmp 30, .tmp 31], argTypes := #[28, 28] }, (some (28, true)), 0⟩,
  ⟨(some 33), .binOp .lss 3 (.tmp 32) (.const (.int .i64 0)) 3, (some (28, true)), 0⟩,
  ⟨(some 34), .pick (.tmp 28) (.tmp 33) (.const (.bool false)), none, 0⟩,
  ⟨(some 2), .assign (.tmp 34), none, 0⟩]
def L11 : LC := (.seq (.region L11r0) (.seq (.region L11r1) (.seq (.region L11r2) (.seq (.region L11r3) (.seq (.seq (.region L11r4) (.cond (.tmp 15) (.seq (.region L11r5) .ret) .skip)) (.seq (.region L11r6) .ret))))))
theorem nt11 : Tryd.f11.ntmps = 35 := by kernel_rfl
theorem rs11 : Tryd.f11.results.toList = [.tmp 2] := by kernel_rfl
theorem lite11 : Tryd.f11.body.map (lite okDraw) = some L11 := by kernel_rfl
def L12r0 : List AOp := [
  ⟨(some 2), .box 24 (.tmp 0), none, 0⟩,
  ⟨(some 3), .box 24 (.tmp 1), none, 0⟩,
  ⟨(some 4), .assign (.const (.bool false)), none, 0⟩]
def L12r1 : List AOp := [
  ⟨(some 7), .load 24 (.tmp 2), none, 0⟩,
  ⟨(some 8), .call { callee := .value (.func 45), args := #[.tmp 7], argTypes := #[24] }, none, 0⟩,
  ⟨(some 5), .alloc 24, none, 0⟩,
  ⟨none, .store 24 (.tmp 5) (.tmp 8), none, 0⟩]
def L12r2 : List AOp := [
  ⟨(some 9), .load 24 (.tmp 2), none, 0⟩,
  ⟨(some 10), .call { callee := .value (.func 23), args := #[.tmp 9], argTypes := #[24] }, none, 0⟩,
  ⟨(some 11), .build 24 #[], none, 0⟩,
  ⟨(some 12), .binOp .eql 24 (.tmp 10) (.tmp 11) 24, none, 0⟩]
def L12r3 : List AOp := [
  ⟨(some 13), .call { callee := .value (.func 28), args := #[], argTypes := #[] }, none, 0⟩,
  ⟨(some 14), .move (.tmp 13), none, 0⟩,
  ⟨(some 15), .load 24 (.tmp 5), (some (14, true)), 0⟩,
  ⟨(some 16), .build 24 #[], (some (14, true)), 0⟩,
  ⟨(some 17), .binOp .eql 24 (.tmp 15) (.tmp 16) 24, (some (14, true)), 0⟩,
  ⟨(some 18), .pick (.tmp 14) (.tmp 17) (.const (.bool false)), none, 0⟩,
  ⟨(some 4), .assign (.tmp 18), none, 0⟩]
def L12r4 : List AOp := [
  ⟨(some 19), .load 24 (.tmp 2), none, 0⟩,
  ⟨(some 20), .load 24 (.tmp 5), none, 0⟩,
  ⟨(some 21), .call { callee := .value (.func 42), args := #[.tmp 19, .tmp 20], argTypes := #[24, 24] }, none, 0⟩,
  ⟨(some 22), .build 24 #[(0, .const (.int .u64 1))], none, 0⟩,
  ⟨(some 23), .binOp .eql 24 (.tmp 21) (.tmp 22) 24, none, 0⟩,
  ⟨(some 24), .move (.tmp 23), none, 0⟩,
  ⟨(some 25), .load 24 (.tmp 5), (some (24, true)), 0⟩,
  ⟨(some 26), .call { callee := .value (.func 25), args := #[.tmp 25], argTypes := #[24] }, (some (24, true)), 0⟩,
  ⟨(some 27), .call { callee := .value (.func 22), args := #[], argTypes := #[] }, (some (24, true)), 0⟩,
  ⟨(some 28), .call { callee := .value (.func 37), args := #[.tmp 26, .tmp 27], argTypes := #[28, 28] }, (some (24, true)), 0⟩,
  ⟨(some 29), .binOp .lss 3 (.tmp 28) (.const (.int .i64 0)) 3, (some (24, true)), 0⟩,
  ⟨(some 30), .pick (.tmp 24) (.tmp 29) (.const (.bool false)), none, 0⟩,
  ⟨(some 6), .assign (.tmp 30), none, 0⟩]
def L12r5 : List AOp := [
  ⟨(some 31), .call { callee := .value (.func 28), args := #[], argTypes := #[] }, none, 1267650600228229401496703205376⟩,
  ⟨(some 32), .move (.tmp 31), none, 1267650600228229401496703205377⟩,
  ⟨(some 33), .move (.tmp 6), (some (32, true)), 1267650600228229401496703205379⟩,
  ⟨(some 34), .pick (.tmp 32) (.tmp 33) (.const (.bool false)), none, 1267650600228229401496703205383⟩,
  ⟨(some 35), .move (.tmp 34), none, 1267650600228229401496703205391⟩,
  ⟨(some 36), .load 24 (.tmp 2), (some (35, true)), 31⟩,
  ⟨(some 37), .load 24 (.tmp 3), (some (35, true)), 31⟩,
  ⟨(some 38), .call { callee := .value (.func 42), args := #[.tmp 36, .tmp 37], argTypes := #[24, 24] }, (some (35, true)), 127⟩,
  ⟨(some 39), .call { callee := .value (.func 45), args := #[.tmp 38], argTypes := #[24] }, (some (35, true)), 255⟩,
  ⟨(some 40), .load 24 (.tmp 5), (some (35, true)), 31⟩,
  ⟨(some 41), .load 24 (.tmp 3), (some (35, true)), 31⟩,
  ⟨(some 42), .call { callee := .value (.func 45), args := #[.tmp 41], argTypes := #[24] }, (some (35, true)), 1535⟩,
  ⟨(some 43), .call { callee := .value (.func 42), args := #[.tmp 40, .tmp 42], argTypes := #[24, 24] }, (some (35, true)), 1267650600228229401496703209471⟩,
  ⟨(some 44), .binOp .eql 24 (.tmp 39) (.tmp 43) 24, (some (35, true)), 1267650600228229401496703213567⟩,
  ⟨(some 45), .pick (.tmp 35) (.tmp 44) (.const (.bool false)), none, 1267650600228229401496703221759⟩,
  ⟨(some 4), .assign (.tmp 45), none, 1267650600228229401496703238143⟩]
def L12 : LC := (.seq (.region L12r0) (.seq (.region L12r1) (.seq (.seq (.region L12r2) (.cond (.tmp 12) (.seq (.region L12r3) .ret) .skip)) (.seq (.region L12r4) (.seq (.regionD L12r5) .ret)))))
theorem nt12 : Tryd.f12.ntmps = 46 := by kernel_rfl
theorem rs12 : Tryd.f12.results.toList = [.tmp 4] := by kernel_rfl
theorem lite12 : Tryd.f12.body.map (lite okDraw) = some L12 := by kernel_rfl
def L13r0 : List AOp := [
  ⟨(some 1), .box 24 (.tmp 0), none, 0⟩,
  ⟨(some 2), .assign (.const (.bool false)), none, 0⟩]
def L13r1 : List AOp := [
  ⟨(some 9), .load 24 (.tmp 1), none, 0⟩,
  ⟨(some 10), .call { callee := .value (.func 46), args := #[.tmp 9], argTypes := #[24] }, none, 0⟩,
  ⟨(some 8), .move (.tmp 10), none, 0⟩,
  ⟨(some 11), .extract (.tmp 8) 0, none, 0⟩,
  ⟨(some 12), .extract (.tmp 8) 1, none, 0⟩,
  ⟨(some 3), .alloc 24, none, 0⟩,
  ⟨none, .store 24 (.tmp 3) (.tmp 11), none, 0⟩,
  ⟨(some 4), .assign (.tmp 12), none, 0⟩]
def L13r2 : List AOp := [
  ⟨(some 13), .load 24 (.tmp 1), none, 0⟩,
  ⟨(some 14), .call { callee := .value (.func 19), args := #[.tmp 13], argTypes := #[24] }, none, 0⟩,
  ⟨(some 15), .call { callee := .value (.func 47), args := #[.tmp 14], argTypes := #[28] }, none, 0⟩,
  ⟨(some 5), .assign (.tmp 15), none, 0⟩]
def L13r3 : List AOp := [
  ⟨(some 16), .move (.tmp 5), none, 0⟩,
  ⟨(some 17), .unOp .not 4 (.tmp 16), none, 0⟩]
def L13r4 : List AOp := [
  ⟨(some 18), .move (.tmp 4), none, 0⟩,
  ⟨(some 19), .makeInterface 43 (.const (.int .i64 17)), none, 0⟩,
  ⟨(some 20), .binOp .neq 40 (.tmp 18) (.tmp 19) 40, none, 0⟩,
  ⟨(some 21), .move (.tmp 20), none, 0⟩,
  ⟨(some 22), .load 24 (.tmp 3), (some (21, false)), 0⟩,
  ⟨(some 23), .build 24 #[], (some (21, false)), 0⟩,
  ⟨(some 24), .binOp .neq 24 (.tmp 22) (.tmp 23) 24, (some (21, false)), 0⟩,
  ⟨(some 25), .pick (.tmp 21) (.const (.bool true)) (.tmp 24), none, 0⟩]
def L13r5 : List AOp := [
  ⟨(some 2), .assign (.const (.bool false)), none, 0⟩]
def L13r6 : List AOp := [
  ⟨(some 26), .move (.tmp 4), none, 1267650600228229401496703205376⟩,
  ⟨(some 27), .binOp .neq 40 (.tmp 26) (.const .nilIface) 40, none, 1267650600228229401496703205377⟩,
  ⟨(some 28), .move (.tmp 27), none, 1267650600228229401496703205379⟩,
  ⟨(some 29), .indexAddr 24 (.tmp 3) (.const (.int .i64 0)), (some (28, false)), 1267650600228229401496703205383⟩,
  ⟨(some 30), .load 22 (.tmp 29), (some (28, false)), 1267650600228229401496703205391⟩,
  ⟨(some 31), .binOp .rem 22 (.tmp 30) (.const (.int .u64 2)) 22, (some (28, false)), 1267650600228229401496703205407⟩,
  ⟨(some 32), .binOp .neq 22 (.tmp 31) (.const (.int .u64 0)) 22, (some (28, false)), 1267650600228229401496703205439⟩,
  ⟨(some 33), .pick (.tmp 28) (.const (.bool true)) (.tmp 32), none, 1267650600228229401496703205503⟩,
  ⟨(some 34), .move (.tmp 33), none, 1267650600228229401496703205631⟩,
  ⟨(some 35), .load 24 (.tmp 3), (some (34, false)), 511⟩,
  ⟨(some 36), .load 24 (.tmp 3), (some (34, false)), 511⟩,
  ⟨(some 37), .call { callee := .value (.func 40), args := #[.tmp 35, .tmp 36], argTypes := #[24, 24] }, (some (34, false)), 2047⟩,
  ⟨(some 38), .load 24 (.tmp 1), (some (34, false)), 511⟩,
  ⟨(some 39), .call { callee := .value (.func 17), args := #[.tmp 38], argTypes := #[24] }, (some (34, false)), 1267650600228229401496703213567⟩,
  ⟨(some 40), .binOp .neq 24 (.tmp 37) (.tmp 39) 24, (some (34, false)), 1267650600228229401496703221759⟩,
  ⟨(some 41), .pick (.tmp 34) (.const (.bool true)) (.tmp 40), none, 1267650600228229401496703238143⟩,
  ⟨(some 42), .move (.tmp 41), none, 1267650600228229401496703270911⟩,
  ⟨(some 43), .load 24 (.tmp 3), (some (42, false)), 1267650600228229401496703336447⟩,
  ⟨(some 44), .call { callee := .value (.func 19), args := #[.tmp 43], argTypes := #[24] }, (some (42, false)), 1267650600228229401496703467519⟩,
  ⟨(some 45), .call { callee := .value (.func 16), args := #[], argTypes := #[] }, (some (42, false)), 1267650600228229401496703729663⟩,
  ⟨(some 46), .call { callee := .value (.func 37), args := #[.tmp 44, .tmp 45], argTypes := #[28, 28] }, (some (42, false)), 1267650600228229401496704253951⟩,
  ⟨(some 47), .binOp .geq 3 (.tmp 46) (.const (.int .i64 0)) 3, (some (42, false)), 1267650600228229401496705302527⟩,
  ⟨(some 48), .pick (.tmp 42) (.const (.bool true)) (.tmp 47), none, 1267650600228229401496707399679⟩]
def L13r7 : List AOp := [
  ⟨(some 2), .assign (.const (.bool false)), none, 0⟩]
def L13r8 : List AOp := [
  ⟨(some 50), .load 24 (.tmp 1), none, 0⟩,
  ⟨(some 51), .load 24 (.tmp 1), none, 0⟩,
  ⟨(some 52), .call { callee := .value (.func 40), args := #[.tmp 50, .tmp 51], argTypes := #[24, 24] }, none, 0⟩,
  ⟨(some 53), .call { callee := .value (.func 46), args := #[.tmp 52], argTypes := #[24] }, none, 0⟩,
  ⟨(some 49), .move (.tmp 53), none, 0⟩,
  ⟨(some 54), .extract (.tmp 49) 0, none, 0⟩,
  ⟨(some 55), .extract (.tmp 49) 1, none, 0⟩,
  ⟨(some 6), .alloc 24, none, 0⟩,
  ⟨none, .store 24 (.tmp 6) (.tmp 54), none, 0⟩,
  ⟨(some 7), .assign (.tmp 55), none, 0⟩]
def L13r9 : List AOp := [
  ⟨(some 56), .call { callee := .value (.func 34), args := #[], argTypes := #[] }, none, 1267650600228229401496703205376⟩,
  ⟨(some 57), .move (.tmp 56), none, 1267650600228229401496703205377⟩,
  ⟨(some 58), .move (.tmp 7), (some (57, true)), 1267650600228229401496703205379⟩,
  ⟨(some 59), .binOp .eql 40 (.tmp 58) (.const .nilIface) 40, (some (57, true)), 1267650600228229401496703205383⟩,
  ⟨(some 60), .pick (.tmp 57) (.tmp 59) (.const (.bool false)), none, 1267650600228229401496703205391⟩,
  ⟨(some 61), .move (.tmp 60), none, 1267650600228229401496703205407⟩,
  ⟨(some 62), .load 24 (.tmp 6), (some (61, true)), 63⟩,
  ⟨(some 63), .load 24 (.tmp 1), (some (61, true)), 63⟩,
  ⟨(some 64), .call { callee := .value (.func 17), args := #[.tmp 63], argTypes := #[24] }, (some (61, true)), 191⟩,
  ⟨(some 65), .binOp .eql 24 (.tmp 62) (.tmp 64) 24, (some (61, true)), 1267650600228229401496703205887⟩,
  ⟨(some 66), .move (.tmp 65), (some (61, true)), 1267650600228229401496703206399⟩,
  ⟨(some 67), .load 24 (.tmp 6), (some (66, false)), 2047⟩,
  ⟨(some 68), .load 24 (.tmp 1), (some (66, false)), 2047⟩,
  ⟨(some 69), .call { callee := .value (.func 33), args := #[.tmp 68], argTypes := #[24] }, (some (66, false)), 6143⟩,
  ⟨(some 70), .binOp .eql 24 (.tmp 67) (.tmp 69) 24, (some (66, false)), 1267650600228229401496703221759⟩,
  ⟨(some 71), .pick (.tmp 66) (.const (.bool true)) (.tmp 70), (some (61, true)), 1267650600228229401496703238143⟩,
  ⟨(some 72), .pick (.tmp 61) (.tmp 71) (.const (.bool false)), none, 1267650600228229401496703270911⟩,
  ⟨(some 2), .assign (.tmp 72), none, 1267650600228229401496703336447⟩]
def L13 : LC := (.seq (.region L13r0) (.seq (.region L13r1) (.seq (.region L13r2) (.seq (.seq (.region L13r3) (.cond (.tmp 17) (.seq (.region L13r4) (.cond (.tmp 25) (.seq (.region L13r5) .ret) .skip)) (.seq (.regionD L13r6) (.cond (.tmp 48) (.seq (.region L13r7) .ret) .skip)))) (.seq (.region L13r8) (.seq (.regionD L13r9) .ret))))))
theorem nt13 : Tryd.f13.ntmps = 73 := by kernel_rfl
theorem rs13 : Tryd.f13.results.toList = [.tmp 2] := by kernel_rfl
theorem lite13 : Tryd.f13.body.map (lite okDraw) = some L13 := by kernel_rfl
def L14r0 : List AOp := [
  ⟨(some 2), .box 24 (.tmp 0), none, 0⟩,
  ⟨(some 4), .assign (.const (.bool false)), none, 0⟩]
def L14r1 : List AOp := [
  ⟨(some 5), .load 24 (.tmp 2), none, 0⟩,
  ⟨(some 6), .move (.tmp 1), none, 0⟩,
  ⟨(some 7), .call { callee := .value (.func 48), args := #[.tmp 6], argTypes := #[28] }, none, 2⟩,
  ⟨(some 8), .binOp .eql 24 (.tmp 5) (.tmp 7) 24, none, 1267650600228229401496703205383⟩,
  ⟨(some 4), .assign (.tmp 8), none, 1267650600228229401496703205391⟩]
def L14 : LC := (.seq (.region L14r0) (.seq (.regionD L14r1) .ret))
theorem nt14 : Tryd.f14.ntmps = 9 := by kernel_rfl
theorem rs14 : Tryd.f14.results.toList = [.tmp 4] := by kernel_rfl
theorem lite14 : Tryd.f14.body.map (lite okDraw) = some L14 := by kernel_rfl
def L15r0 : List AOp := [
  ⟨(some 0), .alloc 24, none, 0⟩]
def L15r1 : List AOp := [
  ⟨(some 1), .fieldAddr 52 (.global 0) 0, none, 0⟩,
  ⟨(some 2), .load 24 (.tmp 1), none, 0⟩,
  ⟨none, .store 24 (.tmp 0) (.tmp 2), none, 0⟩]
def L15 : LC := (.seq (.region L15r0) (.seq (.region L15r1) .ret))
theorem nt15 : Tryd.f15.ntmps = 3 := by kernel_rfl
theorem rs15 : Tryd.f15.results.toList = [.cell 0 24] := by kernel_rfl
theorem lite15 : Tryd.f15.body.map (lite okDraw) = some L15 := by kernel_rfl
def L16r0 : List AOp := [
  ⟨(some 0), .assign (.const (.slice none 0 0)), none, 0⟩]
def L16r1 : List AOp := [
  ⟨(some 1), .buildSlice 28 12 #[(0, .const (.int .u64 4294967295)), (1, .const (.int .u64 0)), (2, .const (.int .u64 0)), (3, .const (.int .u64 4294967295)), (4, .const (.int .u64 4294967294)), (5, .const (.int .u64 4294967295)), (6, .const (.int .u64 4294967295)), (7, .const (.int .u64 4294967295)), (8, .const (.int .u64 4294967295)), (9, .const (.int .u64 4294967295)), (10, .const (.int .u64 4294967295)), (11, .const (.int .u64 4294967295))], none, 0⟩,
  ⟨(some 0), .assign (.tmp 1), none, 0⟩]
def L16 : LC := (.seq (.region L16r0) (.seq (.region L16r1) .ret))
theorem nt16 : Tryd.f16.ntmps = 2 := by kernel_rfl
theorem rs16 : Tryd.f16.results.toList = [.tmp 0] := by kernel_rfl
theorem lite16 : Tryd.f16.body.map (lite okDraw) = some L16 := by kernel_rfl
def L17r0 : List AOp := [
  ⟨(some 1), .box 24 (.tmp 0), none, 0⟩,
  ⟨(some 2), .alloc 24, none, 0⟩]
def L17r1 : List AOp := [
  ⟨(some 3), .load 24 (.tmp 1), none, 0⟩,
  ⟨(some 4), .build 24 #[], none, 0⟩,
  ⟨(some 5), .load 52 (.global 0), none, 0⟩,
  ⟨(some 6), .call { callee := .value (.func 49), args := #[.tmp 3, .tmp 4, .tmp 5], argTypes := #[24, 24, 52] }, none, 0⟩,
  ⟨none, .store 24 (.tmp 2) (.tmp 6), none, 0⟩]
def L17 : LC := (.seq (.region L17r0) (.seq (.region L17r1) .ret))
theorem nt17 : Tryd.f17.ntmps = 7 := by kernel_rfl
theorem rs17 : Tryd.f17.results.toList = [.cell 2 24] := by kernel_rfl
theorem lite17 : Tryd.f17.body.map (lite okDraw) = some L17 := by kernel_rfl
def L18r0 : List AOp := [
  ⟨(some 2), .assign (.const (.slice none 0 0)), none, 0⟩]
def L18r1 : List AOp := [
  ⟨(some 3), .move (.tmp 0), none, 0⟩,
  ⟨(some 4), .call { callee := .value (.func 16), args := #[], argTypes := #[] }, none, 0⟩,
  ⟨(some 5), .call { callee := .value (.func 50), args := #[.tmp 3, .tmp 4], argTypes := #[28, 28] }, none, 0⟩,
  ⟨(some 2), .assign (.tmp 5), none, 0⟩]
def L18 : LC := (.seq (.region L18r0) (.seq (.region L18r1) .ret))
theorem nt18 : Tryd.f18.ntmps = 6 := by kernel_rfl
theorem rs18 : Tryd.f18.results.toList = [.tmp 2] := by kernel_rfl
theorem lite18 : Tryd.f18.body.map (lite okDraw) = some L18 := by kernel_rfl
def L19r0 : List AOp := [
  ⟨(some 1), .box 24 (.tmp 0), none, 0⟩,
  ⟨(some 2), .assign (.const (.slice none 0 0)), none, 0⟩]
def L19r1 : List AOp := [
  ⟨(some 3), .load 24 (.tmp 1), none, 0⟩,
  ⟨(some 4), .call { callee := .value (.func 51), args := #[.tmp 3], argTypes := #[23] }, none, 0⟩,
  ⟨(some 2), .assign (.tmp 4), none, 0⟩]
def L19 : LC := (.seq (.region L19r0) (.seq (.region L19r1) .ret))
theorem nt19 : Tryd.f19.ntmps = 5 := by kernel_rfl
theorem rs19 : Tryd.f19.results.toList = [.tmp 2] := by kernel_rfl
theorem lite19 : Tryd.f19.body.map (lite okDraw) = some L19 := by kernel_rfl
def L20r0 : List AOp := [
  ⟨(some 2), .box 24 (.tmp 0), none, 0⟩,
  ⟨(some 4), .assign (.const (.bool false)), none, 0⟩]
def L20r1 : List AOp := [
  ⟨(some 5), .load 24 (.tmp 2), none, 0⟩,
  ⟨(some 6), .move (.tmp 1), none, 0⟩,
  ⟨(some 7), .call { callee := .value (.func 48), args := #[.tmp 6], argTypes := #[28] }, none, 2⟩,
  ⟨(some 8), .binOp .eql 24 (.tmp 5) (.tmp 7) 24, none, 1267650600228229401496703205383⟩,
  ⟨(some 4), .assign (.tmp 8), none, 1267650600228229401496703205391⟩]
def L20 : LC := (.seq (.region L20r0) (.seq (.regionD L20r1) .ret))
theorem nt20 : Tryd.f20.ntmps = 9 := by kernel_rfl
theorem rs20 : Tryd.f20.results.toList = [.tmp 4] := by kernel_rfl
theorem lite20 : Tryd.f20.body.map (lite okDraw) = some L20 := by kernel_rfl
def L21r0 : List AOp := [
  ⟨(some 0), .alloc 24, none, 0⟩]
def L21r1 : List AOp := [
  ⟨(some 1), .fieldAddr 52 (.global 1) 0, none, 0⟩,
  ⟨(some 2), .load 24 (.tmp 1), none, 0⟩,
  ⟨none, .store 24 (.tmp 0) (.tmp 2), none, 0⟩]
def L21 : LC := (.seq (.region L21r0) (.seq (.region L21r1) .ret))
theorem nt21 : Tryd.f21.ntmps = 3 := by kernel_rfl
theorem rs21 : Tryd.f21.results.toList = [.cell 0 24] := by kernel_rfl
theorem lite21 : Tryd.f21.body.map (lite okDraw) = some L21 := by kernel_rfl
def L22r0 : List AOp := [
  ⟨(some 0), .assign (.const (.slice none 0 0)), none, 0⟩]
def L22r1 : List AOp := [
  ⟨(some 1), .buildSlice 28 12 #[(0, .const (.int .u64 3435473267)), (1, .const (.int .u64 3974895978)), (2, .const (.int .u64 1219536762)), (3, .const (.int .u64 1478102450)), (4, .const (.int .u64 4097256927)), (5, .const (.int .u64 3345173889)), (6, .const (.int .u64 4294967295)), (7, .const (.int .u64 4294967295)), (8, .const (.int .u64 4294967295)), (9, .const (.int .u64 4294967295)), (10, .const (.int .u64 4294967295)), (11, .const (.int .u64 4294967295))], none, 0⟩,
  ⟨(some 0), .assign (.tmp 1), none, 0⟩]
def L22 : LC := (.seq (.region L22r0) (.seq (.region L22r1) .ret))
theorem nt22 : Tryd.f22.ntmps = 2 := by kernel_rfl
theorem rs22 : Tryd.f22.results.toList = [.tmp 0] := by kernel_rfl
theorem lite22 : Tryd.f22.body.map (lite okDraw) = some L22 := by kernel_rfl
def L23r0 : List AOp := [
  ⟨(some 1), .box 24 (.tmp 0), none, 0⟩,
  ⟨(some 2), .alloc 24, none, 0⟩]
def L23r1 : List AOp := [
  ⟨(some 3), .load 24 (.tmp 1), none, 0⟩,
  ⟨(some 4), .build 24 #[], none, 0⟩,
  ⟨(some 5), .load 52 (.global 1), none, 0⟩,
  ⟨(some 6), .call { callee := .value (.func 49), args := #[.tmp 3, .tmp 4, .tmp 5], argTypes := #[24, 24, 52] }, none, 0⟩,
  ⟨none, .store 24 (.tmp 2) (.tmp 6), none, 0⟩]
def L23 : LC := (.seq (.region L23r0) (.seq (.region L23r1) .ret))
theorem nt23 : Tryd.f23.ntmps = 7 := by kernel_rfl
theorem rs23 : Tryd.f23.results.toList = [.cell 2 24] := by kernel_rfl
theorem lite23 : Tryd.f23.body.map (lite okDraw) = some L23 := by kernel_rfl
def L24r0 : List AOp := [
  ⟨(some 2), .assign (.const (.slice none 0 0)), none, 0⟩]
def L24r1 : List AOp := [
  ⟨(some 3), .move (.tmp 0), none, 0⟩,
  ⟨(some 4), .call { callee := .value (.func 22), args := #[], argTypes := #[] }, none, 0⟩,
  ⟨(some 5), .call { callee := .value (.func 50), args := #[.tmp 3, .tmp 4], argTypes := #[28, 28] }, none, 0⟩,
  ⟨(some 2), .assign (.tmp 5), none, 0⟩]
def L24 : LC := (.seq (.region L24r0) (.seq (.region L24r1) .ret))
theorem nt24 : Tryd.f24.ntmps = 6 := by kernel_rfl
theorem rs24 : Tryd.f24.results.toList = [.tmp 2] := by kernel_rfl
theorem lite24 : Tryd.f24.body.map (lite okDraw) = some L24 := by kernel_rfl
def L25r0 : List AOp := [
  ⟨(some 1), .box 24 (.tmp 0), none, 0⟩,
  ⟨(some 2), .assign (.const (.slice none 0 0)), none, 0⟩]
def L25r1 : List AOp := [
  ⟨(some 3), .load 24 (.tmp 1), none, 0⟩,
  ⟨(some 4), .call { callee := .value (.func 51), args := #[.tmp 3], argTypes := #[23] }, none, 0⟩,
  ⟨(some 2), .assign (.tmp 4), none, 0⟩]
def L25 : LC := (.seq (.region L25r0) (.seq (.region L25r1) .ret))
theorem nt25 : Tryd.f25.ntmps = 5 := by kernel_rfl
theorem rs25 : Tryd.f25.results.toList = [.tmp 2] := by kernel_rfl
theorem lite25 : Tryd.f25.body.map (lite okDraw) = some L25 := by kernel_rfl
def L26r0 : List AOp := [
  ⟨(some 2), .box 24 (.tmp 0), none, 0⟩,
  ⟨(some 3), .box 24 (.tmp 1), none, 0⟩,
  ⟨(some 4), .alloc 24, none, 0⟩]
def L26r1 : List AOp := [
  ⟨(some 5), .load 24 (.tmp 2), none, 0⟩,
  ⟨(some 6), .load 24 (.tmp 3), none, 0⟩,
  ⟨(some 7), .load 52 (.global 1), none, 0⟩,
  ⟨(some 8), .call { callee := .value (.func 49), args := #[.tmp 5, .tmp 6, .tmp 7], argTypes := #[24, 24, 52] }, none, 0⟩,
  ⟨none, .store 24 (.tmp 4) (.tmp 8), none, 0⟩]
def L26 : LC := (.seq (.region L26r0) (.seq (.region L26r1) .ret))
theorem nt26 : Tryd.f26.ntmps = 9 := by kernel_rfl
theorem rs26 : Tryd.f26.results.toList = [.cell 4 24] := by kernel_rfl
theorem lite26 : Tryd.f26.body.map (lite okDraw) = some L26 := by kernel_rfl
def L27r0 : List AOp := [
  ⟨(some 4), .assign (.const (.slice none 0 0)), none, 0⟩]
def L27r1 : List AOp := [
  ⟨(some 5), .assign (.const (.slice none 0 0)), none, 0⟩]
def L27r2 : List AOp := [
  ⟨(some 6), .assign (.const (.int .u64 0)), none, 0⟩]
def L27r3 : List AOp := [
  ⟨(some 7), .assign (.const (.int .i64 0)), none, 0⟩]
def L27r4 : List AOp := [
  ⟨(some 9), .move (.tmp 7), none, 0⟩,
  ⟨(some 10), .move (.tmp 0), none, 0⟩,
  ⟨(some 11), .call { callee := .builtin .len, args := #[.tmp 10], argTypes := #[28] }, none, 0⟩,
  ⟨(some 12), .binOp .lss 3 (.tmp 9) (.tmp 11) 3, none, 0⟩,
  ⟨(some 13), .move (.tmp 12), none, 0⟩,
  ⟨(some 14), .move (.tmp 7), (some (13, false)), 0⟩,
  ⟨(some 15), .move (.tmp 1), (some (13, false)), 0⟩,
  ⟨(some 16), .call { callee := .builtin .len, args := #[.tmp 15], argTypes := #[28] }, (some (13, false)), 0⟩,
  ⟨(some 17), .binOp .lss 3 (.tmp 14) (.tmp 16) 3, (some (13, false)), 0⟩,
  ⟨(some 18), .pick (.tmp 13) (.const (.bool true)) (.tmp 17), none, 0⟩,
  ⟨(some 19), .move (.tmp 18), none, 0⟩,
  ⟨(some 20), .move (.tmp 6), (some (19, false)), 0⟩,
  ⟨(some 21), .binOp .gtr 22 (.tmp 20) (.const (.int .u64 0)) 22, (some (19, false)), 0⟩,
  ⟨(some 22), .pick (.tmp 19) (.const (.bool true)) (.tmp 21), none, 0⟩]
def L27r6 : List AOp := [
  ⟨(some 25), .move (.tmp 0), none, 0⟩,
  ⟨(some 26), .move (.tmp 7), none, 0⟩,
  ⟨(some 27), .call { callee := .value (.func 52), args := #[.tmp 25, .tmp 26], argTypes := #[28, 3] }, none, 0⟩,
  ⟨(some 28), .move (.tmp 1), none, 0⟩,
  ⟨(some 29), .move (.tmp 7), none, 0⟩,
  ⟨(some 30), .call { callee := .value (.func 52), args := #[.tmp 28, .tmp 29], argTypes := #[28, 3] }, none, 0⟩,
  ⟨(some 31), .binOp .add 22 (.tmp 27) (.tmp 30) 22, none, 0⟩,
  ⟨(some 32), .move (.tmp 6), none, 0⟩,
  ⟨(some 33), .binOp .add 22 (.tmp 31) (.tmp 32) 22, none, 0⟩,
  ⟨(some 8), .assign (.tmp 33), none, 0⟩]
def L27r7 : List AOp := [
  ⟨(some 34), .move (.tmp 5), none, 0⟩,
  ⟨(some 35), .move (.tmp 8), none, 0⟩,
  ⟨(some 36), .binOp .rem 22 (.tmp 35) (.const (.int .u64 4294967296)) 22, none, 0⟩,
  ⟨(some 37), .buildSlice 28 1 #[(0, .tmp 36)], none, 0⟩,
  ⟨(some 38), .call { callee := .builtin .append, args := #[.tmp 34, .tmp 37], argTypes := #[28, 28] }, none, 0⟩,
  ⟨(some 5), .assign (.tmp 38), none, 0⟩]
def L27r8 : List AOp := [
  ⟨(some 39), .move (.tmp 8), none, 0⟩,
  ⟨(some 40), .binOp .quo 22 (.tmp 39) (.const (.int .u64 4294967296)) 22, none, 0⟩,
  ⟨(some 6), .assign (.tmp 40), none, 0⟩]
def L27r5 : List AOp := [
  ⟨(some 23), .move (.tmp 7), none, 0⟩,
  ⟨(some 24), .binOp .add 3 (.tmp 23) (.const (.int .i64 1)) 3, none, 0⟩,
  ⟨(some 7), .assign (.tmp 24), none, 0⟩]
def L27r9 : List AOp := [
  ⟨(some 41), .move (.tmp 5), none, 0⟩,
  ⟨(some 42), .call { callee := .value (.func 53), args := #[.tmp 41], argTypes := #[28] }, none, 0⟩,
  ⟨(some 4), .assign (.tmp 42), none, 0⟩]
def L27 : LC := (.seq (.region L27r0) (.seq (.region L27r1) (.seq (.region L27r2) (.seq (.seq (.region L27r3) (.block 0 (.loop (.seq (.seq (.region L27r4) (.cond (.tmp 22) .skip (.exit 0))) (.seq (.block 1 (.seq (.region L27r6) (.seq (.region L27r7) (.region L27r8)))) (.region L27r5)))))) (.seq (.region L27r9) .ret)))))
theorem nt27 : Tryd.f27.ntmps = 43 := by kernel_rfl
theorem rs27 : Tryd.f27.results.toList = [.tmp 4] := by kernel_rfl
theorem lite27 : Tryd.f27.body.map (lite okDraw) = some L27 := by kernel_rfl
def L28r0 : List AOp := [
  ⟨(some 0), .assign (.const (.bool false)), none, 0⟩]
def L28r1 : List AOp := [
  ⟨(some 1), .call { callee := .value (.func 21), args := #[], argTypes := #[] }, none, 0⟩,
  ⟨(some 2), .build 24 #[(0, .const (.int .u64 5))], none, 0⟩,
  ⟨(some 3), .call { callee := .value (.func 26), args := #[.tmp 1, .tmp 2], argTypes := #[24, 24] }, none, 0⟩,
  ⟨(some 4), .build 24 #[(0, .const (.int .u64 5))], none, 0⟩,
  ⟨(some 5), .binOp .eql 24 (.tmp 3) (.tmp 4) 24, none, 0⟩,
  ⟨(some 0), .assign (.tmp 5), none, 0⟩]
def L28 : LC := (.seq (.region L28r0) (.seq (.region L28r1) .ret))
theorem nt28 : Tryd.f28.ntmps = 6 := by kernel_rfl
theorem rs28 : Tryd.f28.results.toList = [.tmp 0] := by kernel_rfl
theorem lite28 : Tryd.f28.body.map (lite okDraw) = some L28 := by kernel_rfl
def L29r0 : List AOp := [
  ⟨(some 2), .box 24 (.tmp 0), none, 0⟩,
  ⟨(some 3), .box 24 (.tmp 1), none, 0⟩,
  ⟨(some 4), .alloc 24, none, 0⟩]
def L29r1 : List AOp := [
  ⟨(some 5), .load 24 (.tmp 2), none, 0⟩,
  ⟨(some 6), .load 24 (.tmp 3), none, 0⟩,
  ⟨(some 7), .load 52 (.global 0), none, 0⟩,
  ⟨(some 8), .call { callee := .value (.func 49), args := #[.tmp 5, .tmp 6, .tmp 7], argTypes := #[24, 24, 52] }, none, 0⟩,
  ⟨none, .store 24 (.tmp 4) (.tmp 8), none, 0⟩]
def L29 : LC := (.seq (.region L29r0) (.seq (.region L29r1) .ret))
theorem nt29 : Tryd.f29.ntmps = 9 := by kernel_rfl
theorem rs29 : Tryd.f29.results.toList = [.cell 4 24] := by kernel_rfl
theorem lite29 : Tryd.f29.body.map (lite okDraw) = some L29 := by kernel_rfl
def L30r0 : List AOp := [
  ⟨(some 4), .assign (.const (.slice none 0 0)), none, 0⟩]
def L30r1 : List AOp := [
  ⟨(some 5), .move (.tmp 0), none, 0⟩,
  ⟨(some 6), .move (.tmp 1), none, 0⟩,
  ⟨(some 7), .call { callee := .value (.func 27), args := #[.tmp 5, .tmp 6], argTypes := #[28, 28] }, none, 0⟩,
  ⟨(some 8), .call { callee := .value (.func 18), args := #[.tmp 7], argTypes := #[28] }, none, 0⟩,
  ⟨(some 4), .assign (.tmp 8), none, 0⟩]
def L30 : LC := (.seq (.region L30r0) (.seq (.region L30r1) .ret))
theorem nt30 : Tryd.f30.ntmps = 9 := by kernel_rfl
theorem rs30 : Tryd.f30.results.toList = [.tmp 4] := by kernel_rfl
theorem lite30 : Tryd.f30.body.map (lite okDraw) = some L30 := by kernel_rfl
def L31r0 : List AOp := [
  ⟨(some 2), .box 24 (.tmp 0), none, 0⟩,
  ⟨(some 3), .box 24 (.tmp 1), none, 0⟩,
  ⟨(some 4), .alloc 24, none, 0⟩]
def L31r1 : List AOp := [
  ⟨(some 5), .load 24 (.tmp 2), none, 0⟩,
  ⟨(some 6), .load 24 (.tmp 3), none, 0⟩,
  ⟨(some 7), .load 52 (.global 0), none, 0⟩,
  ⟨(some 8), .call { callee := .value (.func 54), args := #[.tmp 5, .tmp 6, .tmp 7], argTypes := #[24, 24, 52] }, none, 0⟩,
  ⟨none, .store 24 (.tmp 4) (.tmp 8), none, 0⟩]
def L31 : LC := (.seq (.region L31r0) (.seq (.region L31r1) .ret))
theorem nt31 : Tryd.f31.ntmps = 9 := by kernel_rfl
theorem rs31 : Tryd.f31.results.toList = [.cell 4 24] := by kernel_rfl
theorem lite31 : Tryd.f31.body.map (lite okDraw) = some L31 := by kernel_rfl
def L32r0 : List AOp := [
  ⟨(some 4), .assign (.const (.slice none 0 0)), none, 0⟩]
def L32r1 : List AOp := [
  ⟨(some 5), .move (.tmp 0), none, 0⟩,
  ⟨(some 6), .call { callee := .value (.func 18), args := #[.tmp 5], argTypes := #[28] }, none, 0⟩,
  ⟨(some 7), .call { callee := .value (.func 16), args := #[], argTypes := #[] }, none, 0⟩,
  ⟨(some 8), .call { callee := .value (.func 27), args := #[.tmp 6, .tmp 7], argTypes := #[28, 28] }, none, 0⟩,
  ⟨(some 9), .move (.tmp 1), none, 0⟩,
  ⟨(some 10), .call { callee := .value (.func 18), args := #[.tmp 9], argTypes := #[28] }, none, 0⟩,
  ⟨(some 11), .call { callee := .value (.func 55), args := #[.tmp 8, .tmp 10], argTypes := #[28, 28] }, none, 0⟩,
  ⟨(some 12), .call { callee := .value (.func 18), args := #[.tmp 11], argTypes := #[28] }, none, 0⟩,
  ⟨(some 4), .assign (.tmp 12), none, 0⟩]
def L32 : LC := (.seq (.region L32r0) (.seq (.region L32r1) .ret))
theorem nt32 : Tryd.f32.ntmps = 13 := by kernel_rfl
theorem rs32 : Tryd.f32.results.toList = [.tmp 4] := by kernel_rfl
theorem lite32 : Tryd.f32.body.map (lite okDraw) = some L32 := by kernel_rfl
def L33r0 : List AOp := [
  ⟨(some 1), .box 24 (.tmp 0), none, 0⟩,
  ⟨(some 2), .alloc 24, none, 0⟩]
def L33r1 : List AOp := [
  ⟨(some 3), .build 24 #[], none, 0⟩,
  ⟨(some 4), .load 24 (.tmp 1), none, 0⟩,
  ⟨(some 5), .load 52 (.global 0), none, 0⟩,
  ⟨(some 6), .call { callee := .value (.func 54), args := #[.tmp 3, .tmp 4, .tmp 5], argTypes := #[24, 24, 52] }, none, 0⟩,
  ⟨none, .store 24 (.tmp 2) (.tmp 6), none, 0⟩]
def L33 : LC := (.seq (.region L33r0) (.seq (.region L33r1) .ret))
theorem nt33 : Tryd.f33.ntmps = 7 := by kernel_rfl
theorem rs33 : Tryd.f33.results.toList = [.cell 2 24] := by kernel_rfl
theorem lite33 : Tryd.f33.body.map (lite okDraw) = some L33 := by kernel_rfl
def L34r0 : List AOp := [
  ⟨(some 0), .assign (.const (.bool false)), none, 0⟩]
def L34r1 : List AOp := [
  ⟨(some 1), .call { callee := .value (.func 15), args := #[], argTypes := #[] }, none, 0⟩,
  ⟨(some 2), .build 24 #[(0, .const (.int .u64 2))], none, 0⟩,
  ⟨(some 3), .call { callee := .value (.func 29), args := #[.tmp 1, .tmp 2], argTypes := #[24, 24] }, none, 0⟩,
  ⟨(some 4), .build 24 #[(0, .const (.int .u64 2))], none, 0⟩,
  ⟨(some 5), .binOp .eql 24 (.tmp 3) (.tmp 4) 24, none, 0⟩,
  ⟨(some 0), .assign (.tmp 5), none, 0⟩]
def L34 : LC := (.seq (.region L34r0) (.seq (.region L34r1) .ret))
theorem nt34 : Tryd.f34.ntmps = 6 := by kernel_rfl
theorem rs34 : Tryd.f34.results.toList = [.tmp 0] := by kernel_rfl
theorem lite34 : Tryd.f34.body.map (lite okDraw) = some L34 := by kernel_rfl
def L35r0 : List AOp := [
  ⟨(some 2), .alloc 24, none, 0⟩,
  ⟨(some 3), .assign (.const .nilIface), none, 0⟩]
def L35r1 : List AOp := [
  ⟨(some 7), .move (.tmp 0), none, 0⟩,
  ⟨(some 8), .call { callee := .value (.func 56), args := #[.tmp 7], argTypes := #[38] }, none, 0⟩,
  ⟨(some 6), .move (.tmp 8), none, 0⟩,
  ⟨(some 9), .extract (.tmp 6) 0, none, 0⟩,
  ⟨(some 10), .extract (.tmp 6) 1, none, 0⟩,
  ⟨(some 4), .alloc 24, none, 0⟩,
  ⟨none, .store 24 (.tmp 4) (.tmp 9), none, 0⟩,
  ⟨(some 5), .assign (.tmp 10), none, 0⟩]
def L35r2 : List AOp := [
  ⟨(some 12), .move (.tmp 5), none, 0⟩,
  ⟨(some 13), .binOp .neq 40 (.tmp 12) (.const .nilIface) 40, none, 0⟩,
  ⟨(some 11), .assign (.tmp 13), none, 0⟩]
def L35r3 : List AOp := [
  ⟨(some 14), .build 24 #[], none, 0⟩,
  ⟨(some 15), .move (.tmp 5), none, 0⟩,
  ⟨none, .store 24 (.tmp 2) (.tmp 14), none, 0⟩,
  ⟨(some 3), .assign (.tmp 15), none, 0⟩]
def L35r4 : List AOp := [
  ⟨(some 17), .load 24 (.tmp 4), none, 0⟩,
  ⟨(some 18), .fieldAddr 52 (.global 0) 0, none, 0⟩,
  ⟨(some 19), .load 24 (.tmp 18), none, 0⟩,
  ⟨(some 20), .call { callee := .value (.func 57), args := #[.tmp 17, .tmp 19], argTypes := #[24, 24] }, none, 0⟩,
  ⟨(some 21), .binOp .eql 22 (.tmp 20) (.const (.int .u64 0)) 22, none, 0⟩,
  ⟨(some 16), .assign (.tmp 21), none, 0⟩]
def L35r5 : List AOp := [
  ⟨(some 22), .build 24 #[], none, 0⟩,
  ⟨(some 23), .makeInterface 43 (.const (.int .i64 3)), none, 0⟩,
  ⟨none, .store 24 (.tmp 2) (.tmp 22), none, 0⟩,
  ⟨(some 3), .assign (.tmp 23), none, 0⟩]
def L35r6 : List AOp := [
  ⟨(some 24), .load 24 (.tmp 4), none, 0⟩,
  ⟨none, .store 24 (.tmp 2) (.tmp 24), none, 0⟩,
  ⟨(some 3), .assign (.const .nilIface), none, 0⟩]
def L35 : LC := (.seq (.region L35r0) (.seq (.region L35r1) (.seq (.block 0 (.seq (.region L35r2) (.cond (.tmp 11) (.seq (.region L35r3) .ret) (.seq (.region L35r4) (.cond (.tmp 16) (.seq (.region L35r5) .ret) .skip))))) (.seq (.region L35r6) .ret))))
theorem nt35 : Tryd.f35.ntmps = 25 := by kernel_rfl
theorem rs35 : Tryd.f35.results.toList = [.cell 2 24, .tmp 3] := by kernel_rfl
theorem lite35 : Tryd.f35.body.map (lite okDraw) = some L35 := by kernel_rfl
def L36r0 : List AOp := [
  ⟨(some 2), .assign (.const (.slice none 0 0)), none, 0⟩]
def L36r1 : List AOp := [
  ⟨(some 8), .move (.tmp 0), none, 0⟩,
  ⟨(some 9), .call { callee := .builtin .len, args := #[.tmp 8], argTypes := #[38] }, none, 0⟩,
  ⟨(some 10), .binOp .quo 3 (.tmp 9) (.const (.int .i64 4)) 3, none, 0⟩,
  ⟨(some 11), .binOp .add 3 (.tmp 10) (.const (.int .i64 1)) 3, none, 0⟩,
  ⟨(some 12), .makeSlice 28 (.tmp 11) (.tmp 11), none, 0⟩,
  ⟨(some 3), .assign (.tmp 12), none, 0⟩]
def L36r2 : List AOp := [
  ⟨(some 4), .assign (.const (.int .i64 0)), none, 0⟩]
def L36r3 : List AOp := [
  ⟨(some 13), .move (.tmp 4), none, 0⟩,
  ⟨(some 14), .move (.tmp 0), none, 0⟩,
  ⟨(some 15), .call { callee := .builtin .len, args := #[.tmp 14], argTypes := #[38] }, none, 0⟩,
  ⟨(some 16), .binOp .lss 3 (.tmp 13) (.tmp 15) 3, none, 0⟩]
def L36r5 : List AOp := [
  ⟨(some 19), .move (.tmp 0), none, 0⟩,
  ⟨(some 20), .call { callee := .builtin .len, args := #[.tmp 19], argTypes := #[38] }, none, 0⟩,
  ⟨(some 21), .binOp .sub 3 (.tmp 20) (.const (.int .i64 1)) 3, none, 0⟩,
  ⟨(some 22), .move (.tmp 4), none, 0⟩,
  ⟨(some 23), .binOp .sub 3 (.tmp 21) (.tmp 22) 3, none, 0⟩,
  ⟨(some 5), .assign (.tmp 23), none, 0⟩]
def L36r6 : List AOp := [
  ⟨(some 24), .move (.tmp 0), none, 0⟩,
  ⟨(some 25), .move (.tmp 5), none, 0⟩,
  ⟨(some 26), .indexAddr 38 (.tmp 24) (.tmp 25), none, 0⟩,
  ⟨(some 27), .load 5 (.tmp 26), none, 0⟩,
  ⟨(some 28), .convert 5 22 (.tmp 27), none, 0⟩,
  ⟨(some 6), .assign (.tmp 28), none, 0⟩]
def L36r7 : List AOp := [
  ⟨(some 7), .assign (.const (.int .i64 0)), none, 0⟩]
def L36r8 : List AOp := [
  ⟨(some 29), .move (.tmp 7), none, 0⟩,
  ⟨(some 30), .move (.tmp 4), none, 0⟩,
  ⟨(some 31), .binOp .rem 3 (.tmp 30) (.const (.int .i64 4)) 3, none, 0⟩,
  ⟨(some 32), .binOp .lss 3 (.tmp 29) (.tmp 31) 3, none, 0⟩]
def L36r10 : List AOp := [
  ⟨(some 35), .move (.tmp 6), none, 0⟩,
  ⟨(some 36), .binOp .mul 22 (.tmp 35) (.const (.int .u64 256)) 22, none, 0⟩,
  ⟨(some 6), .assign (.tmp 36), none, 0⟩]
def L36r9 : List AOp := [
  ⟨(some 33), .move (.tmp 7), none, 0⟩,
  ⟨(some 34), .binOp .add 3 (.tmp 33) (.const (.int .i64 1)) 3, none, 0⟩,
  ⟨(some 7), .assign (.tmp 34), none, 0⟩]
def L36r11 : List AOp := [
  ⟨(some 37), .move (.tmp 3), none, 0⟩,
  ⟨(some 38), .move (.tmp 4), none, 0⟩,
  ⟨(some 39), .binOp .quo 3 (.tmp 38) (.const (.int .i64 4)) 3, none, 0⟩,
  ⟨(some 40), .move (.tmp 3), none, 0⟩,
  ⟨(some 41), .move (.tmp 4), none, 0⟩,
  ⟨(some 42), .binOp .quo 3 (.tmp 41) (.const (.int .i64 4)) 3, none, 0⟩,
  ⟨(some 43), .indexAddr 28 (.tmp 40) (.tmp 42), none, 0⟩,
  ⟨(some 44), .load 22 (.tmp 43), none, 0⟩,
  ⟨(some 45), .move (.tmp 6), none, 0⟩,
  ⟨(some 46), .binOp .add 22 (.tmp 44) (.tmp 45) 22, none, 0⟩,
  ⟨(some 47), .indexAddr 28 (.tmp 37) (.tmp 39), none, 0⟩,
  ⟨none, .store 22 (.tmp 47) (.tmp 46), none, 0⟩]
def L36r4 : List AOp := [
  ⟨(some 17), .move (.tmp 4), none, 0⟩,
  ⟨(some 18), .binOp .add 3 (.tmp 17) (.const (.int .i64 1)) 3, none, 0⟩,
  ⟨(some 4), .assign (.tmp 18), none, 0⟩]
def L36r12 : List AOp := [
  ⟨(some 48), .move (.tmp 3), none, 0⟩,
  ⟨(some 49), .call { callee := .value (.func 53), args := #[.tmp 48], argTypes := #[28] }, none, 0⟩,
  ⟨(some 2), .assign (.tmp 49), none, 0⟩]
def L36 : LC := (.seq (.region L36r0) (.seq (.region L36r1) (.seq (.seq (.region L36r2) (.block 0 (.loop (.seq (.seq (.region L36r3) (.cond (.tmp 16) .skip (.exit 0))) (.seq (.block 1 (.seq (.region L36r5) (.seq (.region L36r6) (.seq (.seq (.region L36r7) (.block 2 (.loop (.seq (.seq (.region L36r8) (.cond (.tmp 32) .skip (.exit 2))) (.seq (.block 3 (.region L36r10)) (.region L36r9)))))) (.region L36r11))))) (.region L36r4)))))) (.seq (.region L36r12) .ret))))
theorem nt36 : Tryd.f36.ntmps = 50 := by kernel_rfl
theorem rs36 : Tryd.f36.results.toList = [.tmp 2] := by kernel_rfl
theorem lite36 : Tryd.f36.body.map (lite okDraw) = some L36 := by kernel_rfl
def L37r0 : List AOp := [
  ⟨(some 4), .assign (.const (.int .i64 0)), none, 0⟩]
def L37r1 : List AOp := [
  ⟨(some 6), .move (.tmp 0), none, 0⟩,
  ⟨(some 7), .call { callee := .builtin .len, args := #[.tmp 6], argTypes := #[28] }, none, 0⟩,
  ⟨(some 8), .move (.tmp 1), none, 0⟩,
  ⟨(some 9), .call { callee := .builtin .len, args := #[.tmp 8], argTypes := #[28] }, none, 0⟩,
  ⟨(some 10), .binOp .neq 3 (.tmp 7) (.tmp 9) 3, none, 0⟩]
def L37r2 : List AOp := [
  ⟨(some 11), .move (.tmp 0), none, 0⟩,
  ⟨(some 12), .call { callee := .builtin .len, args := #[.tmp 11], argTypes := #[28] }, none, 0⟩,
  ⟨(some 13), .move (.tmp 1), none, 0⟩,
  ⟨(some 14), .call { callee := .builtin .len, args := #[.tmp 13], argTypes := #[28] }, none, 0⟩,
  ⟨(some 15), .binOp .lss 3 (.tmp 12) (.tmp 14) 3, none, 0⟩]
def L37r3 : List AOp := [
  ⟨(some 4), .assign (.const (.int .i64 (-1))), none, 0⟩]
def L37r4 : List AOp := [
  ⟨(some 4), .assign (.const (.int .i64 1)), none, 0⟩]
def L37r5 : List AOp := [
  ⟨(some 16), .move (.tmp 0), none, 0⟩,
  ⟨(some 17), .call { callee := .builtin .len, args := #[.tmp 16], argTypes := #[28] }, none, 0⟩,
  ⟨(some 18), .binOp .sub 3 (.tmp 17) (.const (.int .i64 1)) 3, none, 0⟩,
  ⟨(some 5), .assign (.tmp 18), none, 0⟩]
def L37r6 : List AOp := [
  ⟨(some 19), .move (.tmp 5), none, 0⟩,
  ⟨(some 20), .binOp .geq 3 (.tmp 19) (.const (.int .i64 0)) 3, none, 0⟩]
def L37r8 : List AOp := [
  ⟨(some 23), .move (.tmp 0), none, 0⟩,
  ⟨(some 24), .move (.tmp 5), none, 0⟩,
  ⟨(some 25), .indexAddr 28 (.tmp 23) (.tmp 24), none, 3⟩,
  ⟨(some 26), .load 22 (.tmp 25), none, 7⟩,
  ⟨(some 27), .move (.tmp 1), none, 0⟩,
  ⟨(some 28), .move (.tmp 5), none, 0⟩,
  ⟨(some 29), .indexAddr 28 (.tmp 27) (.tmp 28), none, 48⟩,
  ⟨(some 30), .load 22 (.tmp 29), none, 112⟩,
  ⟨(some 31), .binOp .lss 22 (.tmp 26) (.tmp 30) 22, none, 1267650600228229401496703205631⟩]
def L37r9 : List AOp := [
  ⟨(some 4), .assign (.const (.int .i64 (-1))), none, 0⟩]
def L37r10 : List AOp := [
  ⟨(some 32), .move (.tmp 0), none, 0⟩,
  ⟨(some 33), .move (.tmp 5), none, 0⟩,
  ⟨(some 34), .indexAddr 28 (.tmp 32) (.tmp 33), none, 3⟩,
  ⟨(some 35), .load 22 (.tmp 34), none, 7⟩,
  ⟨(some 36), .move (.tmp 1), none, 0⟩,
  ⟨(some 37), .move (.tmp 5), none, 0⟩,
  ⟨(some 38), .indexAddr 28 (.tmp 36) (.tmp 37), none, 48⟩,
  ⟨(some 39), .load 22 (.tmp 38), none, 112⟩,
  ⟨(some 40), .binOp .gtr 22 (.tmp 35) (.tmp 39) 22, none, 1267650600228229401496703205631⟩]
def L37r11 : List AOp := [
  ⟨(some 4), .assign (.const (.int .i64 1)), none, 0⟩]
def L37r7 : List AOp := [
  ⟨(some 21), .move (.tmp 5), none, 0⟩,
  ⟨(some 22), .binOp .sub 3 (.tmp 21) (.const (.int .i64 1)) 3, none, 0⟩,
  ⟨(some 5), .assign (.tmp 22), none, 0⟩]
def L37r12 : List AOp := [
  ⟨(some 4), .assign (.const (.int .i64 0)), none, 0⟩]
def L37 : LC := (.seq (.region L37r0) (.seq (.seq (.region L37r1) (.cond (.tmp 10) (.seq (.seq (.region L37r2) (.cond (.tmp 15) (.seq (.region L37r3) .ret) .skip)) (.seq (.region L37r4) .ret)) .skip)) (.seq (.seq (.region L37r5) (.block 0 (.loop (.seq (.seq (.region L37r6) (.cond (.tmp 20) .skip (.exit 0))) (.seq (.block 1 (.seq (.seq (.regionD L37r8) (.cond (.tmp 31) (.seq (.region L37r9) .ret) .skip)) (.seq (.regionD L37r10) (.cond (.tmp 40) (.seq (.region L37r11) .ret) .skip)))) (.region L37r7)))))) (.seq (.region L37r12) .ret))))
theorem nt37 : Tryd.f37.ntmps = 41 := by kernel_rfl
theorem rs37 : Tryd.f37.results.toList = [.tmp 4] := by kernel_rfl
theorem lite37 : Tryd.f37.body.map (lite okDraw) = some L37 := by kernel_rfl
def L38r0 : List AOp := [
  ⟨(some 2), .alloc 24, none, 0⟩,
  ⟨(some 3), .assign (.const .nilIface), none, 0⟩]
def L38r1 : List AOp := [
  ⟨(some 7), .move (.tmp 0), none, 0⟩,
  ⟨(some 8), .call { callee := .value (.func 56), args := #[.tmp 7], argTypes := #[38] }, none, 0⟩,
  ⟨(some 6), .move (.tmp 8), none, 0⟩,
  ⟨(some 9), .extract (.tmp 6) 0, none, 0⟩,
  ⟨(some 10), .extract (.tmp 6) 1, none, 0⟩,
  ⟨(some 4), .alloc 24, none, 0⟩,
  ⟨none, .store 24 (.tmp 4) (.tmp 9), none, 0⟩,
  ⟨(some 5), .assign (.tmp 10), none, 0⟩]
def L38r2 : List AOp := [
  ⟨(some 12), .move (.tmp 5), none, 0⟩,
  ⟨(some 13), .binOp .neq 40 (.tmp 12) (.const .nilIface) 40, none, 0⟩,
  ⟨(some 11), .assign (.tmp 13), none, 0⟩]
def L38r3 : List AOp := [
  ⟨(some 14), .build 24 #[], none, 0⟩,
  ⟨(some 15), .move (.tmp 5), none, 0⟩,
  ⟨none, .store 24 (.tmp 2) (.tmp 14), none, 0⟩,
  ⟨(some 3), .assign (.tmp 15), none, 0⟩]
def L38r4 : List AOp := [
  ⟨(some 17), .load 24 (.tmp 4), none, 0⟩,
  ⟨(some 18), .build 24 #[], none, 0⟩,
  ⟨(some 19), .binOp .eql 24 (.tmp 17) (.tmp 18) 24, none, 0⟩,
  ⟨(some 20), .move (.tmp 19), none, 0⟩,
  ⟨(some 21), .load 24 (.tmp 4), (some (20, false)), 0⟩,
  ⟨(some 22), .fieldAddr 52 (.global 1) 0, (some (20, false)), 0⟩,
  ⟨(some 23), .load 24 (.tmp 22), (some (20, false)), 0⟩,
  ⟨(some 24), .call { callee := .value (.func 57), args := #[.tmp 21, .tmp 23], argTypes := #[24, 24] }, (some (20, false)), 0⟩,
  ⟨(some 25), .binOp .eql 22 (.tmp 24) (.const (.int .u64 0)) 22, (some (20, false)), 0⟩,
  ⟨(some 26), .pick (.tmp 20) (.const (.bool true)) (.tmp 25), none, 0⟩,
  ⟨(some 16), .assign (.tmp 26), none, 0⟩]
def L38r5 : List AOp := [
  ⟨(some 27), .build 24 #[], none, 0⟩,
  ⟨(some 28), .makeInterface 43 (.const (.int .i64 3)), none, 0⟩,
  ⟨none, .store 24 (.tmp 2) (.tmp 27), none, 0⟩,
  ⟨(some 3), .assign (.tmp 28), none, 0⟩]
def L38r6 : List AOp := [
  ⟨(some 29), .load 24 (.tmp 4), none, 0⟩,
  ⟨none, .store 24 (.tmp 2) (.tmp 29), none, 0⟩,
  ⟨(some 3), .assign (.const .nilIface), none, 0⟩]
def L38 : LC := (.seq (.region L38r0) (.seq (.region L38r1) (.seq (.block 0 (.seq (.region L38r2) (.cond (.tmp 11) (.seq (.region L38r3) .ret) (.seq (.region L38r4) (.cond (.tmp 16) (.seq (.region L38r5) .ret) .skip))))) (.seq (.region L38r6) .ret))))
theorem nt38 : Tryd.f38.ntmps = 30 := by kernel_rfl
theorem rs38 : Tryd.f38.results.toList = [.cell 2 24, .tmp 3] := by kernel_rfl
theorem lite38 : Tryd.f38.body.map (lite okDraw) = some L38 := by kernel_rfl
def L39r0 : List AOp := [
  ⟨(some 2), .alloc 24, none, 0⟩,
  ⟨(some 3), .assign (.const .nilIface), none, 0⟩]
def L39r1 : List AOp := [
  ⟨(some 7), .move (.tmp 0), none, 0⟩,
  ⟨(some 8), .call { callee := .value (.func 56), args := #[.tmp 7], argTypes := #[38] }, none, 0⟩,
  ⟨(some 6), .move (.tmp 8), none, 0⟩,
  ⟨(some 9), .extract (.tmp 6) 0, none, 0⟩,
  ⟨(some 10), .extract (.tmp 6) 1, none, 0⟩,
  ⟨(some 4), .alloc 24, none, 0⟩,
  ⟨none, .store 24 (.tmp 4) (.tmp 9), none, 0⟩,
  ⟨(some 5), .assign (.tmp 10), none, 0⟩]
def L39r2 : List AOp := [
  ⟨(some 11), .move (.tmp 5), none, 0⟩,
  ⟨(some 12), .binOp .neq 40 (.tmp 11) (.const .nilIface) 40, none, 0⟩]
def L39r3 : List AOp := [
  ⟨(some 13), .build 24 #[], none, 0⟩,
  ⟨(some 14), .move (.tmp 5), none, 0⟩,
  ⟨none, .store 24 (.tmp 2) (.tmp 13), none, 0⟩,
  ⟨(some 3), .assign (.tmp 14), none, 0⟩]
def L39r4 : List AOp := [
  ⟨(some 15), .load 24 (.tmp 4), none, 0⟩,
  ⟨(some 16), .call { callee := .value (.func 23), args := #[.tmp 15], argTypes := #[24] }, none, 0⟩,
  ⟨none, .store 24 (.tmp 2) (.tmp 16), none, 0⟩,
  ⟨(some 3), .assign (.const .nilIface), none, 0⟩]
def L39 : LC := (.seq (.region L39r0) (.seq (.region L39r1) (.seq (.seq (.region L39r2) (.cond (.tmp 12) (.seq (.region L39r3) .ret) .skip)) (.seq (.region L39r4) .ret))))
theorem nt39 : Tryd.f39.ntmps = 17 := by kernel_rfl
theorem rs39 : Tryd.f39.results.toList = [.cell 2 24, .tmp 3] := by kernel_rfl
theorem lite39 : Tryd.f39.body.map (lite okDraw) = some L39 := by kernel_rfl
def L40r0 : List AOp := [
  ⟨(some 2), .box 24 (.tmp 0), none, 0⟩,
  ⟨(some 3), .box 24 (.tmp 1), none, 0⟩,
  ⟨(some 4), .alloc 24, none, 0⟩]
def L40r1 : List AOp := [
  ⟨(some 5), .load 24 (.tmp 2), none, 0⟩,
  ⟨(some 6), .load 24 (.tmp 3), none, 0⟩,
  ⟨(some 7), .load 52 (.global 0), none, 0⟩,
  ⟨(some 8), .call { callee := .value (.func 58), args := #[.tmp 5, .tmp 6, .tmp 7], argTypes := #[24, 24, 52] }, none, 0⟩,
  ⟨none, .store 24 (.tmp 4) (.tmp 8), none, 0⟩]
def L40 : LC := (.seq (.region L40r0) (.seq (.region L40r1) .ret))
theorem nt40 : Tryd.f40.ntmps = 9 := by kernel_rfl
theorem rs40 : Tryd.f40.results.toList = [.cell 4 24] := by kernel_rfl
theorem lite40 : Tryd.f40.body.map (lite okDraw) = some L40 := by kernel_rfl
def L41r0 : List AOp := [
  ⟨(some 4), .assign (.const (.slice none 0 0)), none, 0⟩]
def L41r1 : List AOp := [
  ⟨(some 5), .move (.tmp 0), none, 0⟩,
  ⟨(some 6), .move (.tmp 1), none, 0⟩,
  ⟨(some 7), .call { callee := .value (.func 59), args := #[.tmp 5, .tmp 6], argTypes := #[28, 28] }, none, 0⟩,
  ⟨(some 8), .call { callee := .value (.func 18), args := #[.tmp 7], argTypes := #[28] }, none, 0⟩,
  ⟨(some 4), .assign (.tmp 8), none, 0⟩]
def L41 : LC := (.seq (.region L41r0) (.seq (.region L41r1) .ret))
theorem nt41 : Tryd.f41.ntmps = 9 := by kernel_rfl
theorem rs41 : Tryd.f41.results.toList = [.tmp 4] := by kernel_rfl
theorem lite41 : Tryd.f41.body.map (lite okDraw) = some L41 := by kernel_rfl
def L42r0 : List AOp := [
  ⟨(some 2), .box 24 (.tmp 0), none, 0⟩,
  ⟨(some 3), .box 24 (.tmp 1), none, 0⟩,
  ⟨(some 4), .alloc 24, none, 0⟩]
def L42r1 : List AOp := [
  ⟨(some 5), .load 24 (.tmp 2), none, 0⟩,
  ⟨(some 6), .load 24 (.tmp 3), none, 0⟩,
  ⟨(some 7), .load 52 (.global 1), none, 0⟩,
  ⟨(some 8), .call { callee := .value (.func 58), args := #[.tmp 5, .tmp 6, .tmp 7], argTypes := #[24, 24, 52] }, none, 0⟩,
  ⟨none, .store 24 (.tmp 4) (.tmp 8), none, 0⟩]
def L42 : LC := (.seq (.region L42r0) (.seq (.region L42r1) .ret))
theorem nt42 : Tryd.f42.ntmps = 9 := by kernel_rfl
theorem rs42 : Tryd.f42.results.toList = [.cell 4 24] := by kernel_rfl
theorem lite42 : Tryd.f42.body.map (lite okDraw) = some L42 := by kernel_rfl
def L43r0 : List AOp := [
  ⟨(some 4), .assign (.const (.slice none 0 0)), none, 0⟩]
def L43r1 : List AOp := [
  ⟨(some 5), .move (.tmp 0), none, 0⟩,
  ⟨(some 6), .move (.tmp 1), none, 0⟩,
  ⟨(some 7), .call { callee := .value (.func 59), args := #[.tmp 5, .tmp 6], argTypes := #[28, 28] }, none, 0⟩,
  ⟨(some 8), .call { callee := .value (.func 24), args := #[.tmp 7], argTypes := #[28] }, none, 0⟩,
  ⟨(some 4), .assign (.tmp 8), none, 0⟩]
def L43 : LC := (.seq (.region L43r0) (.seq (.region L43r1) .ret))
theorem nt43 : Tryd.f43.ntmps = 9 := by kernel_rfl
theorem rs43 : Tryd.f43.results.toList = [.tmp 4] := by kernel_rfl
theorem lite43 : Tryd.f43.body.map (lite okDraw) = some L43 := by kernel_rfl
def L44r0 : List AOp := [
  ⟨(some 1), .box 24 (.tmp 0), none, 0⟩,
  ⟨(some 2), .alloc 24, none, 0⟩]
def L44r1 : List AOp := [
  ⟨(some 6), .fieldAddr 52 (.global 0) 0, none, 0⟩,
  ⟨(some 7), .load 24 (.tmp 6), none, 0⟩,
  ⟨(some 8), .build 24 #[(0, .const (.int .u64 2))], none, 0⟩,
  ⟨(some 9), .call { callee := .value (.func 60), args := #[.tmp 7, .tmp 8], argTypes := #[24, 24] }, none, 0⟩,
  ⟨(some 5), .move (.tmp 9), none, 0⟩,
  ⟨(some 10), .extract (.tmp 5) 0, none, 0⟩,
  ⟨(some 11), .extract (.tmp 5) 1, none, 0⟩,
  ⟨(some 3), .alloc 24, none, 0⟩,
  ⟨none, .store 24 (.tmp 3) (.tmp 10), none, 0⟩,
  ⟨(some 4), .assign (.tmp 11), none, 0⟩]
def L44r2 : List AOp := [
  ⟨(some 12), .load 24 (.tmp 1), none, 0⟩,
  ⟨(some 13), .load 24 (.tmp 3), none, 0⟩,
  ⟨(some 14), .load 52 (.global 0), none, 0⟩,
  ⟨(some 15), .call { callee := .value (.func 61), args := #[.tmp 12, .tmp 13, .tmp 14], argTypes := #[24, 24, 52] }, none, 0⟩,
  ⟨none, .store 24 (.tmp 2) (.tmp 15), none, 0⟩]
def L44 : LC := (.seq (.region L44r0) (.seq (.region L44r1) (.seq (.region L44r2) .ret)))
theorem nt44 : Tryd.f44.ntmps = 16 := by kernel_rfl
theorem rs44 : Tryd.f44.results.toList = [.cell 2 24] := by kernel_rfl
theorem lite44 : Tryd.f44.body.map (lite okDraw) = some L44 := by kernel_rfl
def L45r0 : List AOp := [
  ⟨(some 1), .box 24 (.tmp 0), none, 0⟩,
  ⟨(some 2), .alloc 24, none, 0⟩]
def L45r1 : List AOp := [
  ⟨(some 6), .fieldAddr 52 (.global 1) 0, none, 0⟩,
  ⟨(some 7), .load 24 (.tmp 6), none, 0⟩,
  ⟨(some 8), .build 24 #[(0, .const (.int .u64 2))], none, 0⟩,
  ⟨(some 9), .call { callee := .value (.func 60), args := #[.tmp 7, .tmp 8], argTypes := #[24, 24] }, none, 0⟩,
  ⟨(some 5), .move (.tmp 9), none, 0⟩,
  ⟨(some 10), .extract (.tmp 5) 0, none, 0⟩,
  ⟨(some 11), .extract (.tmp 5) 1, none, 0⟩,
  ⟨(some 3), .alloc 24, none, 0⟩,
  ⟨none, .store 24 (.tmp 3) (.tmp 10), none, 0⟩,
  ⟨(some 4), .assign (.tmp 11), none, 0⟩]
def L45r2 : List AOp := [
  ⟨(some 12), .load 24 (.tmp 1), none, 0⟩,
  ⟨(some 13), .load 24 (.tmp 3), none, 0⟩,
  ⟨(some 14), .load 52 (.global 1), none, 0⟩,
  ⟨(some 15), .call { callee := .value (.func 61), args := #[.tmp 12, .tmp 13, .tmp 14], argTypes := #[24, 24, 52] }, none, 0⟩,
  ⟨none, .store 24 (.tmp 2) (.tmp 15), none, 0⟩]
def L45 : LC := (.seq (.region L45r0) (.seq (.region L45r1) (.seq (.region L45r2) .ret)))
theorem nt45 : Tryd.f45.ntmps = 16 := by kernel_rfl
theorem rs45 : Tryd.f45.results.toList = [.cell 2 24] := by kernel_rfl
theorem lite45 : Tryd.f45.body.map (lite okDraw) = some L45 := by kernel_rfl
def L46r0 : List AOp := [
  ⟨(some 1), .box 24 (.tmp 0), none, 0⟩,
  ⟨(some 2), .alloc 24, none, 0⟩,
  ⟨(some 3), .assign (.const .nilIface), none, 0⟩]
def L46r1 : List AOp := [
  ⟨(some 10), .fieldAddr 52 (.global 0) 0, none, 0⟩,
  ⟨(some 11), .load 24 (.tmp 10), none, 0⟩,
  ⟨(some 12), .build 24 #[(0, .const (.int .u64 1))], none, 0⟩,
  ⟨(some 13), .call { callee := .value (.func 62), args := #[.tmp 11, .tmp 12], argTypes := #[24, 24] }, none, 0⟩,
  ⟨(some 9), .move (.tmp 13), none, 0⟩,
  ⟨(some 14), .extract (.tmp 9) 0, none, 0⟩,
  ⟨(some 15), .extract (.tmp 9) 1, none, 0⟩,
  ⟨(some 4), .alloc 24, none, 0⟩,
  ⟨none, .store 24 (.tmp 4) (.tmp 14), none, 0⟩,
  ⟨(some 5), .assign (.tmp 15), none, 0⟩]
def L46r2 : List AOp := [
  ⟨(some 6), .alloc 24, none, 0⟩]
def L46r3 : List AOp := [
  ⟨(some 16), .move (.const (.int .i64 0)), none, 0⟩]
def L46r4 : List AOp := [
  ⟨(some 17), .binOp .lss 3 (.tmp 16) (.const (.int .i64 6)) 3, none, 0⟩]
def L46r5 : List AOp := [
  ⟨(some 18), .move (.tmp 16), none, 0⟩,
  ⟨(some 7), .assign (.tmp 18), none, 0⟩]
def L46r6 : List AOp := [
  ⟨(some 19), .move (.tmp 7), none, 0⟩,
  ⟨(some 20), .move (.tmp 7), none, 0⟩,
  ⟨(some 21), .indexAddr 24 (.tmp 4) (.tmp 20), none, 0⟩,
  ⟨(some 22), .load 22 (.tmp 21), none, 0⟩,
  ⟨(some 23), .binOp .shr 22 (.tmp 22) (.const (.int .u64 2)) 59, none, 0⟩,
  ⟨(some 24), .indexAddr 24 (.tmp 6) (.tmp 19), none, 0⟩,
  ⟨none, .store 22 (.tmp 24) (.tmp 23), none, 0⟩]
def L46r7 : List AOp := [
  ⟨(some 25), .move (.tmp 7), none, 0⟩,
  ⟨(some 26), .binOp .add 3 (.tmp 25) (.const (.int .i64 1)) 3, none, 0⟩,
  ⟨(some 27), .binOp .lss 3 (.tmp 26) (.const (.int .i64 6)) 3, none, 0⟩]
def L46r8 : List AOp := [
  ⟨(some 28), .move (.tmp 7), none, 0⟩,
  ⟨(some 29), .indexAddr 24 (.tmp 6) (.tmp 28), none, 1⟩,
  ⟨(some 30), .load 22 (.tmp 29), none, 3⟩,
  ⟨(some 31), .move (.tmp 7), none, 0⟩,
  ⟨(some 32), .binOp .add 3 (.tmp 31) (.const (.int .i64 1)) 3, none, 8⟩,
  ⟨(some 33), .indexAddr 24 (.tmp 4) (.tmp 32), none, 24⟩,
  ⟨(some 34), .load 22 (.tmp 33), none, 56⟩,
  ⟨(some 35), .binOp .shl 22 (.tmp 34) (.const (.int .u64 62)) 59, none, 120⟩,
  ⟨(some 36), .binOp .or 22 (.tmp 30) (.tmp 35) 22, none, 1267650600228229401496703205631⟩,
  ⟨(some 37), .indexAddr 24 (.tmp 6) (.tmp 28), none, 1267650600228229401496703205887⟩,
  ⟨none, .store 22 (.tmp 37) (.tmp 36), none, 1267650600228229401496703206399⟩]
def L46r9 : List AOp := [
  ⟨(some 38), .binOp .add 3 (.tmp 16) (.const (.int .i64 1)) 3, none, 0⟩,
  ⟨(some 16), .move (.tmp 38), none, 0⟩]
def L46r10 : List AOp := [
  ⟨(some 39), .load 24 (.tmp 1), none, 0⟩,
  ⟨(some 40), .load 24 (.tmp 6), none, 0⟩,
  ⟨(some 41), .load 52 (.global 0), none, 0⟩,
  ⟨(some 42), .call { callee := .value (.func 61), args := #[.tmp 39, .tmp 40, .tmp 41], argTypes := #[24, 24, 52] }, none, 0⟩,
  ⟨(some 8), .alloc 24, none, 0⟩,
  ⟨none, .store 24 (.tmp 8) (.tmp 42), none, 0⟩]
def L46r11 : List AOp := [
  ⟨(some 43), .load 24 (.tmp 8), none, 0⟩,
  ⟨(some 44), .load 24 (.tmp 8), none, 0⟩,
  ⟨(some 45), .call { callee := .value (.func 40), args := #[.tmp 43, .tmp 44], argTypes := #[24, 24] }, none, 3⟩,
  ⟨(some 46), .load 24 (.tmp 1), none, 0⟩,
  ⟨(some 47), .call { callee := .value (.func 17), args := #[.tmp 46], argTypes := #[24] }, none, 1267650600228229401496703205391⟩,
  ⟨(some 48), .call { callee := .value (.func 63), args := #[.tmp 45, .tmp 47], argTypes := #[24, 24] }, none, 1267650600228229401496703205407⟩,
  ⟨(some 49), .binOp .eql 22 (.tmp 48) (.const (.int .u64 0)) 22, none, 1267650600228229401496703205439⟩]
def L46r12 : List AOp := [
  ⟨(some 50), .build 24 #[], none, 0⟩,
  ⟨(some 51), .makeInterface 43 (.const (.int .i64 17)), none, 0⟩,
  ⟨none, .store 24 (.tmp 2) (.tmp 50), none, 0⟩,
  ⟨(some 3), .assign (.tmp 51), none, 0⟩]
def L46r13 : List AOp := [
  ⟨(some 52), .load 24 (.tmp 8), none, 0⟩,
  ⟨(some 53), .call { callee := .value (.func 65), args := #[.tmp 52, .const (.int .i64 0)], argTypes := #[24, 3] }, none, 1⟩,
  ⟨(some 54), .load 24 (.tmp 8), none, 0⟩,
  ⟨(some 55), .load 24 (.tmp 8), none, 0⟩,
  ⟨(some 56), .call { callee := .value (.func 33), args := #[.tmp 55], argTypes := #[24] }, none, 11⟩,
  ⟨(some 57), .call { callee := .value (.func 64), args := #[.tmp 53, .tmp 54, .tmp 56], argTypes := #[22, 24, 24] }, none, 1267650600228229401496703205407⟩,
  ⟨none, .store 24 (.tmp 2) (.tmp 57), none, 1267650600228229401496703205439⟩,
  ⟨(some 3), .assign (.const .nilIface), none, 1267650600228229401496703205503⟩]
def L46 : LC := (.seq (.region L46r0) (.seq (.region L46r1) (.seq (.region L46r2) (.seq (.seq (.region L46r3) (.block 0 (.loop (.seq (.region L46r4) (.seq (.cond (.tmp 17) .skip (.exit 0)) (.seq (.block 1 (.seq (.region L46r5) (.seq (.region L46r6) (.seq (.region L46r7) (.cond (.tmp 27) (.regionD L46r8) .skip))))) (.region L46r9))))))) (.seq (.region L46r10) (.seq (.seq (.regionD L46r11) (.cond (.tmp 49) (.seq (.region L46r12) .ret) .skip)) (.seq (.regionD L46r13) .ret)))))))
theorem nt46 : Tryd.f46.ntmps = 58 := by kernel_rfl
theorem rs46 : Tryd.f46.results.toList = [.cell 2 24, .tmp 3] := by kernel_rfl
theorem lite46 : Tryd.f46.body.map (lite okDraw) = some L46 := by kernel_rfl
def L47r0 : List AOp := [
  ⟨(some 2), .assign (.const (.bool false)), none, 0⟩]
def L47r1 : List AOp := [
  ⟨(some 7), .call { callee := .value (.func 16), args := #[], argTypes := #[] }, none, 0⟩,
  ⟨(some 8), .buildSlice 28 1 #[(0, .const (.int .u64 2))], none, 0⟩,
  ⟨(some 9), .call { callee := .value (.func 66), args := #[.tmp 7, .tmp 8], argTypes := #[28, 28] }, none, 0⟩,
  ⟨(some 6), .move (.tmp 9), none, 0⟩,
  ⟨(some 10), .extract (.tmp 6) 0, none, 0⟩,
  ⟨(some 11), .extract (.tmp 6) 1, none, 0⟩,
  ⟨(some 3), .assign (.tmp 10), none, 0⟩,
  ⟨(some 4), .assign (.tmp 11), none, 0⟩]
def L47r2 : List AOp := [
  ⟨(some 12), .move (.tmp 0), none, 0⟩,
  ⟨(some 13), .move (.tmp 3), none, 0⟩,
  ⟨(some 14), .call { callee := .value (.func 16), args := #[], argTypes := #[] }, none, 0⟩,
  ⟨(some 15), .call { callee := .value (.func 67), args := #[.tmp 12, .tmp 13, .tmp 14], argTypes := #[28, 28, 28] }, none, 0⟩,
  ⟨(some 5), .assign (.tmp 15), none, 0⟩]
def L47r3 : List AOp := [
  ⟨(some 16), .move (.tmp 5), none, 0⟩,
  ⟨(some 17), .call { callee := .builtin .len, args := #[.tmp 16], argTypes := #[28] }, none, 0⟩,
  ⟨(some 18), .binOp .eql 3 (.tmp 17) (.const (.int .i64 0)) 3, none, 0⟩,
  ⟨(some 19), .move (.tmp 18), none, 0⟩,
  ⟨(some 20), .move (.tmp 5), (some (19, false)), 0⟩,
  ⟨(some 21), .call { callee := .builtin .len, args := #[.tmp 20], argTypes := #[28] }, (some (19, false)), 0⟩,
  ⟨(some 22), .binOp .eql 3 (.tmp 21) (.const (.int .i64 1)) 3, (some (19, false)), 0⟩,
  ⟨(some 23), .move (.tmp 22), (some (19, false)), 0⟩,
  ⟨(some 24), .move (.tmp 5), (some (23, true)), 0⟩,
  ⟨(some 25), .indexAddr 28 (.tmp 24) (.const (.int .i64 0)), (some (23, true)), 0⟩,
  ⟨(some 26), .load 22 (.tmp 25), (some (23, true)), 0⟩,
  ⟨(some 27), .binOp .eql 22 (.tmp 26) (.const (.int .u64 1)) 22, (some (23, true)), 0⟩,
  ⟨(some 28), .pick (.tmp 23) (.tmp 27) (.const (.bool false)), (some (19, false)), 0⟩,
  ⟨(some 29), .pick (.tmp 19) (.const (.bool true)) (.tmp 28), none, 0⟩,
  ⟨(some 2), .assign (.tmp 29), none, 0⟩]
def L47 : LC := (.seq (.region L47r0) (.seq (.region L47r1) (.seq (.region L47r2) (.seq (.region L47r3) .ret))))
theorem nt47 : Tryd.f47.ntmps = 30 := by kernel_rfl
theorem rs47 : Tryd.f47.results.toList = [.tmp 2] := by kernel_rfl
theorem lite47 : Tryd.f47.body.map (lite okDraw) = some L47 := by kernel_rfl
def L48r0 : List AOp := [
  ⟨(some 2), .alloc 23, none, 0⟩]
def L48r1 : List AOp := [
  ⟨(some 3), .alloc 23, none, 0⟩]
def L48r2 : List AOp := [
  ⟨(some 4), .assign (.const (.int .i64 0)), none, 0⟩]
def L48r3 : List AOp := [
  ⟨(some 5), .move (.tmp 4), none, 0⟩,
  ⟨(some 6), .binOp .lss 3 (.tmp 5) (.const (.int .i64 12)) 3, none, 0⟩,
  ⟨(some 7), .move (.tmp 6), none, 0⟩,
  ⟨(some 8), .move (.tmp 4), (some (7, true)), 0⟩,
  ⟨(some 9), .move (.tmp 0), (some (7, true)), 0⟩,
  ⟨(some 10), .call { callee := .builtin .len, args := #[.tmp 9], argTypes := #[28] }, (some (7, true)), 0⟩,
  ⟨(some 11), .binOp .lss 3 (.tmp 8) (.tmp 10) 3, (some (7, true)), 0⟩,
  ⟨(some 12), .pick (.tmp 7) (.tmp 11) (.const (.bool false)), none, 0⟩]
def L48r5 : List AOp := [
  ⟨(some 15), .move (.tmp 4), none, 0⟩,
  ⟨(some 16), .binOp .rem 3 (.tmp 15) (.const (.int .i64 2)) 3, none, 0⟩,
  ⟨(some 17), .binOp .eql 3 (.tmp 16) (.const (.int .i64 0)) 3, none, 0⟩]
def L48r6 : List AOp := [
  ⟨(some 18), .move (.tmp 4), none, 0⟩,
  ⟨(some 19), .binOp .quo 3 (.tmp 18) (.const (.int .i64 2)) 3, none, 0⟩,
  ⟨(some 20), .move (.tmp 0), none, 0⟩,
  ⟨(some 21), .move (.tmp 4), none, 0⟩,
  ⟨(some 22), .indexAddr 28 (.tmp 20) (.tmp 21), none, 0⟩,
  ⟨(some 23), .load 22 (.tmp 22), none, 0⟩,
  ⟨(some 24), .indexAddr 23 (.tmp 3) (.tmp 19), none, 0⟩,
  ⟨none, .store 22 (.tmp 24) (.tmp 23), none, 0⟩]
def L48r7 : List AOp := [
  ⟨(some 25), .move (.tmp 4), none, 0⟩,
  ⟨(some 26), .binOp .quo 3 (.tmp 25) (.const (.int .i64 2)) 3, none, 1⟩,
  ⟨(some 27), .move (.tmp 4), none, 0⟩,
  ⟨(some 28), .binOp .quo 3 (.tmp 27) (.const (.int .i64 2)) 3, none, 4⟩,
  ⟨(some 29), .indexAddr 23 (.tmp 3) (.tmp 28), none, 12⟩,
  ⟨(some 30), .load 22 (.tmp 29), none, 28⟩,
  ⟨(some 31), .move (.tmp 0), none, 0⟩,
  ⟨(some 32), .move (.tmp 4), none, 0⟩,
  ⟨(some 33), .indexAddr 28 (.tmp 31) (.tmp 32), none, 192⟩,
  ⟨(some 34), .load 22 (.tmp 33), none, 448⟩,
  ⟨(some 35), .binOp .mul 22 (.tmp 34) (.const (.int .u64 4294967296)) 22, none, 960⟩,
  ⟨(some 36), .binOp .add 22 (.tmp 30) (.tmp 35) 22, none, 2044⟩,
  ⟨(some 37), .indexAddr 23 (.tmp 3) (.tmp 26), none, 1267650600228229401496703209471⟩,
  ⟨none, .store 22 (.tmp 37) (.tmp 36), none, 1267650600228229401496703213567⟩]
def L48r4 : List AOp := [
  ⟨(some 13), .move (.tmp 4), none, 0⟩,
  ⟨(some 14), .binOp .add 3 (.tmp 13) (.const (.int .i64 1)) 3, none, 0⟩,
  ⟨(some 4), .assign (.tmp 14), none, 0⟩]
def L48r8 : List AOp := [
  ⟨(some 38), .load 23 (.tmp 3), none, 0⟩,
  ⟨none, .store 23 (.tmp 2) (.tmp 38), none, 0⟩]
def L48 : LC := (.seq (.region L48r0) (.seq (.region L48r1) (.seq (.seq (.region L48r2) (.block 0 (.loop (.seq (.seq (.region L48r3) (.cond (.tmp 12) .skip (.exit 0))) (.seq (.block 1 (.seq (.region L48r5) (.cond (.tmp 17) (.region L48r6) (.regionD L48r7)))) (.region L48r4)))))) (.seq (.region L48r8) .ret))))
theorem nt48 : Tryd.f48.ntmps = 39 := by kernel_rfl
theorem rs48 : Tryd.f48.results.toList = [.cell 2 23] := by kernel_rfl
theorem lite48 : Tryd.f48.body.map (lite okDraw) = some L48 := by kernel_rfl
def L49r0 : List AOp := [
  ⟨(some 3), .box 24 (.tmp 0), none, 0⟩,
  ⟨(some 4), .box 24 (.tmp 1), none, 0⟩,
  ⟨(some 5), .box 52 (.tmp 2), none, 0⟩,
  ⟨(some 6), .alloc 24, none, 0⟩]
def L49r1 : List AOp := [
  ⟨(some 10), .load 24 (.tmp 3), none, 0⟩,
  ⟨(some 11), .load 52 (.tmp 5), none, 0⟩,
  ⟨(some 12), .call { callee := .value (.func 68), args := #[.tmp 10, .tmp 11], argTypes := #[24, 52] }, none, 3⟩,
  ⟨(some 13), .load 24 (.tmp 4), none, 0⟩,
  ⟨(some 14), .load 52 (.tmp 5), none, 0⟩,
  ⟨(some 15), .call { callee := .value (.func 68), args := #[.tmp 13, .tmp 14], argTypes := #[24, 52] }, none, 31⟩,
  ⟨(some 16), .call { callee := .value (.func 62), args := #[.tmp 12, .tmp 15], argTypes := #[24, 24] }, none, 63⟩,
  ⟨(some 9), .move (.tmp 16), none, 127⟩,
  ⟨(some 17), .extract (.tmp 9) 0, none, 255⟩,
  ⟨(some 18), .extract (.tmp 9) 1, none, 255⟩,
  ⟨(some 7), .alloc 24, none, 0⟩,
  ⟨none, .store 24 (.tmp 7) (.tmp 17), none, 1535⟩,
  ⟨(some 8), .assign (.tmp 18), none, 1267650600228229401496703209471⟩]
def L49r2 : List AOp := [
  ⟨(some 19), .load 24 (.tmp 7), none, 0⟩,
  ⟨(some 20), .move (.tmp 8), none, 0⟩,
  ⟨(some 21), .fieldAddr 52 (.tmp 5) 0, none, 0⟩,
  ⟨(some 22), .load 24 (.tmp 21), none, 0⟩,
  ⟨(some 23), .call { callee := .value (.func 69), args := #[.tmp 19, .tmp 20, .tmp 22], argTypes := #[24, 22, 24] }, none, 0⟩,
  ⟨none, .store 24 (.tmp 6) (.tmp 23), none, 0⟩]
def L49 : LC := (.seq (.region L49r0) (.seq (.regionD L49r1) (.seq (.region L49r2) .ret)))
theorem nt49 : Tryd.f49.ntmps = 24 := by kernel_rfl
theorem rs49 : Tryd.f49.results.toList = [.cell 6 24] := by kernel_rfl
theorem lite49 : Tryd.f49.body.map (lite okDraw) = some L49 := by kernel_rfl
def L50r0 : List AOp := [
  ⟨(some 4), .assign (.const (.slice none 0 0)), none, 0⟩]
def L50r1 : List AOp := [
  ⟨(some 8), .call { callee := .value (.func 70), args := #[], argTypes := #[] }, none, 0⟩,
  ⟨(some 9), .move (.tmp 1), none, 0⟩,
  ⟨(some 10), .call { callee := .value (.func 55), args := #[.tmp 8, .tmp 9], argTypes := #[28, 28] }, none, 0⟩,
  ⟨(some 5), .assign (.tmp 10), none, 0⟩]
def L50r2 : List AOp := [
  ⟨(some 12), .move (.tmp 0), none, 0⟩,
  ⟨(some 13), .call { callee := .value (.func 71), args := #[.tmp 12], argTypes := #[28] }, none, 0⟩,
  ⟨(some 11), .move (.tmp 13), none, 0⟩,
  ⟨(some 14), .extract (.tmp 11) 0, none, 0⟩,
  ⟨(some 15), .extract (.tmp 11) 1, none, 0⟩,
  ⟨(some 6), .assign (.tmp 14), none, 0⟩,
  ⟨(some 7), .assign (.tmp 15), none, 0⟩]
def L50r3 : List AOp := [
  ⟨(some 16), .move (.tmp 7), none, 0⟩,
  ⟨(some 17), .call { callee := .builtin .len, args := #[.tmp 16], argTypes := #[28] }, none, 0⟩,
  ⟨(some 18), .binOp .gtr 3 (.tmp 17) (.const (.int .i64 0)) 3, none, 0⟩]
def L50r4 : List AOp := [
  ⟨(some 20), .move (.tmp 6), none, 0⟩,
  ⟨(some 21), .move (.tmp 7), none, 0⟩,
  ⟨(some 22), .move (.tmp 5), none, 0⟩,
  ⟨(some 23), .call { callee := .value (.func 59), args := #[.tmp 21, .tmp 22], argTypes := #[28, 28] }, none, 0⟩,
  ⟨(some 24), .call { callee := .value (.func 27), args := #[.tmp 20, .tmp 23], argTypes := #[28, 28] }, none, 0⟩,
  ⟨(some 25), .call { callee := .value (.func 71), args := #[.tmp 24], argTypes := #[28] }, none, 0⟩,
  ⟨(some 19), .move (.tmp 25), none, 0⟩,
  ⟨(some 26), .extract (.tmp 19) 0, none, 0⟩,
  ⟨(some 27), .extract (.tmp 19) 1, none, 0⟩,
  ⟨(some 6), .assign (.tmp 26), none, 0⟩,
  ⟨(some 7), .assign (.tmp 27), none, 0⟩]
def L50r5 : List AOp := [
  ⟨(some 28), .move (.tmp 6), none, 0⟩,
  ⟨(some 29), .move (.tmp 1), none, 0⟩,
  ⟨(some 30), .call { callee := .value (.func 37), args := #[.tmp 28, .tmp 29], argTypes := #[28, 28] }, none, 0⟩,
  ⟨(some 31), .binOp .geq 3 (.tmp 30) (.const (.int .i64 0)) 3, none, 0⟩]
def L50r6 : List AOp := [
  ⟨(some 32), .move (.tmp 6), none, 0⟩,
  ⟨(some 33), .move (.tmp 1), none, 0⟩,
  ⟨(some 34), .call { callee := .value (.func 55), args := #[.tmp 32, .tmp 33], argTypes := #[28, 28] }, none, 0⟩,
  ⟨(some 6), .assign (.tmp 34), none, 0⟩]
def L50r7 : List AOp := [
  ⟨(some 35), .move (.tmp 6), none, 0⟩,
  ⟨(some 4), .assign (.tmp 35), none, 0⟩]
def L50 : LC := (.seq (.region L50r0) (.seq (.region L50r1) (.seq (.region L50r2) (.seq (.block 0 (.loop (.seq (.seq (.region L50r3) (.cond (.tmp 18) .skip (.exit 0))) (.block 1 (.region L50r4))))) (.seq (.block 2 (.loop (.seq (.seq (.region L50r5) (.cond (.tmp 31) .skip (.exit 2))) (.block 3 (.region L50r6))))) (.seq (.region L50r7) .ret))))))
theorem nt50 : Tryd.f50.ntmps = 36 := by kernel_rfl
theorem rs50 : Tryd.f50.results.toList = [.tmp 4] := by kernel_rfl
theorem lite50 : Tryd.f50.body.map (lite okDraw) = some L50 := by kernel_rfl
def L51r0 : List AOp := [
  ⟨(some 1), .box 23 (.tmp 0), none, 0⟩,
  ⟨(some 2), .assign (.const (.slice none 0 0)), none, 0⟩]
def L51r1 : List AOp := [
  ⟨(some 3), .assign (.const (.slice none 0 0)), none, 0⟩]
def L51r2 : List AOp := [
  ⟨(some 4), .assign (.const (.int .i64 0)), none, 0⟩]
def L51r3 : List AOp := [
  ⟨(some 5), .move (.tmp 4), none, 0⟩,
  ⟨(some 6), .binOp .lss 3 (.tmp 5) (.const (.int .i64 6)) 3, none, 0⟩]
def L51r5 : List AOp := [
  ⟨(some 9), .move (.tmp 3), none, 0⟩,
  ⟨(some 10), .move (.tmp 4), none, 0⟩,
  ⟨(some 11), .indexAddr 23 (.tmp 1) (.tmp 10), none, 0⟩,
  ⟨(some 12), .load 22 (.tmp 11), none, 0⟩,
  ⟨(some 13), .buildSlice 27 1 #[(0, .tmp 12)], none, 0⟩,
  ⟨(some 14), .call { callee := .builtin .append, args := #[.tmp 9, .tmp 13], argTypes := #[27, 27] }, none, 0⟩,
  ⟨(some 3), .assign (.tmp 14), none, 0⟩]
def L51r4 : List AOp := [
  ⟨(some 7), .move (.tmp 4), none, 0⟩,
  ⟨(some 8), .binOp .add 3 (.tmp 7) (.const (.int .i64 1)) 3, none, 0⟩,
  ⟨(some 4), .assign (.tmp 8), none, 0⟩]
def L51r6 : List AOp := [
  ⟨(some 15), .move (.tmp 3), none, 0⟩,
  ⟨(some 16), .call { callee := .value (.func 72), args := #[.tmp 15], argTypes := #[27] }, none, 0⟩,
  ⟨(some 2), .assign (.tmp 16), none, 0⟩]
def L51 : LC := (.seq (.region L51r0) (.seq (.region L51r1) (.seq (.seq (.region L51r2) (.block 0 (.loop (.seq (.seq (.region L51r3) (.cond (.tmp 6) .skip (.exit 0))) (.seq (.block 1 (.region L51r5)) (.region L51r4)))))) (.seq (.region L51r6) .ret))))
theorem nt51 : Tryd.f51.ntmps = 17 := by kernel_rfl
theorem rs51 : Tryd.f51.results.toList = [.tmp 2] := by kernel_rfl
theorem lite51 : Tryd.f51.body.map (lite okDraw) = some L51 := by kernel_rfl
def L52r0 : List AOp := [
  ⟨(some 4), .assign (.const (.int .u64 0)), none, 0⟩]
def L52r1 : List AOp := [
  ⟨(some 5), .move (.tmp 1), none, 0⟩,
  ⟨(some 6), .move (.tmp 0), none, 0⟩,
  ⟨(some 7), .call { callee := .builtin .len, args := #[.tmp 6], argTypes := #[28] }, none, 0⟩,
  ⟨(some 8), .binOp .lss 3 (.tmp 5) (.tmp 7) 3, none, 0⟩]
def L52r2 : List AOp := [
  ⟨(some 9), .move (.tmp 0), none, 0⟩,
  ⟨(some 10), .move (.tmp 1), none, 0⟩,
  ⟨(some 11), .indexAddr 28 (.tmp 9) (.tmp 10), none, 0⟩,
  ⟨(some 12), .load 22 (.tmp 11), none, 0⟩,
  ⟨(some 4), .assign (.tmp 12), none, 0⟩]
def L52r3 : List AOp := [
  ⟨(some 4), .assign (.const (.int .u64 0)), none, 0⟩]
def L52 : LC := (.seq (.region L52r0) (.seq (.seq (.region L52r1) (.cond (.tmp 8) (.seq (.region L52r2) .ret) .skip)) (.seq (.region L52r3) .ret)))
theorem nt52 : Tryd.f52.ntmps = 13 := by kernel_rfl
theorem rs52 : Tryd.f52.results.toList = [.tmp 4] := by kernel_rfl
theorem lite52 : Tryd.f52.body.map (lite okDraw) = some L52 := by kernel_rfl
def L53r0 : List AOp := [
  ⟨(some 2), .assign (.const (.slice none 0 0)), none, 0⟩]
def L53r1 : List AOp := [
  ⟨(some 4), .move (.tmp 0), none, 0⟩,
  ⟨(some 5), .call { callee := .builtin .len, args := #[.tmp 4], argTypes := #[28] }, none, 0⟩,
  ⟨(some 3), .assign (.tmp 5), none, 0⟩]
def L53r2 : List AOp := [
  ⟨(some 6), .move (.tmp 3), none, 0⟩,
  ⟨(some 7), .binOp .gtr 3 (.tmp 6) (.const (.int .i64 0)) 3, none, 0⟩,
  ⟨(some 8), .move (.tmp 7), none, 0⟩,
  ⟨(some 9), .move (.tmp 0), (some (8, true)), 0⟩,
  ⟨(some 10), .move (.tmp 3), (some (8, true)), 0⟩,
  ⟨(some 11), .binOp .sub 3 (.tmp 10) (.const (.int .i64 1)) 3, (some (8, true)), 0⟩,
  ⟨(some 12), .indexAddr 28 (.tmp 9) (.tmp 11), (some (8, true)), 0⟩,
  ⟨(some 13), .load 22 (.tmp 12), (some (8, true)), 0⟩,
  ⟨(some 14), .binOp .eql 22 (.tmp 13) (.const (.int .u64 0)) 22, (some (8, true)), 0⟩,
  ⟨(some 15), .pick (.tmp 8) (.tmp 14) (.const (.bool false)), none, 0⟩]
def L53r3 : List AOp := [
  ⟨(some 16), .move (.tmp 3), none, 0⟩,
  ⟨(some 17), .binOp .sub 3 (.tmp 16) (.const (.int .i64 1)) 3, none, 0⟩,
  ⟨(some 3), .assign (.tmp 17), none, 0⟩]
def L53r4 : List AOp := [
  ⟨(some 18), .move (.tmp 0), none, 0⟩,
  ⟨(some 19), .move (.tmp 3), none, 0⟩,
  ⟨(some 20), .slice 28 (.tmp 18) none (some (.tmp 19)) none, none, 0⟩,
  ⟨(some 2), .assign (.tmp 20), none, 0⟩]
def L53 : LC := (.seq (.region L53r0) (.seq (.region L53r1) (.seq (.block 0 (.loop (.seq (.seq (.region L53r2) (.cond (.tmp 15) .skip (.exit 0))) (.block 1 (.region L53r3))))) (.seq (.region L53r4) .ret))))
theorem nt53 : Tryd.f53.ntmps = 21 := by kernel_rfl
theorem rs53 : Tryd.f53.results.toList = [.tmp 2] := by kernel_rfl
theorem lite53 : Tryd.f53.body.map (lite okDraw) = some L53 := by kernel_rfl
def L54r0 : List AOp := [
  ⟨(some 3), .box 24 (.tmp 0), none, 0⟩,
  ⟨(some 4), .box 24 (.tmp 1), none, 0⟩,
  ⟨(some 5), .box 52 (.tmp 2), none, 0⟩,
  ⟨(some 6), .alloc 24, none, 0⟩]
def L54r1 : List AOp := [
  ⟨(some 12), .load 24 (.tmp 3), none, 0⟩,
  ⟨(some 13), .load 52 (.tmp 5), none, 0⟩,
  ⟨(some 14), .call { callee := .value (.func 68), args := #[.tmp 12, .tmp 13], argTypes := #[24, 52] }, none, 3⟩,
  ⟨(some 15), .load 24 (.tmp 4), none, 0⟩,
  ⟨(some 16), .load 52 (.tmp 5), none, 0⟩,
  ⟨(some 17), .call { callee := .value (.func 68), args := #[.tmp 15, .tmp 16], argTypes := #[24, 52] }, none, 31⟩,
  ⟨(some 18), .call { callee := .value (.func 60), args := #[.tmp 14, .tmp 17], argTypes := #[24, 24] }, none, 63⟩,
  ⟨(some 11), .move (.tmp 18), none, 127⟩,
  ⟨(some 19), .extract (.tmp 11) 0, none, 255⟩,
  ⟨(some 20), .extract (.tmp 11) 1, none, 255⟩,
  ⟨(some 7), .alloc 24, none, 0⟩,
  ⟨none, .store 24 (.tmp 7) (.tmp 19), none, 1535⟩,
  ⟨(some 8), .assign (.tmp 20), none, 1267650600228229401496703209471⟩]
def L54r2 : List AOp := [
  ⟨(some 22), .load 24 (.tmp 7), none, 0⟩,
  ⟨(some 23), .fieldAddr 52 (.tmp 5) 0, none, 0⟩,
  ⟨(some 24), .load 24 (.tmp 23), none, 0⟩,
  ⟨(some 25), .call { callee := .value (.func 62), args := #[.tmp 22, .tmp 24], argTypes := #[24, 24] }, none, 0⟩,
  ⟨(some 21), .move (.tmp 25), none, 0⟩,
  ⟨(some 26), .extract (.tmp 21) 0, none, 0⟩,
  ⟨(some 27), .extract (.tmp 21) 1, none, 0⟩,
  ⟨(some 9), .alloc 24, none, 0⟩,
  ⟨none, .store 24 (.tmp 9) (.tmp 26), none, 0⟩,
  ⟨(some 10), .assign (.tmp 27), none, 0⟩]
def L54r3 : List AOp := [
  ⟨(some 28), .move (.tmp 8), none, 0⟩,
  ⟨(some 29), .load 24 (.tmp 7), none, 0⟩,
  ⟨(some 30), .load 24 (.tmp 9), none, 0⟩,
  ⟨(some 31), .call { callee := .value (.func 64), args := #[.tmp 28, .tmp 29, .tmp 30], argTypes := #[22, 24, 24] }, none, 0⟩,
  ⟨none, .store 24 (.tmp 6) (.tmp 31), none, 0⟩]
def L54 : LC := (.seq (.region L54r0) (.seq (.regionD L54r1) (.seq (.region L54r2) (.seq (.region L54r3) .ret))))
theorem nt54 : Tryd.f54.ntmps = 32 := by kernel_rfl
theorem rs54 : Tryd.f54.results.toList = [.cell 6 24] := by kernel_rfl
theorem lite54 : Tryd.f54.body.map (lite okDraw) = some L54 := by kernel_rfl
def L55r0 : List AOp := [
  ⟨(some 4), .assign (.const (.slice none 0 0)), none, 0⟩]
def L55r1 : List AOp := [
  ⟨(some 5), .assign (.const (.slice none 0 0)), none, 0⟩]
def L55r2 : List AOp := [
  ⟨(some 6), .assign (.const (.int .u64 0)), none, 0⟩]
def L55r3 : List AOp := [
  ⟨(some 7), .assign (.const (.int .i64 0)), none, 0⟩]
def L55r4 : List AOp := [
  ⟨(some 9), .move (.tmp 7), none, 0⟩,
  ⟨(some 10), .move (.tmp 0), none, 0⟩,
  ⟨(some 11), .call { callee := .builtin .len, args := #[.tmp 10], argTypes := #[28] }, none, 0⟩,
  ⟨(some 12), .binOp .lss 3 (.tmp 9) (.tmp 11) 3, none, 0⟩]
def L55r6 : List AOp := [
  ⟨(some 15), .move (.tmp 0), none, 0⟩,
  ⟨(some 16), .move (.tmp 7), none, 0⟩,
  ⟨(some 17), .call { callee := .value (.func 52), args := #[.tmp 15, .tmp 16], argTypes := #[28, 3] }, none, 0⟩,
  ⟨(some 18), .binOp .add 22 (.tmp 17) (.const (.int .u64 4294967296)) 22, none, 0⟩,
  ⟨(some 19), .move (.tmp 1), none, 0⟩,
  ⟨(some 20), .move (.tmp 7), none, 0⟩,
  ⟨(some 21), .call { callee := .value (.func 52), args := #[.tmp 19, .tmp 20], argTypes := #[28, 3] }, none, 0⟩,
  ⟨(some 22), .binOp .sub 22 (.tmp 18) (.tmp 21) 22, none, 0⟩,
  ⟨(some 23), .move (.tmp 6), none, 0⟩,
  ⟨(some 24), .binOp .sub 22 (.tmp 22) (.tmp 23) 22, none, 0⟩,
  ⟨(some 8), .assign (.tmp 24), none, 0⟩]
def L55r7 : List AOp := [
  ⟨(some 25), .move (.tmp 5), none, 0⟩,
  ⟨(some 26), .move (.tmp 8), none, 0⟩,
  ⟨(some 27), .binOp .rem 22 (.tmp 26) (.const (.int .u64 4294967296)) 22, none, 0⟩,
  ⟨(some 28), .buildSlice 28 1 #[(0, .tmp 27)], none, 0⟩,
  ⟨(some 29), .call { callee := .builtin .append, args := #[.tmp 25, .tmp 28], argTypes := #[28, 28] }, none, 0⟩,
  ⟨(some 5), .assign (.tmp 29), none, 0⟩]
def L55r8 : List AOp := [
  ⟨(some 30), .move (.tmp 8), none, 0⟩,
  ⟨(some 31), .binOp .quo 22 (.tmp 30) (.const (.int .u64 4294967296)) 22, none, 0⟩,
  ⟨(some 32), .binOp .sub 22 (.const (.int .u64 1)) (.tmp 31) 22, none, 0⟩,
  ⟨(some 6), .assign (.tmp 32), none, 0⟩]
def L55r5 : List AOp := [
  ⟨(some 13), .move (.tmp 7), none, 0⟩,
  ⟨(some 14), .binOp .add 3 (.tmp 13) (.const (.int .i64 1)) 3, none, 0⟩,
  ⟨(some 7), .assign (.tmp 14), none, 0⟩]
def L55r9 : List AOp := [
  ⟨(some 33), .move (.tmp 5), none, 0⟩,
  ⟨(some 34), .call { callee := .value (.func 53), args := #[.tmp 33], argTypes := #[28] }, none, 0⟩,
  ⟨(some 4), .assign (.tmp 34), none, 0⟩]
def L55 : LC := (.seq (.region L55r0) (.seq (.region L55r1) (.seq (.region L55r2) (.seq (.seq (.region L55r3) (.block 0 (.loop (.seq (.seq (.region L55r4) (.cond (.tmp 12) .skip (.exit 0))) (.seq (.block 1 (.seq (.region L55r6) (.seq (.region L55r7) (.region L55r8)))) (.region L55r5)))))) (.seq (.region L55r9) .ret)))))
theorem nt55 : Tryd.f55.ntmps = 35 := by kernel_rfl
theorem rs55 : Tryd.f55.results.toList = [.tmp 4] := by kernel_rfl
theorem lite55 : Tryd.f55.body.map (lite okDraw) = some L55 := by kernel_rfl
def L56r0 : List AOp := [
  ⟨(some 2), .alloc 24, none, 0⟩,
  ⟨(some 3), .assign (.const .nilIface), none, 0⟩]
def L56r1 : List AOp := [
  ⟨(some 4), .alloc 24, none, 0⟩]
def L56r2 : List AOp := [
  ⟨(some 7), .move (.tmp 0), none, 0⟩,
  ⟨(some 8), .call { callee := .builtin .len, args := #[.tmp 7], argTypes := #[38] }, none, 0⟩,
  ⟨(some 9), .binOp .lss 3 (.tmp 8) (.const (.int .i64 48)) 3, none, 0⟩,
  ⟨(some 6), .assign (.tmp 9), none, 0⟩]
def L56r3 : List AOp := [
  ⟨(some 10), .load 24 (.tmp 4), none, 0⟩,
  ⟨(some 11), .makeInterface 43 (.const (.int .i64 6)), none, 0⟩,
  ⟨none, .store 24 (.tmp 2) (.tmp 10), none, 0⟩,
  ⟨(some 3), .assign (.tmp 11), none, 0⟩]
def L56r4 : List AOp := [
  ⟨(some 13), .move (.tmp 0), none, 0⟩,
  ⟨(some 14), .call { callee := .builtin .len, args := #[.tmp 13], argTypes := #[38] }, none, 0⟩,
  ⟨(some 15), .binOp .gtr 3 (.tmp 14) (.const (.int .i64 48)) 3, none, 0⟩,
  ⟨(some 12), .assign (.tmp 15), none, 0⟩]
def L56r5 : List AOp := [
  ⟨(some 16), .load 24 (.tmp 4), none, 0⟩,
  ⟨(some 17), .makeInterface 43 (.const (.int .i64 8)), none, 0⟩,
  ⟨none, .store 24 (.tmp 2) (.tmp 16), none, 0⟩,
  ⟨(some 3), .assign (.tmp 17), none, 0⟩]
def L56r6 : List AOp := [
  ⟨(some 18), .move (.const (.int .i64 0)), none, 0⟩]
def L56r7 : List AOp := [
  ⟨(some 19), .binOp .lss 3 (.tmp 18) (.const (.int .i64 48)) 3, none, 0⟩]
def L56r8 : List AOp := [
  ⟨(some 20), .move (.tmp 18), none, 0⟩,
  ⟨(some 5), .assign (.tmp 20), none, 0⟩]
def L56r9 : List AOp := [
  ⟨(some 21), .move (.tmp 5), none, 0⟩,
  ⟨(some 22), .binOp .quo 3 (.tmp 21) (.const (.int .i64 8)) 3, none, 1⟩,
  ⟨(some 23), .indexAddr 24 (.tmp 4) (.tmp 22), none, 3⟩,
  ⟨(some 24), .load 22 (.tmp 23), none, 7⟩,
  ⟨(some 25), .move (.tmp 0), none, 0⟩,
  ⟨(some 26), .move (.tmp 5), none, 0⟩,
  ⟨(some 27), .binOp .sub 3 (.const (.int .i64 47)) (.tmp 26) 3, none, 32⟩,
  ⟨(some 28), .indexAddr 38 (.tmp 25) (.tmp 27), none, 112⟩,
  ⟨(some 29), .load 5 (.tmp 28), none, 240⟩,
  ⟨(some 30), .convert 5 22 (.tmp 29), none, 496⟩,
  ⟨(some 31), .move (.tmp 5), none, 0⟩,
  ⟨(some 32), .binOp .rem 3 (.tmp 31) (.const (.int .i64 8)) 3, none, 1024⟩,
  ⟨(some 33), .binOp .mul 3 (.const (.int .i64 8)) (.tmp 32) 3, none, 3072⟩,
  ⟨(some 34), .binOp .shl 22 (.tmp 30) (.tmp 33) 3, none, 8176⟩,
  ⟨(some 35), .binOp .or 22 (.tmp 24) (.tmp 34) 22, none, 1267650600228229401496703221759⟩,
  ⟨(some 36), .indexAddr 24 (.tmp 4) (.tmp 22), none, 1267650600228229401496703238143⟩,
  ⟨none, .store 22 (.tmp 36) (.tmp 35), none, 1267650600228229401496703270911⟩]
def L56r10 : List AOp := [
  ⟨(some 37), .binOp .add 3 (.tmp 18) (.const (.int .i64 1)) 3, none, 0⟩,
  ⟨(some 18), .move (.tmp 37), none, 0⟩]
def L56r11 : List AOp := [
  ⟨(some 38), .load 24 (.tmp 4), none, 0⟩,
  ⟨none, .store 24 (.tmp 2) (.tmp 38), none, 0⟩,
  ⟨(some 3), .assign (.const .nilIface), none, 0⟩]
def L56 : LC := (.seq (.region L56r0) (.seq (.region L56r1) (.seq (.block 0 (.seq (.region L56r2) (.cond (.tmp 6) (.seq (.region L56r3) .ret) (.seq (.region L56r4) (.cond (.tmp 12) (.seq (.region L56r5) .ret) .skip))))) (.seq (.seq (.region L56r6) (.block 1 (.loop (.seq (.region L56r7) (.seq (.cond (.tmp 19) .skip (.exit 1)) (.seq (.block 2 (.seq (.region L56r8) (.regionD L56r9))) (.region L56r10))))))) (.seq (.region L56r11) .ret)))))
theorem nt56 : Tryd.f56.ntmps = 39 := by kernel_rfl
theorem rs56 : Tryd.f56.results.toList = [.cell 2 24, .tmp 3] := by kernel_rfl
theorem lite56 : Tryd.f56.body.map (lite okDraw) = some L56 := by kernel_rfl
def L57r0 : List AOp := [
  ⟨(some 2), .box 24 (.tmp 0), none, 0⟩,
  ⟨(some 3), .box 24 (.tmp 1), none, 0⟩,
  ⟨(some 4), .assign (.const (.int .u64 0)), none, 0⟩]
def L57r1 : List AOp := [
  ⟨(some 8), .load 24 (.tmp 2), none, 0⟩,
  ⟨(some 9), .load 24 (.tmp 3), none, 0⟩,
  ⟨(some 10), .call { callee := .value (.func 60), args := #[.tmp 8, .tmp 9], argTypes := #[24, 24] }, none, 0⟩,
  ⟨(some 7), .move (.tmp 10), none, 0⟩,
  ⟨(some 11), .extract (.tmp 7) 0, none, 0⟩,
  ⟨(some 12), .extract (.tmp 7) 1, none, 0⟩,
  ⟨(some 5), .alloc 24, none, 0⟩,
  ⟨none, .store 24 (.tmp 5) (.tmp 11), none, 0⟩,
  ⟨(some 6), .assign (.tmp 12), none, 0⟩]
def L57r2 : List AOp := [
  ⟨(some 13), .move (.tmp 6), none, 0⟩,
  ⟨(some 4), .assign (.tmp 13), none, 0⟩]
def L57 : LC := (.seq (.region L57r0) (.seq (.region L57r1) (.seq (.region L57r2) .ret)))
theorem nt57 : Tryd.f57.ntmps = 14 := by kernel_rfl
theorem rs57 : Tryd.f57.results.toList = [.tmp 4] := by kernel_rfl
theorem lite57 : Tryd.f57.body.map (lite okDraw) = some L57 := by kernel_rfl
def L58r0 : List AOp := [
  ⟨(some 3), .box 24 (.tmp 0), none, 0⟩,
  ⟨(some 4), .box 24 (.tmp 1), none, 0⟩,
  ⟨(some 5), .box 52 (.tmp 2), none, 0⟩,
  ⟨(some 6), .alloc 24, none, 0⟩]
def L58r1 : List AOp := [
  ⟨(some 7), .load 24 (.tmp 3), none, 0⟩,
  ⟨(some 8), .fieldAddr 52 (.tmp 5) 2, none, 0⟩,
  ⟨(some 9), .load 24 (.tmp 8), none, 2⟩,
  ⟨(some 10), .load 52 (.tmp 5), none, 0⟩,
  ⟨(some 11), .call { callee := .value (.func 73), args := #[.tmp 7, .tmp 9, .tmp 10], argTypes := #[24, 24, 52] }, none, 15⟩,
  ⟨(some 12), .load 24 (.tmp 4), none, 0⟩,
  ⟨(some 13), .load 52 (.tmp 5), none, 0⟩,
  ⟨(some 14), .call { callee := .value (.func 73), args := #[.tmp 11, .tmp 12, .tmp 13], argTypes := #[24, 24, 52] }, none, 1267650600228229401496703205503⟩,
  ⟨none, .store 24 (.tmp 6) (.tmp 14), none, 1267650600228229401496703205631⟩]
def L58 : LC := (.seq (.region L58r0) (.seq (.regionD L58r1) .ret))
theorem nt58 : Tryd.f58.ntmps = 15 := by kernel_rfl
theorem rs58 : Tryd.f58.results.toList = [.cell 6 24] := by kernel_rfl
theorem lite58 : Tryd.f58.body.map (lite okDraw) = some L58 := by kernel_rfl
def L59r0 : List AOp := [
  ⟨(some 4), .assign (.const (.slice none 0 0)), none, 0⟩]
def L59r1 : List AOp := [
  ⟨(some 10), .move (.tmp 0), none, 0⟩,
  ⟨(some 11), .call { callee := .builtin .len, args := #[.tmp 10], argTypes := #[28] }, none, 0⟩,
  ⟨(some 12), .move (.tmp 1), none, 0⟩,
  ⟨(some 13), .call { callee := .builtin .len, args := #[.tmp 12], argTypes := #[28] }, none, 0⟩,
  ⟨(some 14), .binOp .add 3 (.tmp 11) (.tmp 13) 3, none, 0⟩,
  ⟨(some 15), .binOp .add 3 (.tmp 14) (.const (.int .i64 1)) 3, none, 0⟩,
  ⟨(some 16), .makeSlice 28 (.tmp 15) (.tmp 15), none, 0⟩,
  ⟨(some 5), .assign (.tmp 16), none, 0⟩]
def L59r2 : List AOp := [
  ⟨(some 6), .assign (.const (.int .i64 0)), none, 0⟩]
def L59r3 : List AOp := [
  ⟨(some 17), .move (.tmp 6), none, 0⟩,
  ⟨(some 18), .move (.tmp 0), none, 0⟩,
  ⟨(some 19), .call { callee := .builtin .len, args := #[.tmp 18], argTypes := #[28] }, none, 0⟩,
  ⟨(some 20), .binOp .lss 3 (.tmp 17) (.tmp 19) 3, none, 0⟩]
def L59r5 : List AOp := [
  ⟨(some 7), .assign (.const (.int .u64 0)), none, 0⟩]
def L59r6 : List AOp := [
  ⟨(some 8), .assign (.const (.int .i64 0)), none, 0⟩]
def L59r7 : List AOp := [
  ⟨(some 23), .move (.tmp 8), none, 0⟩,
  ⟨(some 24), .move (.tmp 1), none, 0⟩,
  ⟨(some 25), .call { callee := .builtin .len, args := #[.tmp 24], argTypes := #[28] }, none, 0⟩,
  ⟨(some 26), .binOp .lss 3 (.tmp 23) (.tmp 25) 3, none, 0⟩,
  ⟨(some 27), .move (.tmp 26), none, 0⟩,
  ⟨(some 28), .move (.tmp 7), (some (27, false)), 0⟩,
  ⟨(some 29), .binOp .gtr 22 (.tmp 28) (.const (.int .u64 0)) 22, (some (27, false)), 0⟩,
  ⟨(some 30), .pick (.tmp 27) (.const (.bool true)) (.tmp 29), none, 0⟩]
def L59r9 : List AOp := [
  ⟨(some 33), .move (.tmp 5), none, 0⟩,
  ⟨(some 34), .move (.tmp 6), none, 0⟩,
  ⟨(some 35), .move (.tmp 8), none, 0⟩,
  ⟨(some 36), .binOp .add 3 (.tmp 34) (.tmp 35) 3, none, 6⟩,
  ⟨(some 37), .indexAddr 28 (.tmp 33) (.tmp 36), none, 15⟩,
  ⟨(some 38), .load 22 (.tmp 37), none, 31⟩,
  ⟨(some 39), .move (.tmp 0), none, 0⟩,
  ⟨(some 40), .move (.tmp 6), none, 0⟩,
  ⟨(some 41), .indexAddr 28 (.tmp 39) (.tmp 40), none, 192⟩,
  ⟨(some 42), .load 22 (.tmp 41), none, 448⟩,
  ⟨(some 43), .move (.tmp 1), none, 0⟩,
  ⟨(some 44), .move (.tmp 8), none, 0⟩,
  ⟨(some 45), .call { callee := .value (.func 52), args := #[.tmp 43, .tmp 44], argTypes := #[28, 3] }, none, 3072⟩,
  ⟨(some 46), .binOp .mul 22 (.tmp 42) (.tmp 45) 22, none, 8128⟩,
  ⟨(some 47), .binOp .add 22 (.tmp 38) (.tmp 46) 22, none, 16383⟩,
  ⟨(some 48), .move (.tmp 7), none, 0⟩,
  ⟨(some 49), .binOp .add 22 (.tmp 47) (.tmp 48) 22, none, 1267650600228229401496703270911⟩,
  ⟨(some 9), .assign (.tmp 49), none, 1267650600228229401496703336447⟩]
def L59r10 : List AOp := [
  ⟨(some 50), .move (.tmp 5), none, 0⟩,
  ⟨(some 51), .move (.tmp 6), none, 0⟩,
  ⟨(some 52), .move (.tmp 8), none, 0⟩,
  ⟨(some 53), .binOp .add 3 (.tmp 51) (.tmp 52) 3, none, 0⟩,
  ⟨(some 54), .move (.tmp 9), none, 0⟩,
  ⟨(some 55), .binOp .rem 22 (.tmp 54) (.const (.int .u64 4294967296)) 22, none, 0⟩,
  ⟨(some 56), .indexAddr 28 (.tmp 50) (.tmp 53), none, 0⟩,
  ⟨none, .store 22 (.tmp 56) (.tmp 55), none, 0⟩]
def L59r11 : List AOp := [
  ⟨(some 57), .move (.tmp 9), none, 0⟩,
  ⟨(some 58), .binOp .quo 22 (.tmp 57) (.const (.int .u64 4294967296)) 22, none, 0⟩,
  ⟨(some 7), .assign (.tmp 58), none, 0⟩]
def L59r8 : List AOp := [
  ⟨(some 31), .move (.tmp 8), none, 0⟩,
  ⟨(some 32), .binOp .add 3 (.tmp 31) (.const (.int .i64 1)) 3, none, 0⟩,
  ⟨(some 8), .assign (.tmp 32), none, 0⟩]
def L59r4 : List AOp := [
  ⟨(some 21), .move (.tmp 6), none, 0⟩,
  ⟨(some 22), .binOp .add 3 (.tmp 21) (.const (.int .i64 1)) 3, none, 0⟩,
  ⟨(some 6), .assign (.tmp 22), none, 0⟩]
def L59r12 : List AOp := [
  ⟨(some 59), .move (.tmp 5), none, 0⟩,
  ⟨(some 60), .call { callee := .value (.func 53), args := #[.tmp 59], argTypes := #[28] }, none, 0⟩,
  ⟨(some 4), .assign (.tmp 60), none, 0⟩]
def L59 : LC := (.seq (.region L59r0) (.seq (.region L59r1) (.seq (.seq (.region L59r2) (.block 0 (.loop (.seq (.seq (.region L59r3) (.cond (.tmp 20) .skip (.exit 0))) (.seq (.block 1 (.seq (.region L59r5) (.seq (.region L59r6) (.block 2 (.loop (.seq (.seq (.region L59r7) (.cond (.tmp 30) .skip (.exit 2))) (.seq (.block 3 (.seq (.regionD L59r9) (.seq (.region L59r10) (.region L59r11)))) (.region L59r8)))))))) (.region L59r4)))))) (.seq (.region L59r12) .ret))))
theorem nt59 : Tryd.f59.ntmps = 61 := by kernel_rfl
theorem rs59 : Tryd.f59.results.toList = [.tmp 4] := by kernel_rfl
theorem lite59 : Tryd.f59.body.map (lite okDraw) = some L59 := by kernel_rfl
def L60r0 : List AOp := [
  ⟨(some 2), .box 24 (.tmp 0), none, 0⟩,
  ⟨(some 3), .box 24 (.tmp 1), none, 0⟩,
  ⟨(some 4), .alloc 24, none, 0⟩,
  ⟨(some 5), .assign (.const (.int .u64 0)), none, 0⟩]
def L60r1 : List AOp := [
  ⟨(some 6), .alloc 24, none, 0⟩]
def L60r2 : List AOp := [
  ⟨(some 7), .assign (.const (.int .u64 0)), none, 0⟩]
def L60r3 : List AOp := [
  ⟨(some 9), .move (.const (.int .i64 0)), none, 0⟩]
def L60r4 : List AOp := [
  ⟨(some 10), .binOp .lss 3 (.tmp 9) (.const (.int .i64 6)) 3, none, 0⟩]
def L60r5 : List AOp := [
  ⟨(some 11), .move (.tmp 9), none, 0⟩,
  ⟨(some 8), .assign (.tmp 11), none, 0⟩]
def L60r6 : List AOp := [
  ⟨(some 13), .move (.tmp 8), none, 0⟩,
  ⟨(some 14), .move (.tmp 8), none, 0⟩,
  ⟨(some 15), .indexAddr 24 (.tmp 2) (.tmp 14), none, 2⟩,
  ⟨(some 16), .load 22 (.tmp 15), none, 6⟩,
  ⟨(some 17), .move (.tmp 8), none, 0⟩,
  ⟨(some 18), .indexAddr 24 (.tmp 3) (.tmp 17), none, 16⟩,
  ⟨(some 19), .load 22 (.tmp 18), none, 48⟩,
  ⟨(some 20), .move (.tmp 7), none, 0⟩,
  ⟨(some 21), .call { callee := .value (.func 74), args := #[.tmp 16, .tmp 19, .tmp 20], argTypes := #[22, 22, 22] }, none, 254⟩,
  ⟨(some 12), .move (.tmp 21), none, 510⟩,
  ⟨(some 22), .extract (.tmp 12) 0, none, 1022⟩,
  ⟨(some 23), .extract (.tmp 12) 1, none, 1022⟩,
  ⟨(some 24), .indexAddr 24 (.tmp 6) (.tmp 13), none, 2047⟩,
  ⟨none, .store 22 (.tmp 24) (.tmp 22), none, 6143⟩,
  ⟨(some 7), .assign (.tmp 23), none, 1267650600228229401496703221759⟩]
def L60r7 : List AOp := [
  ⟨(some 25), .binOp .add 3 (.tmp 9) (.const (.int .i64 1)) 3, none, 0⟩,
  ⟨(some 9), .move (.tmp 25), none, 0⟩]
def L60r8 : List AOp := [
  ⟨(some 26), .load 24 (.tmp 6), none, 0⟩,
  ⟨(some 27), .move (.tmp 7), none, 0⟩,
  ⟨none, .store 24 (.tmp 4) (.tmp 26), none, 0⟩,
  ⟨(some 5), .assign (.tmp 27), none, 0⟩]
def L60 : LC := (.seq (.region L60r0) (.seq (.region L60r1) (.seq (.region L60r2) (.seq (.seq (.region L60r3) (.block 0 (.loop (.seq (.region L60r4) (.seq (.cond (.tmp 10) .skip (.exit 0)) (.seq (.block 1 (.seq (.region L60r5) (.regionD L60r6))) (.region L60r7))))))) (.seq (.region L60r8) .ret)))))
theorem nt60 : Tryd.f60.ntmps = 28 := by kernel_rfl
theorem rs60 : Tryd.f60.results.toList = [.cell 4 24, .tmp 5] := by kernel_rfl
theorem lite60 : Tryd.f60.body.map (lite okDraw) = some L60 := by kernel_rfl
def L61r0 : List AOp := [
  ⟨(some 3), .box 24 (.tmp 0), none, 0⟩,
  ⟨(some 4), .box 24 (.tmp 1), none, 0⟩,
  ⟨(some 5), .box 52 (.tmp 2), none, 0⟩,
  ⟨(some 6), .alloc 24, none, 0⟩]
def L61r1 : List AOp := [
  ⟨(some 10), .load 24 (.tmp 3), none, 0⟩,
  ⟨(some 11), .fieldAddr 52 (.tmp 5) 2, none, 0⟩,
  ⟨(some 12), .load 24 (.tmp 11), none, 0⟩,
  ⟨(some 13), .load 52 (.tmp 5), none, 0⟩,
  ⟨(some 14), .call { callee := .value (.func 73), args := #[.tmp 10, .tmp 12, .tmp 13], argTypes := #[24, 24, 52] }, none, 0⟩,
  ⟨(some 7), .alloc 24, none, 0⟩,
  ⟨none, .store 24 (.tmp 7) (.tmp 14), none, 0⟩]
def L61r2 : List AOp := [
  ⟨(some 15), .build 24 #[(0, .const (.int .u64 1))], none, 0⟩,
  ⟨(some 16), .fieldAddr 52 (.tmp 5) 2, none, 0⟩,
  ⟨(some 17), .load 24 (.tmp 16), none, 0⟩,
  ⟨(some 18), .load 52 (.tmp 5), none, 0⟩,
  ⟨(some 19), .call { callee := .value (.func 73), args := #[.tmp 15, .tmp 17, .tmp 18], argTypes := #[24, 24, 52] }, none, 0⟩,
  ⟨(some 8), .alloc 24, none, 0⟩,
  ⟨none, .store 24 (.tmp 8) (.tmp 19), none, 0⟩]
def L61r3 : List AOp := [
  ⟨(some 9), .assign (.const (.int .i64 383)), none, 0⟩]
def L61r4 : List AOp := [
  ⟨(some 20), .move (.tmp 9), none, 0⟩,
  ⟨(some 21), .binOp .geq 3 (.tmp 20) (.const (.int .i64 0)) 3, none, 0⟩]
def L61r6 : List AOp := [
  ⟨(some 24), .load 24 (.tmp 8), none, 0⟩,
  ⟨(some 25), .load 24 (.tmp 8), none, 0⟩,
  ⟨(some 26), .load 52 (.tmp 5), none, 0⟩,
  ⟨(some 27), .call { callee := .value (.func 73), args := #[.tmp 24, .tmp 25, .tmp 26], argTypes := #[24, 24, 52] }, none, 0⟩,
  ⟨none, .store 24 (.tmp 8) (.tmp 27), none, 0⟩]
def L61r7 : List AOp := [
  ⟨(some 28), .load 24 (.tmp 4), none, 0⟩,
  ⟨(some 29), .move (.tmp 9), none, 0⟩,
  ⟨(some 30), .call { callee := .value (.func 65), args := #[.tmp 28, .tmp 29], argTypes := #[24, 3] }, none, 3⟩,
  ⟨(some 31), .load 24 (.tmp 8), none, 0⟩,
  ⟨(some 32), .load 24 (.tmp 8), none, 0⟩,
  ⟨(some 33), .load 24 (.tmp 7), none, 0⟩,
  ⟨(some 34), .load 52 (.tmp 5), none, 0⟩,
  ⟨(some 35), .call { callee := .value (.func 73), args := #[.tmp 32, .tmp 33, .tmp 34], argTypes := #[24, 24, 52] }, none, 119⟩,
  ⟨(some 36), .call { callee := .value (.func 64), args := #[.tmp 30, .tmp 31, .tmp 35], argTypes := #[22, 24, 24] }, none, 1267650600228229401496703205631⟩,
  ⟨none, .store 24 (.tmp 8) (.tmp 36), none, 1267650600228229401496703205887⟩]
def L61r5 : List AOp := [
  ⟨(some 22), .move (.tmp 9), none, 0⟩,
  ⟨(some 23), .binOp .sub 3 (.tmp 22) (.const (.int .i64 1)) 3, none, 0⟩,
  ⟨(some 9), .assign (.tmp 23), none, 0⟩]
def L61r8 : List AOp := [
  ⟨(some 37), .load 24 (.tmp 8), none, 0⟩,
  ⟨(some 38), .build 24 #[(0, .const (.int .u64 1))], none, 0⟩,
  ⟨(some 39), .load 52 (.tmp 5), none, 0⟩,
  ⟨(some 40), .call { callee := .value (.func 73), args := #[.tmp 37, .tmp 38, .tmp 39], argTypes := #[24, 24, 52] }, none, 0⟩,
  ⟨none, .store 24 (.tmp 6) (.tmp 40), none, 0⟩]
def L61 : LC := (.seq (.region L61r0) (.seq (.region L61r1) (.seq (.region L61r2) (.seq (.seq (.region L61r3) (.block 0 (.loop (.seq (.seq (.region L61r4) (.cond (.tmp 21) .skip (.exit 0))) (.seq (.block 1 (.seq (.region L61r6) (.regionD L61r7))) (.region L61r5)))))) (.seq (.region L61r8) .ret)))))
theorem nt61 : Tryd.f61.ntmps = 41 := by kernel_rfl
theorem rs61 : Tryd.f61.results.toList = [.cell 6 24] := by kernel_rfl
theorem lite61 : Tryd.f61.body.map (lite okDraw) = some L61 := by kernel_rfl
def L62r0 : List AOp := [
  ⟨(some 2), .box 24 (.tmp 0), none, 0⟩,
  ⟨(some 3), .box 24 (.tmp 1), none, 0⟩,
  ⟨(some 4), .alloc 24, none, 0⟩,
  ⟨(some 5), .assign (.const (.int .u64 0)), none, 0⟩]
def L62r1 : List AOp := [
  ⟨(some 6), .alloc 24, none, 0⟩]
def L62r2 : List AOp := [
  ⟨(some 7), .assign (.const (.int .u64 0)), none, 0⟩]
def L62r3 : List AOp := [
  ⟨(some 9), .move (.const (.int .i64 0)), none, 0⟩]
def L62r4 : List AOp := [
  ⟨(some 10), .binOp .lss 3 (.tmp 9) (.const (.int .i64 6)) 3, none, 0⟩]
def L62r5 : List AOp := [
  ⟨(some 11), .move (.tmp 9), none, 0⟩,
  ⟨(some 8), .assign (.tmp 11), none, 0⟩]
def L62r6 : List AOp := [
  ⟨(some 13), .move (.tmp 8), none, 0⟩,
  ⟨(some 14), .move (.tmp 8), none, 0⟩,
  ⟨(some 15), .indexAddr 24 (.tmp 2) (.tmp 14), none, 2⟩,
  ⟨(some 16), .load 22 (.tmp 15), none, 6⟩,
  ⟨(some 17), .move (.tmp 8), none, 0⟩,
  ⟨(some 18), .indexAddr 24 (.tmp 3) (.tmp 17), none, 16⟩,
  ⟨(some 19), .load 22 (.tmp 18), none, 48⟩,
  ⟨(some 20), .move (.tmp 7), none, 0⟩,
  ⟨(some 21), .call { callee := .value (.func 75), args := #[.tmp 16, .tmp 19, .tmp 20], argTypes := #[22, 22, 22] }, none, 254⟩,
  ⟨(some 12), .move (.tmp 21), none, 510⟩,
  ⟨(some 22), .extract (.tmp 12) 0, none, 1022⟩,
  ⟨(some 23), .extract (.tmp 12) 1, none, 1022⟩,
  ⟨(some 24), .indexAddr 24 (.tmp 6) (.tmp 13), none, 2047⟩,
  ⟨none, .store 22 (.tmp 24) (.tmp 22), none, 6143⟩,
  ⟨(some 7), .assign (.tmp 23), none, 1267650600228229401496703221759⟩]
def L62r7 : List AOp := [
  ⟨(some 25), .binOp .add 3 (.tmp 9) (.const (.int .i64 1)) 3, none, 0⟩,
  ⟨(some 9), .move (.tmp 25), none, 0⟩]
def L62r8 : List AOp := [
  ⟨(some 26), .load 24 (.tmp 6), none, 0⟩,
  ⟨(some 27), .move (.tmp 7), none, 0⟩,
  ⟨none, .store 24 (.tmp 4) (.tmp 26), none, 0⟩,
  ⟨(some 5), .assign (.tmp 27), none, 0⟩]
def L62 : LC := (.seq (.region L62r0) (.seq (.region L62r1) (.seq (.region L62r2) (.seq (.seq (.region L62r3) (.block 0 (.loop (.seq (.region L62r4) (.seq (.cond (.tmp 10) .skip (.exit 0)) (.seq (.block 1 (.seq (.region L62r5) (.regionD L62r6))) (.region L62r7))))))) (.seq (.region L62r8) .ret)))))
theorem nt62 : Tryd.f62.ntmps = 28 := by kernel_rfl
theorem rs62 : Tryd.f62.results.toList = [.cell 4 24, .tmp 5] := by kernel_rfl
theorem lite62 : Tryd.f62.body.map (lite okDraw) = some L62 := by kernel_rfl
def L63r0 : List AOp := [
  ⟨(some 2), .box 24 (.tmp 0), none, 0⟩,
  ⟨(some 3), .box 24 (.tmp 1), none, 0⟩,
  ⟨(some 4), .assign (.const (.int .u64 0)), none, 0⟩]
def L63r1 : List AOp := [
  ⟨(some 5), .assign (.const (.int .u64 0)), none, 0⟩]
def L63r2 : List AOp := [
  ⟨(some 9), .move (.const (.int .i64 0)), none, 0⟩]
def L63r3 : List AOp := [
  ⟨(some 10), .binOp .lss 3 (.tmp 9) (.const (.int .i64 6)) 3, none, 0⟩]
def L63r4 : List AOp := [
  ⟨(some 11), .move (.tmp 9), none, 0⟩,
  ⟨(some 6), .assign (.tmp 11), none, 0⟩]
def L63r5 : List AOp := [
  ⟨(some 12), .move (.tmp 5), none, 0⟩,
  ⟨(some 13), .move (.tmp 6), none, 0⟩,
  ⟨(some 14), .indexAddr 24 (.tmp 2) (.tmp 13), none, 2⟩,
  ⟨(some 15), .load 22 (.tmp 14), none, 6⟩,
  ⟨(some 16), .move (.tmp 6), none, 0⟩,
  ⟨(some 17), .indexAddr 24 (.tmp 3) (.tmp 16), none, 16⟩,
  ⟨(some 18), .load 22 (.tmp 17), none, 48⟩,
  ⟨(some 19), .binOp .xor 22 (.tmp 15) (.tmp 18) 22, none, 126⟩,
  ⟨(some 20), .binOp .or 22 (.tmp 12) (.tmp 19) 22, none, 1267650600228229401496703205631⟩,
  ⟨(some 5), .assign (.tmp 20), none, 1267650600228229401496703205887⟩]
def L63r6 : List AOp := [
  ⟨(some 21), .binOp .add 3 (.tmp 9) (.const (.int .i64 1)) 3, none, 0⟩,
  ⟨(some 9), .move (.tmp 21), none, 0⟩]
def L63r7 : List AOp := [
  ⟨(some 23), .move (.tmp 5), none, 0⟩,
  ⟨(some 24), .call { callee := .value (.func 74), args := #[.tmp 23, .const (.int .u64 1), .const (.int .u64 0)], argTypes := #[22, 22, 22] }, none, 0⟩,
  ⟨(some 22), .move (.tmp 24), none, 0⟩,
  ⟨(some 25), .extract (.tmp 22) 0, none, 0⟩,
  ⟨(some 26), .extract (.tmp 22) 1, none, 0⟩,
  ⟨(some 7), .assign (.tmp 25), none, 0⟩,
  ⟨(some 8), .assign (.tmp 26), none, 0⟩]
def L63r8 : List AOp := [
  ⟨(some 27), .move (.tmp 8), none, 0⟩,
  ⟨(some 4), .assign (.tmp 27), none, 0⟩]
def L63 : LC := (.seq (.region L63r0) (.seq (.region L63r1) (.seq (.seq (.region L63r2) (.block 0 (.loop (.seq (.region L63r3) (.seq (.cond (.tmp 10) .skip (.exit 0)) (.seq (.block 1 (.seq (.region L63r4) (.regionD L63r5))) (.region L63r6))))))) (.seq (.region L63r7) (.seq (.region L63r8) .ret)))))
theorem nt63 : Tryd.f63.ntmps = 28 := by kernel_rfl
theorem rs63 : Tryd.f63.results.toList = [.tmp 4] := by kernel_rfl
theorem lite63 : Tryd.f63.body.map (lite okDraw) = some L63 := by kernel_rfl
def L64r0 : List AOp := [
  ⟨(some 4), .box 24 (.tmp 1), none, 0⟩,
  ⟨(some 5), .box 24 (.tmp 2), none, 0⟩,
  ⟨(some 6), .alloc 24, none, 0⟩]
def L64r1 : List AOp := [
  ⟨(some 10), .move (.tmp 0), none, 0⟩,
  ⟨(some 11), .binOp .and 22 (.tmp 10) (.const (.int .u64 1)) 22, none, 0⟩,
  ⟨(some 12), .unOp .neg 22 (.tmp 11), none, 0⟩,
  ⟨(some 7), .assign (.tmp 12), none, 0⟩]
def L64r2 : List AOp := [
  ⟨(some 8), .alloc 24, none, 0⟩]
def L64r3 : List AOp := [
  ⟨(some 13), .move (.const (.int .i64 0)), none, 0⟩]
def L64r4 : List AOp := [
  ⟨(some 14), .binOp .lss 3 (.tmp 13) (.const (.int .i64 6)) 3, none, 0⟩]
def L64r5 : List AOp := [
  ⟨(some 15), .move (.tmp 13), none, 0⟩,
  ⟨(some 9), .assign (.tmp 15), none, 0⟩]
def L64r6 : List AOp := [
  ⟨(some 16), .move (.tmp 9), none, 0⟩,
  ⟨(some 17), .move (.tmp 9), none, 0⟩,
  ⟨(some 18), .indexAddr 24 (.tmp 4) (.tmp 17), none, 2⟩,
  ⟨(some 19), .load 22 (.tmp 18), none, 6⟩,
  ⟨(some 20), .move (.tmp 7), none, 0⟩,
  ⟨(some 21), .binOp .andNot 22 (.tmp 19) (.tmp 20) 22, none, 30⟩,
  ⟨(some 22), .move (.tmp 9), none, 0⟩,
  ⟨(some 23), .indexAddr 24 (.tmp 5) (.tmp 22), none, 64⟩,
  ⟨(some 24), .load 22 (.tmp 23), none, 192⟩,
  ⟨(some 25), .move (.tmp 7), none, 0⟩,
  ⟨(some 26), .binOp .and 22 (.tmp 24) (.tmp 25) 22, none, 960⟩,
  ⟨(some 27), .binOp .or 22 (.tmp 21) (.tmp 26) 22, none, 2046⟩,
  ⟨(some 28), .indexAddr 24 (.tmp 8) (.tmp 16), none, 1267650600228229401496703209471⟩,
  ⟨none, .store 22 (.tmp 28) (.tmp 27), none, 1267650600228229401496703213567⟩]
def L64r7 : List AOp := [
  ⟨(some 29), .binOp .add 3 (.tmp 13) (.const (.int .i64 1)) 3, none, 0⟩,
  ⟨(some 13), .move (.tmp 29), none, 0⟩]
def L64r8 : List AOp := [
  ⟨(some 30), .load 24 (.tmp 8), none, 0⟩,
  ⟨none, .store 24 (.tmp 6) (.tmp 30), none, 0⟩]
def L64 : LC := (.seq (.region L64r0) (.seq (.region L64r1) (.seq (.region L64r2) (.seq (.seq (.region L64r3) (.block 0 (.loop (.seq (.region L64r4) (.seq (.cond (.tmp 14) .skip (.exit 0)) (.seq (.block 1 (.seq (.region L64r5) (.regionD L64r6))) (.region L64r7))))))) (.seq (.region L64r8) .ret)))))
theorem nt64 : Tryd.f64.ntmps = 31 := by kernel_rfl
theorem rs64 : Tryd.f64.results.toList = [.cell 6 24] := by kernel_rfl
theorem lite64 : Tryd.f64.body.map (lite okDraw) = some L64 := by kernel_rfl
def L65r0 : List AOp := [
  ⟨(some 2), .box 24 (.tmp 0), none, 0⟩,
  ⟨(some 4), .assign (.const (.int .u64 0)), none, 0⟩]
def L65r1 : List AOp := [
  ⟨(some 5), .move (.tmp 1), none, 0⟩,
  ⟨(some 6), .binOp .lss 3 (.tmp 5) (.const (.int .i64 0)) 3, none, 0⟩,
  ⟨(some 7), .move (.tmp 6), none, 0⟩,
  ⟨(some 8), .move (.tmp 1), (some (7, false)), 0⟩,
  ⟨(some 9), .binOp .geq 3 (.tmp 8) (.const (.int .i64 384)) 3, (some (7, false)), 0⟩,
  ⟨(some 10), .pick (.tmp 7) (.const (.bool true)) (.tmp 9), none, 0⟩]
def L65r2 : List AOp := [
  ⟨(some 4), .assign (.const (.int .u64 0)), none, 0⟩]
def L65r3 : List AOp := [
  ⟨(some 11), .move (.tmp 1), none, 0⟩,
  ⟨(some 12), .binOp .quo 3 (.tmp 11) (.const (.int .i64 64)) 3, none, 0⟩,
  ⟨(some 13), .indexAddr 24 (.tmp 2) (.tmp 12), none, 0⟩,
  ⟨(some 14), .load 22 (.tmp 13), none, 0⟩,
  ⟨(some 15), .move (.tmp 1), none, 0⟩,
  ⟨(some 16), .binOp .rem 3 (.tmp 15) (.const (.int .i64 64)) 3, none, 0⟩,
  ⟨(some 17), .binOp .shr 22 (.tmp 14) (.tmp 16) 3, none, 0⟩,
  ⟨(some 18), .binOp .and 22 (.tmp 17) (.const (.int .u64 1)) 22, none, 0⟩,
  ⟨(some 4), .assign (.tmp 18), none, 0⟩]
def L65 : LC := (.seq (.region L65r0) (.seq (.seq (.region L65r1) (.cond (.tmp 10) (.seq (.region L65r2) .ret) .skip)) (.seq (.region L65r3) .ret)))
theorem nt65 : Tryd.f65.ntmps = 19 := by kernel_rfl
theorem rs65 : Tryd.f65.results.toList = [.tmp 4] := by kernel_rfl
theorem lite65 : Tryd.f65.body.map (lite okDraw) = some L65 := by kernel_rfl
def L66r0 : List AOp := [
  ⟨(some 4), .assign (.const (.slice none 0 0)), none, 0⟩,
  ⟨(some 5), .assign (.const (.slice none 0 0)), none, 0⟩]
def L66r1 : List AOp := [
  ⟨(some 6), .assign (.const (.slice none 0 0)), none, 0⟩]
def L66r2 : List AOp := [
  ⟨(some 7), .assign (.const (.slice none 0 0)), none, 0⟩]
def L66r3 : List AOp := [
  ⟨(some 10), .move (.tmp 0), none, 0⟩,
  ⟨(some 11), .call { callee := .value (.func 76), args := #[.tmp 10], argTypes := #[28] }, none, 0⟩,
  ⟨(some 12), .binOp .sub 3 (.tmp 11) (.const (.int .i64 1)) 3, none, 0⟩,
  ⟨(some 8), .assign (.tmp 12), none, 0⟩]
def L66r4 : List AOp := [
  ⟨(some 13), .move (.tmp 8), none, 0⟩,
  ⟨(some 14), .binOp .geq 3 (.tmp 13) (.const (.int .i64 0)) 3, none, 0⟩]
def L66r6 : List AOp := [
  ⟨(some 17), .move (.tmp 7), none, 0⟩,
  ⟨(some 18), .move (.tmp 7), none, 0⟩,
  ⟨(some 19), .call { callee := .value (.func 27), args := #[.tmp 17, .tmp 18], argTypes := #[28, 28] }, none, 0⟩,
  ⟨(some 7), .assign (.tmp 19), none, 0⟩]
def L66r7 : List AOp := [
  ⟨(some 20), .move (.tmp 0), none, 0⟩,
  ⟨(some 21), .move (.tmp 8), none, 0⟩,
  ⟨(some 22), .call { callee := .value (.func 77), args := #[.tmp 20, .tmp 21], argTypes := #[28, 3] }, none, 0⟩,
  ⟨(some 9), .assign (.tmp 22), none, 0⟩]
def L66r8 : List AOp := [
  ⟨(some 23), .move (.tmp 9), none, 0⟩]
def L66r9 : List AOp := [
  ⟨(some 24), .move (.tmp 7), none, 0⟩,
  ⟨(some 25), .buildSlice 28 1 #[(0, .const (.int .u64 1))], none, 0⟩,
  ⟨(some 26), .call { callee := .value (.func 27), args := #[.tmp 24, .tmp 25], argTypes := #[28, 28] }, none, 0⟩,
  ⟨(some 7), .assign (.tmp 26), none, 0⟩]
def L66r10 : List AOp := [
  ⟨(some 27), .move (.tmp 6), none, 0⟩,
  ⟨(some 28), .move (.tmp 6), none, 0⟩,
  ⟨(some 29), .call { callee := .value (.func 27), args := #[.tmp 27, .tmp 28], argTypes := #[28, 28] }, none, 0⟩,
  ⟨(some 6), .assign (.tmp 29), none, 0⟩]
def L66r11 : List AOp := [
  ⟨(some 30), .move (.tmp 7), none, 0⟩,
  ⟨(some 31), .move (.tmp 1), none, 0⟩,
  ⟨(some 32), .call { callee := .value (.func 37), args := #[.tmp 30, .tmp 31], argTypes := #[28, 28] }, none, 0⟩,
  ⟨(some 33), .binOp .geq 3 (.tmp 32) (.const (.int .i64 0)) 3, none, 0⟩]
def L66r12 : List AOp := [
  ⟨(some 34), .move (.tmp 7), none, 0⟩,
  ⟨(some 35), .move (.tmp 1), none, 0⟩,
  ⟨(some 36), .call { callee := .value (.func 55), args := #[.tmp 34, .tmp 35], argTypes := #[28, 28] }, none, 0⟩,
  ⟨(some 7), .assign (.tmp 36), none, 0⟩]
def L66r13 : List AOp := [
  ⟨(some 37), .move (.tmp 6), none, 0⟩,
  ⟨(some 38), .buildSlice 28 1 #[(0, .const (.int .u64 1))], none, 0⟩,
  ⟨(some 39), .call { callee := .value (.func 27), args := #[.tmp 37, .tmp 38], argTypes := #[28, 28] }, none, 0⟩,
  ⟨(some 6), .assign (.tmp 39), none, 0⟩]
def L66r5 : List AOp := [
  ⟨(some 15), .move (.tmp 8), none, 0⟩,
  ⟨(some 16), .binOp .sub 3 (.tmp 15) (.const (.int .i64 1)) 3, none, 0⟩,
  ⟨(some 8), .assign (.tmp 16), none, 0⟩]
def L66r14 : List AOp := [
  ⟨(some 40), .move (.tmp 6), none, 0⟩,
  ⟨(some 41), .move (.tmp 7), none, 0⟩,
  ⟨(some 4), .assign (.tmp 40), none, 0⟩,
  ⟨(some 5), .assign (.tmp 41), none, 0⟩]
def L66 : LC := (.seq (.region L66r0) (.seq (.region L66r1) (.seq (.region L66r2) (.seq (.seq (.region L66r3) (.block 0 (.loop (.seq (.seq (.region L66r4) (.cond (.tmp 14) .skip (.exit 0))) (.seq (.block 1 (.seq (.region L66r6) (.seq (.region L66r7) (.seq (.seq (.region L66r8) (.cond (.tmp 23) (.region L66r9) .skip)) (.seq (.region L66r10) (.seq (.region L66r11) (.cond (.tmp 33) (.seq (.region L66r12) (.region L66r13)) .skip))))))) (.region L66r5)))))) (.seq (.region L66r14) .ret)))))
theorem nt66 : Tryd.f66.ntmps = 42 := by kernel_rfl
theorem rs66 : Tryd.f66.results.toList = [.tmp 4, .tmp 5] := by kernel_rfl
theorem lite66 : Tryd.f66.body.map (lite okDraw) = some L66 := by kernel_rfl
def L67r0 : List AOp := [
  ⟨(some 6), .assign (.const (.slice none 0 0)), none, 0⟩]
def L67r1 : List AOp := [
  ⟨(some 11), .buildSlice 28 1 #[(0, .const (.int .u64 1))], none, 0⟩,
  ⟨(some 12), .move (.tmp 2), none, 0⟩,
  ⟨(some 13), .call { callee := .value (.func 50), args := #[.tmp 11, .tmp 12], argTypes := #[28, 28] }, none, 0⟩,
  ⟨(some 7), .assign (.tmp 13), none, 0⟩]
def L67r2 : List AOp := [
  ⟨(some 14), .move (.tmp 0), none, 0⟩,
  ⟨(some 15), .move (.tmp 2), none, 0⟩,
  ⟨(some 16), .call { callee := .value (.func 50), args := #[.tmp 14, .tmp 15], argTypes := #[28, 28] }, none, 0⟩,
  ⟨(some 8), .assign (.tmp 16), none, 0⟩]
def L67r3 : List AOp := [
  ⟨(some 17), .move (.tmp 1), none, 0⟩,
  ⟨(some 18), .call { callee := .value (.func 76), args := #[.tmp 17], argTypes := #[28] }, none, 0⟩,
  ⟨(some 19), .binOp .sub 3 (.tmp 18) (.const (.int .i64 1)) 3, none, 0⟩,
  ⟨(some 9), .assign (.tmp 19), none, 0⟩]
def L67r4 : List AOp := [
  ⟨(some 20), .move (.tmp 9), none, 0⟩,
  ⟨(some 21), .binOp .geq 3 (.tmp 20) (.const (.int .i64 0)) 3, none, 0⟩]
def L67r6 : List AOp := [
  ⟨(some 24), .move (.tmp 7), none, 0⟩,
  ⟨(some 25), .move (.tmp 7), none, 0⟩,
  ⟨(some 26), .call { callee := .value (.func 59), args := #[.tmp 24, .tmp 25], argTypes := #[28, 28] }, none, 0⟩,
  ⟨(some 27), .move (.tmp 2), none, 0⟩,
  ⟨(some 28), .call { callee := .value (.func 50), args := #[.tmp 26, .tmp 27], argTypes := #[28, 28] }, none, 0⟩,
  ⟨(some 7), .assign (.tmp 28), none, 0⟩]
def L67r7 : List AOp := [
  ⟨(some 29), .move (.tmp 1), none, 0⟩,
  ⟨(some 30), .move (.tmp 9), none, 0⟩,
  ⟨(some 31), .call { callee := .value (.func 77), args := #[.tmp 29, .tmp 30], argTypes := #[28, 3] }, none, 0⟩,
  ⟨(some 10), .assign (.tmp 31), none, 0⟩]
def L67r8 : List AOp := [
  ⟨(some 32), .move (.tmp 10), none, 0⟩]
def L67r9 : List AOp := [
  ⟨(some 33), .move (.tmp 7), none, 0⟩,
  ⟨(some 34), .move (.tmp 8), none, 0⟩,
  ⟨(some 35), .call { callee := .value (.func 59), args := #[.tmp 33, .tmp 34], argTypes := #[28, 28] }, none, 0⟩,
  ⟨(some 36), .move (.tmp 2), none, 0⟩,
  ⟨(some 37), .call { callee := .value (.func 50), args := #[.tmp 35, .tmp 36], argTypes := #[28, 28] }, none, 0⟩,
  ⟨(some 7), .assign (.tmp 37), none, 0⟩]
def L67r5 : List AOp := [
  ⟨(some 22), .move (.tmp 9), none, 0⟩,
  ⟨(some 23), .binOp .sub 3 (.tmp 22) (.const (.int .i64 1)) 3, none, 0⟩,
  ⟨(some 9), .assign (.tmp 23), none, 0⟩]
def L67r10 : List AOp := [
  ⟨(some 38), .move (.tmp 7), none, 0⟩,
  ⟨(some 6), .assign (.tmp 38), none, 0⟩]
def L67 : LC := (.seq (.region L67r0) (.seq (.region L67r1) (.seq (.region L67r2) (.seq (.seq (.region L67r3) (.block 0 (.loop (.seq (.seq (.region L67r4) (.cond (.tmp 21) .skip (.exit 0))) (.seq (.block 1 (.seq (.region L67r6) (.seq (.region L67r7) (.seq (.region L67r8) (.cond (.tmp 32) (.region L67r9) .skip))))) (.region L67r5)))))) (.seq (.region L67r10) .ret)))))
theorem nt67 : Tryd.f67.ntmps = 39 := by kernel_rfl
theorem rs67 : Tryd.f67.results.toList = [.tmp 6] := by kernel_rfl
theorem lite67 : Tryd.f67.body.map (lite okDraw) = some L67 := by kernel_rfl
def L68r0 : List AOp := [
  ⟨(some 2), .box 24 (.tmp 0), none, 0⟩,
  ⟨(some 3), .box 52 (.tmp 1), none, 0⟩,
  ⟨(some 4), .alloc 24, none, 0⟩]
def L68r1 : List AOp := [
  ⟨(some 5), .load 24 (.tmp 2), none, 0⟩,
  ⟨(some 6), .fieldAddr 52 (.tmp 3) 0, none, 0⟩,
  ⟨(some 7), .load 24 (.tmp 6), none, 0⟩,
  ⟨(some 8), .call { callee := .value (.func 69), args := #[.tmp 5, .const (.int .u64 0), .tmp 7], argTypes := #[24, 22, 24] }, none, 0⟩,
  ⟨none, .store 24 (.tmp 4) (.tmp 8), none, 0⟩]
def L68 : LC := (.seq (.region L68r0) (.seq (.region L68r1) .ret))
theorem nt68 : Tryd.f68.ntmps = 9 := by kernel_rfl
theorem rs68 : Tryd.f68.results.toList = [.cell 4 24] := by kernel_rfl
theorem lite68 : Tryd.f68.body.map (lite okDraw) = some L68 := by kernel_rfl
def L69r0 : List AOp := [
  ⟨(some 3), .box 24 (.tmp 0), none, 0⟩,
  ⟨(some 5), .box 24 (.tmp 2), none, 0⟩,
  ⟨(some 6), .alloc 24, none, 0⟩]
def L69r1 : List AOp := [
  ⟨(some 10), .load 24 (.tmp 3), none, 0⟩,
  ⟨(some 11), .load 24 (.tmp 5), none, 0⟩,
  ⟨(some 12), .call { callee := .value (.func 60), args := #[.tmp 10, .tmp 11], argTypes := #[24, 24] }, none, 0⟩,
  ⟨(some 9), .move (.tmp 12), none, 0⟩,
  ⟨(some 13), .extract (.tmp 9) 0, none, 0⟩,
  ⟨(some 14), .extract (.tmp 9) 1, none, 0⟩,
  ⟨(some 7), .alloc 24, none, 0⟩,
  ⟨none, .store 24 (.tmp 7) (.tmp 13), none, 0⟩,
  ⟨(some 8), .assign (.tmp 14), none, 0⟩]
def L69r2 : List AOp := [
  ⟨(some 15), .move (.tmp 1), none, 0⟩,
  ⟨(some 16), .move (.tmp 8), none, 0⟩,
  ⟨(some 17), .binOp .xor 22 (.const (.int .u64 1)) (.tmp 16) 22, none, 0⟩,
  ⟨(some 18), .binOp .or 22 (.tmp 15) (.tmp 17) 22, none, 0⟩,
  ⟨(some 19), .load 24 (.tmp 3), none, 0⟩,
  ⟨(some 20), .load 24 (.tmp 7), none, 0⟩,
  ⟨(some 21), .call { callee := .value (.func 64), args := #[.tmp 18, .tmp 19, .tmp 20], argTypes := #[22, 24, 24] }, none, 0⟩,
  ⟨none, .store 24 (.tmp 6) (.tmp 21), none, 0⟩]
def L69 : LC := (.seq (.region L69r0) (.seq (.region L69r1) (.seq (.region L69r2) .ret)))
theorem nt69 : Tryd.f69.ntmps = 22 := by kernel_rfl
theorem rs69 : Tryd.f69.results.toList = [.cell 6 24] := by kernel_rfl
theorem lite69 : Tryd.f69.body.map (lite okDraw) = some L69 := by kernel_rfl
def L70r0 : List AOp := [
  ⟨(some 0), .assign (.const (.slice none 0 0)), none, 0⟩]
def L70r1 : List AOp := [
  ⟨(some 1), .buildSlice 28 13 #[(0, .const (.int .u64 0)), (1, .const (.int .u64 0)), (2, .const (.int .u64 0)), (3, .const (.int .u64 0)), (4, .const (.int .u64 0)), (5, .const (.int .u64 0)), (6, .const (.int .u64 0)), (7, .const (.int .u64 0)), (8, .const (.int .u64 0)), (9, .const (.int .u64 0)), (10, .const (.int .u64 0)), (11, .const (.int .u64 0)), (12, .const (.int .u64 1))], none, 0⟩,
  ⟨(some 0), .assign (.tmp 1), none, 0⟩]
def L70 : LC := (.seq (.region L70r0) (.seq (.region L70r1) .ret))
theorem nt70 : Tryd.f70.ntmps = 2 := by kernel_rfl
theorem rs70 : Tryd.f70.results.toList = [.tmp 0] := by kernel_rfl
theorem lite70 : Tryd.f70.body.map (lite okDraw) = some L70 := by kernel_rfl
def L71r0 : List AOp := [
  ⟨(some 2), .assign (.const (.slice none 0 0)), none, 0⟩,
  ⟨(some 3), .assign (.const (.slice none 0 0)), none, 0⟩]
def L71r1 : List AOp := [
  ⟨(some 4), .move (.tmp 0), none, 0⟩,
  ⟨(some 5), .call { callee := .builtin .len, args := #[.tmp 4], argTypes := #[28] }, none, 0⟩,
  ⟨(some 6), .binOp .leq 3 (.tmp 5) (.const (.int .i64 12)) 3, none, 0⟩]
def L71r2 : List AOp := [
  ⟨(some 7), .move (.tmp 0), none, 0⟩,
  ⟨(some 2), .assign (.tmp 7), none, 0⟩,
  ⟨(some 3), .assign (.const (.slice none 0 0)), none, 0⟩]
def L71r3 : List AOp := [
  ⟨(some 8), .buildSlice 28 0 #[], none, 0⟩,
  ⟨(some 9), .move (.tmp 0), none, 0⟩,
  ⟨(some 10), .slice 28 (.tmp 9) none (some (.const (.int .i64 12))) none, none, 2⟩,
  ⟨(some 11), .call { callee := .builtin .append, args := #[.tmp 8, .tmp 10], argTypes := #[28, 28] }, none, 7⟩,
  ⟨(some 12), .call { callee := .value (.func 53), args := #[.tmp 11], argTypes := #[28] }, none, 15⟩,
  ⟨(some 13), .buildSlice 28 0 #[], none, 0⟩,
  ⟨(some 14), .move (.tmp 0), none, 0⟩,
  ⟨(some 15), .slice 28 (.tmp 14) (some (.const (.int .i64 12))) none none, none, 64⟩,
  ⟨(some 16), .call { callee := .builtin .append, args := #[.tmp 13, .tmp 15], argTypes := #[28, 28] }, none, 1267650600228229401496703205631⟩,
  ⟨(some 2), .assign (.tmp 12), none, 1267650600228229401496703205887⟩,
  ⟨(some 3), .assign (.tmp 16), none, 1267650600228229401496703206399⟩]
def L71 : LC := (.seq (.region L71r0) (.seq (.seq (.region L71r1) (.cond (.tmp 6) (.seq (.region L71r2) .ret) .skip)) (.seq (.regionD L71r3) .ret)))
theorem nt71 : Tryd.f71.ntmps = 17 := by kernel_rfl
theorem rs71 : Tryd.f71.results.toList = [.tmp 2, .tmp 3] := by kernel_rfl
theorem lite71 : Tryd.f71.body.map (lite okDraw) = some L71 := by kernel_rfl
def L72r0 : List AOp := [
  ⟨(some 2), .assign (.const (.slice none 0 0)), none, 0⟩]
def L72r1 : List AOp := [
  ⟨(some 3), .assign (.const (.slice none 0 0)), none, 0⟩]
def L72r2 : List AOp := [
  ⟨(some 4), .assign (.const (.int .i64 0)), none, 0⟩]
def L72r3 : List AOp := [
  ⟨(some 5), .move (.tmp 4), none, 0⟩,
  ⟨(some 6), .move (.tmp 0), none, 0⟩,
  ⟨(some 7), .call { callee := .builtin .len, args := #[.tmp 6], argTypes := #[27] }, none, 0⟩,
  ⟨(some 8), .binOp .lss 3 (.tmp 5) (.tmp 7) 3, none, 0⟩]
def L72r5 : List AOp := [
  ⟨(some 11), .move (.tmp 3), none, 0⟩,
  ⟨(some 12), .move (.tmp 0), none, 0⟩,
  ⟨(some 13), .move (.tmp 4), none, 0⟩,
  ⟨(some 14), .indexAddr 27 (.tmp 12) (.tmp 13), none, 6⟩,
  ⟨(some 15), .load 22 (.tmp 14), none, 14⟩,
  ⟨(some 16), .binOp .rem 22 (.tmp 15) (.const (.int .u64 4294967296)) 22, none, 30⟩,
  ⟨(some 17), .move (.tmp 0), none, 0⟩,
  ⟨(some 18), .move (.tmp 4), none, 0⟩,
  ⟨(some 19), .indexAddr 27 (.tmp 17) (.tmp 18), none, 192⟩,
  ⟨(some 20), .load 22 (.tmp 19), none, 448⟩,
  ⟨(some 21), .binOp .quo 22 (.tmp 20) (.const (.int .u64 4294967296)) 22, none, 960⟩,
  ⟨(some 22), .buildSlice 28 2 #[(0, .tmp 16), (1, .tmp 21)], none, 2046⟩,
  ⟨(some 23), .call { callee := .builtin .append, args := #[.tmp 11, .tmp 22], argTypes := #[28, 28] }, none, 1267650600228229401496703209471⟩,
  ⟨(some 3), .assign (.tmp 23), none, 1267650600228229401496703213567⟩]
def L72r4 : List AOp := [
  ⟨(some 9), .move (.tmp 4), none, 0⟩,
  ⟨(some 10), .binOp .add 3 (.tmp 9) (.const (.int .i64 1)) 3, none, 0⟩,
  ⟨(some 4), .assign (.tmp 10), none, 0⟩]
def L72r6 : List AOp := [
  ⟨(some 24), .move (.tmp 3), none, 0⟩,
  ⟨(some 25), .call { callee := .value (.func 53), args := #[.tmp 24], argTypes := #[28] }, none, 0⟩,
  ⟨(some 2), .assign (.tmp 25), none, 0⟩]
def L72 : LC := (.seq (.region L72r0) (.seq (.region L72r1) (.seq (.seq (.region L72r2) (.block 0 (.loop (.seq (.seq (.region L72r3) (.cond (.tmp 8) .skip (.exit 0))) (.seq (.block 1 (.regionD L72r5)) (.region L72r4)))))) (.seq (.region L72r6) .ret))))
theorem nt72 : Tryd.f72.ntmps = 26 := by kernel_rfl
theorem rs72 : Tryd.f72.results.toList = [.tmp 2] := by kernel_rfl
theorem lite72 : Tryd.f72.body.map (lite okDraw) = some L72 := by kernel_rfl
def L73r0 : List AOp := [
  ⟨(some 3), .box 24 (.tmp 0), none, 0⟩,
  ⟨(some 4), .box 24 (.tmp 1), none, 0⟩,
  ⟨(some 5), .box 52 (.tmp 2), none, 0⟩,
  ⟨(some 6), .alloc 24, none, 0⟩]
def L73r1 : List AOp := [
  ⟨(some 7), .load 24 (.tmp 3), none, 0⟩,
  ⟨(some 8), .load 24 (.tmp 4), none, 0⟩,
  ⟨(some 9), .call { callee := .value (.func 79), args := #[.tmp 7, .tmp 8], argTypes := #[24, 24] }, none, 3⟩,
  ⟨(some 10), .load 52 (.tmp 5), none, 0⟩,
  ⟨(some 11), .call { callee := .value (.func 78), args := #[.tmp 9, .tmp 10], argTypes := #[75, 52] }, none, 1267650600228229401496703205391⟩,
  ⟨none, .store 24 (.tmp 6) (.tmp 11), none, 1267650600228229401496703205407⟩]
def L73 : LC := (.seq (.region L73r0) (.seq (.regionD L73r1) .ret))
theorem nt73 : Tryd.f73.ntmps = 12 := by kernel_rfl
theorem rs73 : Tryd.f73.results.toList = [.cell 6 24] := by kernel_rfl
theorem lite73 : Tryd.f73.body.map (lite okDraw) = some L73 := by kernel_rfl
def L76r0 : List AOp := [
  ⟨(some 2), .assign (.const (.int .i64 0)), none, 0⟩]
def L76r1 : List AOp := [
  ⟨(some 5), .move (.tmp 0), none, 0⟩,
  ⟨(some 6), .call { callee := .builtin .len, args := #[.tmp 5], argTypes := #[28] }, none, 0⟩,
  ⟨(some 7), .binOp .eql 3 (.tmp 6) (.const (.int .i64 0)) 3, none, 0⟩]
def L76r2 : List AOp := [
  ⟨(some 2), .assign (.const (.int .i64 0)), none, 0⟩]
def L76r3 : List AOp := [
  ⟨(some 8), .move (.tmp 0), none, 0⟩,
  ⟨(some 9), .call { callee := .builtin .len, args := #[.tmp 8], argTypes := #[28] }, none, 0⟩,
  ⟨(some 10), .binOp .sub 3 (.tmp 9) (.const (.int .i64 1)) 3, none, 0⟩,
  ⟨(some 11), .binOp .mul 3 (.const (.int .i64 32)) (.tmp 10) 3, none, 0⟩,
  ⟨(some 3), .assign (.tmp 11), none, 0⟩]
def L76r4 : List AOp := [
  ⟨(some 12), .move (.tmp 0), none, 0⟩,
  ⟨(some 13), .move (.tmp 0), none, 0⟩,
  ⟨(some 14), .call { callee := .builtin .len, args := #[.tmp 13], argTypes := #[28] }, none, 0⟩,
  ⟨(some 15), .binOp .sub 3 (.tmp 14) (.const (.int .i64 1)) 3, none, 0⟩,
  ⟨(some 16), .indexAddr 28 (.tmp 12) (.tmp 15), none, 0⟩,
  ⟨(some 17), .load 22 (.tmp 16), none, 0⟩,
  ⟨(some 4), .assign (.tmp 17), none, 0⟩]
def L76r5 : List AOp := [
  ⟨(some 18), .move (.tmp 4), none, 0⟩,
  ⟨(some 19), .binOp .gtr 22 (.tmp 18) (.const (.int .u64 0)) 22, none, 0⟩]
def L76r6 : List AOp := [
  ⟨(some 20), .move (.tmp 4), none, 0⟩,
  ⟨(some 21), .binOp .quo 22 (.tmp 20) (.const (.int .u64 2)) 22, none, 0⟩,
  ⟨(some 4), .assign (.tmp 21), none, 0⟩]
def L76r7 : List AOp := [
  ⟨(some 22), .move (.tmp 3), none, 0⟩,
  ⟨(some 23), .binOp .add 3 (.tmp 22) (.const (.int .i64 1)) 3, none, 0⟩,
  ⟨(some 3), .assign (.tmp 23), none, 0⟩]
def L76r8 : List AOp := [
  ⟨(some 24), .move (.tmp 3), none, 0⟩,
  ⟨(some 2), .assign (.tmp 24), none, 0⟩]
def L76 : LC := (.seq (.region L76r0) (.seq (.seq (.region L76r1) (.cond (.tmp 7) (.seq (.region L76r2) .ret) .skip)) (.seq (.region L76r3) (.seq (.region L76r4) (.seq (.block 0 (.loop (.seq (.seq (.region L76r5) (.cond (.tmp 19) .skip (.exit 0))) (.block 1 (.seq (.region L76r6) (.region L76r7)))))) (.seq (.region L76r8) .ret))))))
theorem nt76 : Tryd.f76.ntmps = 25 := by kernel_rfl
theorem rs76 : Tryd.f76.results.toList = [.tmp 2] := by kernel_rfl
theorem lite76 : Tryd.f76.body.map (lite okDraw) = some L76 := by kernel_rfl
def L77r0 : List AOp := [
  ⟨(some 4), .assign (.const (.bool false)), none, 0⟩]
def L77r1 : List AOp := [
  ⟨(some 7), .move (.tmp 1), none, 0⟩,
  ⟨(some 8), .binOp .lss 3 (.tmp 7) (.const (.int .i64 0)) 3, none, 0⟩,
  ⟨(some 9), .move (.tmp 8), none, 0⟩,
  ⟨(some 10), .move (.tmp 1), (some (9, false)), 0⟩,
  ⟨(some 11), .binOp .quo 3 (.tmp 10) (.const (.int .i64 32)) 3, (some (9, false)), 0⟩,
  ⟨(some 12), .move (.tmp 0), (some (9, false)), 0⟩,
  ⟨(some 13), .call { callee := .builtin .len, args := #[.tmp 12], argTypes := #[28] }, (some (9, false)), 0⟩,
  ⟨(some 14), .binOp .geq 3 (.tmp 11) (.tmp 13) 3, (some (9, false)), 0⟩,
  ⟨(some 15), .pick (.tmp 9) (.const (.bool true)) (.tmp 14), none, 0⟩]
def L77r2 : List AOp := [
  ⟨(some 4), .assign (.const (.bool false)), none, 0⟩]
def L77r3 : List AOp := [
  ⟨(some 16), .move (.tmp 0), none, 0⟩,
  ⟨(some 17), .move (.tmp 1), none, 0⟩,
  ⟨(some 18), .binOp .quo 3 (.tmp 17) (.const (.int .i64 32)) 3, none, 0⟩,
  ⟨(some 19), .indexAddr 28 (.tmp 16) (.tmp 18), none, 0⟩,
  ⟨(some 20), .load 22 (.tmp 19), none, 0⟩,
  ⟨(some 5), .assign (.tmp 20), none, 0⟩]
def L77r4 : List AOp := [
  ⟨(some 6), .assign (.const (.int .i64 0)), none, 0⟩]
def L77r5 : List AOp := [
  ⟨(some 21), .move (.tmp 6), none, 0⟩,
  ⟨(some 22), .move (.tmp 1), none, 0⟩,
  ⟨(some 23), .binOp .rem 3 (.tmp 22) (.const (.int .i64 32)) 3, none, 0⟩,
  ⟨(some 24), .binOp .lss 3 (.tmp 21) (.tmp 23) 3, none, 0⟩]
def L77r7 : List AOp := [
  ⟨(some 27), .move (.tmp 5), none, 0⟩,
  ⟨(some 28), .binOp .quo 22 (.tmp 27) (.const (.int .u64 2)) 22, none, 0⟩,
  ⟨(some 5), .assign (.tmp 28), none, 0⟩]
def L77r6 : List AOp := [
  ⟨(some 25), .move (.tmp 6), none, 0⟩,
  ⟨(some 26), .binOp .add 3 (.tmp 25) (.const (.int .i64 1)) 3, none, 0⟩,
  ⟨(some 6), .assign (.tmp 26), none, 0⟩]
def L77r8 : List AOp := [
  ⟨(some 29), .move (.tmp 5), none, 0⟩,
  ⟨(some 30), .binOp .rem 22 (.tmp 29) (.const (.int .u64 2)) 22, none, 0⟩,
  ⟨(some 31), .binOp .eql 22 (.tmp 30) (.const (.int .u64 1)) 22, none, 0⟩,
  ⟨(some 4), .assign (.tmp 31), none, 0⟩]
def L77 : LC := (.seq (.region L77r0) (.seq (.seq (.region L77r1) (.cond (.tmp 15) (.seq (.region L77r2) .ret) .skip)) (.seq (.region L77r3) (.seq (.seq (.region L77r4) (.block 0 (.loop (.seq (.seq (.region L77r5) (.cond (.tmp 24) .skip (.exit 0))) (.seq (.block 1 (.region L77r7)) (.region L77r6)))))) (.seq (.region L77r8) .ret)))))
theorem nt77 : Tryd.f77.ntmps = 32 := by kernel_rfl
theorem rs77 : Tryd.f77.results.toList = [.tmp 4] := by kernel_rfl
theorem lite77 : Tryd.f77.body.map (lite okDraw) = some L77 := by kernel_rfl
def L78r0 : List AOp := [
  ⟨(some 2), .box 75 (.tmp 0), none, 0⟩,
  ⟨(some 3), .box 52 (.tmp 1), none, 0⟩,
  ⟨(some 4), .alloc 24, none, 0⟩]
def L78r1 : List AOp := [
  ⟨(some 5), .assign (.const (.int .u64 0)), none, 0⟩]
def L78r2 : List AOp := [
  ⟨(some 16), .move (.const (.int .i64 0)), none, 0⟩]
def L78r3 : List AOp := [
  ⟨(some 17), .binOp .lss 3 (.tmp 16) (.const (.int .i64 6)) 3, none, 0⟩]
def L78r4 : List AOp := [
  ⟨(some 18), .move (.tmp 16), none, 0⟩,
  ⟨(some 6), .assign (.tmp 18), none, 0⟩]
def L78r5 : List AOp := [
  ⟨(some 19), .move (.tmp 6), none, 0⟩,
  ⟨(some 20), .indexAddr 75 (.tmp 2) (.tmp 19), none, 1⟩,
  ⟨(some 21), .load 22 (.tmp 20), none, 3⟩,
  ⟨(some 22), .fieldAddr 52 (.tmp 3) 1, none, 0⟩,
  ⟨(some 23), .load 22 (.tmp 22), none, 8⟩,
  ⟨(some 24), .binOp .mul 22 (.tmp 21) (.tmp 23) 22, none, 1267650600228229401496703205407⟩,
  ⟨(some 7), .assign (.tmp 24), none, 1267650600228229401496703205439⟩]
def L78r6 : List AOp := [
  ⟨(some 8), .assign (.const (.int .u64 0)), none, 0⟩]
def L78r7 : List AOp := [
  ⟨(some 25), .move (.const (.int .i64 0)), none, 0⟩]
def L78r8 : List AOp := [
  ⟨(some 26), .binOp .lss 3 (.tmp 25) (.const (.int .i64 6)) 3, none, 0⟩]
def L78r9 : List AOp := [
  ⟨(some 27), .move (.tmp 25), none, 0⟩,
  ⟨(some 9), .assign (.tmp 27), none, 0⟩]
def L78r10 : List AOp := [
  ⟨(some 29), .move (.tmp 7), none, 0⟩,
  ⟨(some 30), .move (.tmp 9), none, 0⟩,
  ⟨(some 31), .fieldAddr 52 (.tmp 3) 0, none, 0⟩,
  ⟨(some 32), .indexAddr 24 (.tmp 31) (.tmp 30), none, 0⟩,
  ⟨(some 33), .load 22 (.tmp 32), none, 0⟩,
  ⟨(some 34), .call { callee := .value (.func 80), args := #[.tmp 29, .tmp 33], argTypes := #[22, 22] }, none, 0⟩,
  ⟨(some 28), .move (.tmp 34), none, 0⟩,
  ⟨(some 35), .extract (.tmp 28) 0, none, 0⟩,
  ⟨(some 36), .extract (.tmp 28) 1, none, 0⟩,
  ⟨(some 10), .assign (.tmp 35), none, 0⟩,
  ⟨(some 11), .assign (.tmp 36), none, 0⟩]
def L78r11 : List AOp := [
  ⟨(some 12), .assign (.const (.int .u64 0)), none, 0⟩]
def L78r12 : List AOp := [
  ⟨(some 38), .move (.tmp 11), none, 0⟩,
  ⟨(some 39), .move (.tmp 6), none, 0⟩,
  ⟨(some 40), .move (.tmp 9), none, 0⟩,
  ⟨(some 41), .binOp .add 3 (.tmp 39) (.tmp 40) 3, none, 0⟩,
  ⟨(some 42), .indexAddr 75 (.tmp 2) (.tmp 41), none, 0⟩,
  ⟨(some 43), .load 22 (.tmp 42), none, 0⟩,
  ⟨(some 44), .call { callee := .value (.func 75), args := #[.tmp 38, .tmp 43, .const (.int .u64 0)], argTypes := #[22, 22, 22] }, none, 0⟩,
  ⟨(some 37), .move (.tmp 44), none, 0⟩,
  ⟨(some 45), .extract (.tmp 37) 0, none, 0⟩,
  ⟨(some 46), .extract (.tmp 37) 1, none, 0⟩,
  ⟨(some 11), .assign (.tmp 45), none, 0⟩,
  ⟨(some 12), .assign (.tmp 46), none, 0⟩]
def L78r13 : List AOp := [
  ⟨(some 47), .move (.tmp 10), none, 0⟩,
  ⟨(some 48), .move (.tmp 12), none, 0⟩,
  ⟨(some 49), .binOp .add 22 (.tmp 47) (.tmp 48) 22, none, 0⟩,
  ⟨(some 10), .assign (.tmp 49), none, 0⟩]
def L78r14 : List AOp := [
  ⟨(some 51), .move (.tmp 11), none, 0⟩,
  ⟨(some 52), .move (.tmp 8), none, 0⟩,
  ⟨(some 53), .call { callee := .value (.func 75), args := #[.tmp 51, .tmp 52, .const (.int .u64 0)], argTypes := #[22, 22, 22] }, none, 0⟩,
  ⟨(some 50), .move (.tmp 53), none, 0⟩,
  ⟨(some 54), .extract (.tmp 50) 0, none, 0⟩,
  ⟨(some 55), .extract (.tmp 50) 1, none, 0⟩,
  ⟨(some 11), .assign (.tmp 54), none, 0⟩,
  ⟨(some 12), .assign (.tmp 55), none, 0⟩]
def L78r15 : List AOp := [
  ⟨(some 56), .move (.tmp 6), none, 0⟩,
  ⟨(some 57), .move (.tmp 9), none, 0⟩,
  ⟨(some 58), .binOp .add 3 (.tmp 56) (.tmp 57) 3, none, 0⟩,
  ⟨(some 59), .move (.tmp 11), none, 0⟩,
  ⟨(some 60), .move (.tmp 10), none, 0⟩,
  ⟨(some 61), .move (.tmp 12), none, 0⟩,
  ⟨(some 62), .binOp .add 22 (.tmp 60) (.tmp 61) 22, none, 0⟩,
  ⟨(some 63), .indexAddr 75 (.tmp 2) (.tmp 58), none, 0⟩,
  ⟨none, .store 22 (.tmp 63) (.tmp 59), none, 0⟩,
  ⟨(some 8), .assign (.tmp 62), none, 0⟩]
def L78r16 : List AOp := [
  ⟨(some 64), .binOp .add 3 (.tmp 25) (.const (.int .i64 1)) 3, none, 0⟩,
  ⟨(some 25), .move (.tmp 64), none, 0⟩]
def L78r17 : List AOp := [
  ⟨(some 13), .assign (.const (.int .u64 0)), none, 0⟩]
def L78r18 : List AOp := [
  ⟨(some 65), .move (.tmp 6), none, 0⟩,
  ⟨(some 66), .binOp .add 3 (.tmp 65) (.const (.int .i64 6)) 3, none, 0⟩,
  ⟨(some 14), .assign (.tmp 66), none, 0⟩]
def L78r19 : List AOp := [
  ⟨(some 67), .move (.tmp 14), none, 0⟩,
  ⟨(some 68), .binOp .lss 3 (.tmp 67) (.const (.int .i64 12)) 3, none, 0⟩]
def L78r21 : List AOp := [
  ⟨(some 72), .move (.tmp 14), none, 0⟩,
  ⟨(some 73), .move (.tmp 14), none, 0⟩,
  ⟨(some 74), .indexAddr 75 (.tmp 2) (.tmp 73), none, 0⟩,
  ⟨(some 75), .load 22 (.tmp 74), none, 0⟩,
  ⟨(some 76), .move (.tmp 8), none, 0⟩,
  ⟨(some 77), .call { callee := .value (.func 75), args := #[.tmp 75, .tmp 76, .const (.int .u64 0)], argTypes := #[22, 22, 22] }, none, 0⟩,
  ⟨(some 71), .move (.tmp 77), none, 0⟩,
  ⟨(some 78), .extract (.tmp 71) 0, none, 0⟩,
  ⟨(some 79), .extract (.tmp 71) 1, none, 0⟩,
  ⟨(some 80), .indexAddr 75 (.tmp 2) (.tmp 72), none, 0⟩,
  ⟨none, .store 22 (.tmp 80) (.tmp 78), none, 0⟩,
  ⟨(some 13), .assign (.tmp 79), none, 0⟩]
def L78r22 : List AOp := [
  ⟨(some 81), .move (.tmp 13), none, 0⟩,
  ⟨(some 8), .assign (.tmp 81), none, 0⟩]
def L78r20 : List AOp := [
  ⟨(some 69), .move (.tmp 14), none, 0⟩,
  ⟨(some 70), .binOp .add 3 (.tmp 69) (.const (.int .i64 1)) 3, none, 0⟩,
  ⟨(some 14), .assign (.tmp 70), none, 0⟩]
def L78r23 : List AOp := [
  ⟨(some 82), .move (.tmp 5), none, 0⟩,
  ⟨(some 83), .move (.tmp 8), none, 0⟩,
  ⟨(some 84), .binOp .add 22 (.tmp 82) (.tmp 83) 22, none, 0⟩,
  ⟨(some 5), .assign (.tmp 84), none, 0⟩]
def L78r24 : List AOp := [
  ⟨(some 85), .binOp .add 3 (.tmp 16) (.const (.int .i64 1)) 3, none, 0⟩,
  ⟨(some 16), .move (.tmp 85), none, 0⟩]
def L78r25 : List AOp := [
  ⟨(some 86), .slice 75 (.tmp 2) (some (.const (.int .i64 6))) none none, none, 0⟩,
  ⟨(some 87), .sliceToArrayPointer 24 (.tmp 86), none, 0⟩,
  ⟨(some 88), .load 24 (.tmp 87), none, 0⟩,
  ⟨(some 15), .alloc 24, none, 0⟩,
  ⟨none, .store 24 (.tmp 15) (.tmp 88), none, 0⟩]
def L78r26 : List AOp := [
  ⟨(some 89), .load 24 (.tmp 15), none, 0⟩,
  ⟨(some 90), .move (.tmp 5), none, 0⟩,
  ⟨(some 91), .fieldAddr 52 (.tmp 3) 0, none, 0⟩,
  ⟨(some 92), .load 24 (.tmp 91), none, 0⟩,
  ⟨(some 93), .call { callee := .value (.func 69), args := #[.tmp 89, .tmp 90, .tmp 92], argTypes := #[24, 22, 24] }, none, 0⟩,
  ⟨none, .store 24 (.tmp 15) (.tmp 93), none, 0⟩]
def L78r27 : List AOp := [
  ⟨(some 94), .load 24 (.tmp 15), none, 0⟩,
  ⟨(some 95), .fieldAddr 52 (.tmp 3) 0, none, 0⟩,
  ⟨(some 96), .load 24 (.tmp 95), none, 0⟩,
  ⟨(some 97), .call { callee := .value (.func 69), args := #[.tmp 94, .const (.int .u64 0), .tmp 96], argTypes := #[24, 22, 24] }, none, 0⟩,
  ⟨none, .store 24 (.tmp 4) (.tmp 97), none, 0⟩]
def L78 : LC := (.seq (.region L78r0) (.seq (.region L78r1) (.seq (.seq (.region L78r2) (.block 0 (.loop (.seq (.region L78r3) (.seq (.cond (.tmp 17) .skip (.exit 0)) (.seq (.block 1 (.seq (.region L78r4) (.seq (.regionD L78r5) (.seq (.region L78r6) (.seq (.seq (.region L78r7) (.block 2 (.loop (.seq (.region L78r8) (.seq (.cond (.tmp 26) .skip (.exit 2)) (.seq (.block 3 (.seq (.region L78r9) (.seq (.region L78r10) (.seq (.region L78r11) (.seq (.region L78r12) (.seq (.region L78r13) (.seq (.region L78r14) (.region L78r15)))))))) (.region L78r16))))))) (.seq (.region L78r17) (.seq (.seq (.region L78r18) (.block 4 (.loop (.seq (.seq (.region L78r19) (.cond (.tmp 68) .skip (.exit 4))) (.seq (.block 5 (.seq (.region L78r21) (.region L78r22))) (.region L78r20)))))) (.region L78r23)))))))) (.region L78r24))))))) (.seq (.region L78r25) (.seq (.region L78r26) (.seq (.region L78r27) .ret))))))
theorem nt78 : Tryd.f78.ntmps = 98 := by kernel_rfl
theorem rs78 : Tryd.f78.results.toList = [.cell 4 24] := by kernel_rfl
theorem lite78 : Tryd.f78.body.map (lite okDraw) = some L78 := by kernel_rfl
def L79r0 : List AOp := [
  ⟨(some 2), .box 24 (.tmp 0), none, 0⟩,
  ⟨(some 3), .box 24 (.tmp 1), none, 0⟩,
  ⟨(some 4), .alloc 75, none, 0⟩]
def L79r1 : List AOp := [
  ⟨(some 5), .alloc 75, none, 0⟩]
def L79r2 : List AOp := [
  ⟨(some 12), .move (.const (.int .i64 0)), none, 0⟩]
def L79r3 : List AOp := [
  ⟨(some 13), .binOp .lss 3 (.tmp 12) (.const (.int .i64 6)) 3, none, 0⟩]
def L79r4 : List AOp := [
  ⟨(some 14), .move (.tmp 12), none, 0⟩,
  ⟨(some 6), .assign (.tmp 14), none, 0⟩]
def L79r5 : List AOp := [
  ⟨(some 7), .assign (.const (.int .u64 0)), none, 0⟩]
def L79r6 : List AOp := [
  ⟨(some 15), .move (.const (.int .i64 0)), none, 0⟩]
def L79r7 : List AOp := [
  ⟨(some 16), .binOp .lss 3 (.tmp 15) (.const (.int .i64 6)) 3, none, 0⟩]
def L79r8 : List AOp := [
  ⟨(some 17), .move (.tmp 15), none, 0⟩,
  ⟨(some 8), .assign (.tmp 17), none, 0⟩]
def L79r9 : List AOp := [
  ⟨(some 19), .move (.tmp 6), none, 0⟩,
  ⟨(some 20), .indexAddr 24 (.tmp 2) (.tmp 19), none, 1⟩,
  ⟨(some 21), .load 22 (.tmp 20), none, 3⟩,
  ⟨(some 22), .move (.tmp 8), none, 0⟩,
  ⟨(some 23), .indexAddr 24 (.tmp 3) (.tmp 22), none, 8⟩,
  ⟨(some 24), .load 22 (.tmp 23), none, 24⟩,
  ⟨(some 25), .call { callee := .value (.func 80), args := #[.tmp 21, .tmp 24], argTypes := #[22, 22] }, none, 1267650600228229401496703205439⟩,
  ⟨(some 18), .move (.tmp 25), none, 1267650600228229401496703205503⟩,
  ⟨(some 26), .extract (.tmp 18) 0, none, 255⟩,
  ⟨(some 27), .extract (.tmp 18) 1, none, 255⟩,
  ⟨(some 9), .assign (.tmp 26), none, 511⟩,
  ⟨(some 10), .assign (.tmp 27), none, 1267650600228229401496703207423⟩]
def L79r10 : List AOp := [
  ⟨(some 11), .assign (.const (.int .u64 0)), none, 0⟩]
def L79r11 : List AOp := [
  ⟨(some 29), .move (.tmp 10), none, 0⟩,
  ⟨(some 30), .move (.tmp 6), none, 0⟩,
  ⟨(some 31), .move (.tmp 8), none, 0⟩,
  ⟨(some 32), .binOp .add 3 (.tmp 30) (.tmp 31) 3, none, 0⟩,
  ⟨(some 33), .indexAddr 75 (.tmp 5) (.tmp 32), none, 0⟩,
  ⟨(some 34), .load 22 (.tmp 33), none, 0⟩,
  ⟨(some 35), .call { callee := .value (.func 75), args := #[.tmp 29, .tmp 34, .const (.int .u64 0)], argTypes := #[22, 22, 22] }, none, 0⟩,
  ⟨(some 28), .move (.tmp 35), none, 0⟩,
  ⟨(some 36), .extract (.tmp 28) 0, none, 0⟩,
  ⟨(some 37), .extract (.tmp 28) 1, none, 0⟩,
  ⟨(some 10), .assign (.tmp 36), none, 0⟩,
  ⟨(some 11), .assign (.tmp 37), none, 0⟩]
def L79r12 : List AOp := [
  ⟨(some 38), .move (.tmp 9), none, 0⟩,
  ⟨(some 39), .move (.tmp 11), none, 0⟩,
  ⟨(some 40), .binOp .add 22 (.tmp 38) (.tmp 39) 22, none, 0⟩,
  ⟨(some 9), .assign (.tmp 40), none, 0⟩]
def L79r13 : List AOp := [
  ⟨(some 42), .move (.tmp 10), none, 0⟩,
  ⟨(some 43), .move (.tmp 7), none, 0⟩,
  ⟨(some 44), .call { callee := .value (.func 75), args := #[.tmp 42, .tmp 43, .const (.int .u64 0)], argTypes := #[22, 22, 22] }, none, 0⟩,
  ⟨(some 41), .move (.tmp 44), none, 0⟩,
  ⟨(some 45), .extract (.tmp 41) 0, none, 0⟩,
  ⟨(some 46), .extract (.tmp 41) 1, none, 0⟩,
  ⟨(some 10), .assign (.tmp 45), none, 0⟩,
  ⟨(some 11), .assign (.tmp 46), none, 0⟩]
def L79r14 : List AOp := [
  ⟨(some 47), .move (.tmp 6), none, 0⟩,
  ⟨(some 48), .move (.tmp 8), none, 0⟩,
  ⟨(some 49), .binOp .add 3 (.tmp 47) (.tmp 48) 3, none, 0⟩,
  ⟨(some 50), .move (.tmp 10), none, 0⟩,
  ⟨(some 51), .move (.tmp 9), none, 0⟩,
  ⟨(some 52), .move (.tmp 11), none, 0⟩,
  ⟨(some 53), .binOp .add 22 (.tmp 51) (.tmp 52) 22, none, 0⟩,
  ⟨(some 54), .indexAddr 75 (.tmp 5) (.tmp 49), none, 0⟩,
  ⟨none, .store 22 (.tmp 54) (.tmp 50), none, 0⟩,
  ⟨(some 7), .assign (.tmp 53), none, 0⟩]
def L79r15 : List AOp := [
  ⟨(some 55), .binOp .add 3 (.tmp 15) (.const (.int .i64 1)) 3, none, 0⟩,
  ⟨(some 15), .move (.tmp 55), none, 0⟩]
def L79r16 : List AOp := [
  ⟨(some 56), .move (.tmp 6), none, 0⟩,
  ⟨(some 57), .binOp .add 3 (.tmp 56) (.const (.int .i64 6)) 3, none, 0⟩,
  ⟨(some 58), .move (.tmp 7), none, 0⟩,
  ⟨(some 59), .indexAddr 75 (.tmp 5) (.tmp 57), none, 0⟩,
  ⟨none, .store 22 (.tmp 59) (.tmp 58), none, 0⟩]
def L79r17 : List AOp := [
  ⟨(some 60), .binOp .add 3 (.tmp 12) (.const (.int .i64 1)) 3, none, 0⟩,
  ⟨(some 12), .move (.tmp 60), none, 0⟩]
def L79r18 : List AOp := [
  ⟨(some 61), .load 75 (.tmp 5), none, 0⟩,
  ⟨none, .store 75 (.tmp 4) (.tmp 61), none, 0⟩]
def L79 : LC := (.seq (.region L79r0) (.seq (.region L79r1) (.seq (.seq (.region L79r2) (.block 0 (.loop (.seq (.region L79r3) (.seq (.cond (.tmp 13) .skip (.exit 0)) (.seq (.block 1 (.seq (.region L79r4) (.seq (.region L79r5) (.seq (.seq (.region L79r6) (.block 2 (.loop (.seq (.region L79r7) (.seq (.cond (.tmp 16) .skip (.exit 2)) (.seq (.block 3 (.seq (.region L79r8) (.seq (.regionD L79r9) (.seq (.region L79r10) (.seq (.region L79r11) (.seq (.region L79r12) (.seq (.region L79r13) (.region L79r14)))))))) (.region L79r15))))))) (.region L79r16))))) (.region L79r17))))))) (.seq (.region L79r18) .ret))))
theorem nt79 : Tryd.f79.ntmps = 62 := by kernel_rfl
theorem rs79 : Tryd.f79.results.toList = [.cell 4 75] := by kernel_rfl
theorem lite79 : Tryd.f79.body.map (lite okDraw) = some L79 := by kernel_rfl
def L80r0 : List AOp := [
  ⟨(some 4), .assign (.const (.int .u64 0)), none, 0⟩,
  ⟨(some 5), .assign (.const (.int .u64 0)), none, 0⟩]
def L80r1 : List AOp := [
  ⟨(some 14), .move (.tmp 0), none, 0⟩,
  ⟨(some 15), .binOp .and 22 (.tmp 14) (.const (.int .u64 4294967295)) 22, none, 0⟩,
  ⟨(some 6), .assign (.tmp 15), none, 0⟩]
def L80r2 : List AOp := [
  ⟨(some 16), .move (.tmp 0), none, 0⟩,
  ⟨(some 17), .binOp .shr 22 (.tmp 16) (.const (.int .u64 32)) 59, none, 0⟩,
  ⟨(some 7), .assign (.tmp 17), none, 0⟩]
def L80r3 : List AOp := [
  ⟨(some 18), .move (.tmp 1), none, 0⟩,
  ⟨(some 19), .binOp .and 22 (.tmp 18) (.const (.int .u64 4294967295)) 22, none, 0⟩,
  ⟨(some 8), .assign (.tmp 19), none, 0⟩]
def L80r4 : List AOp := [
  ⟨(some 20), .move (.tmp 1), none, 0⟩,
  ⟨(some 21), .binOp .shr 22 (.tmp 20) (.const (.int .u64 32)) 59, none, 0⟩,
  ⟨(some 9), .assign (.tmp 21), none, 0⟩]
def L80r5 : List AOp := [
  ⟨(some 22), .move (.tmp 6), none, 0⟩,
  ⟨(some 23), .move (.tmp 8), none, 0⟩,
  ⟨(some 24), .binOp .mul 22 (.tmp 22) (.tmp 23) 22, none, 0⟩,
  ⟨(some 10), .assign (.tmp 24), none, 0⟩]
def L80r6 : List AOp := [
  ⟨(some 25), .move (.tmp 7), none, 0⟩,
  ⟨(some 26), .move (.tmp 8), none, 0⟩,
  ⟨(some 27), .binOp .mul 22 (.tmp 25) (.tmp 26) 22, none, 0⟩,
  ⟨(some 28), .move (.tmp 10), none, 0⟩,
  ⟨(some 29), .binOp .shr 22 (.tmp 28) (.const (.int .u64 32)) 59, none, 0⟩,
  ⟨(some 30), .binOp .add 22 (.tmp 27) (.tmp 29) 22, none, 0⟩,
  ⟨(some 11), .assign (.tmp 30), none, 0⟩]
def L80r7 : List AOp := [
  ⟨(some 31), .move (.tmp 11), none, 0⟩,
  ⟨(some 32), .binOp .and 22 (.tmp 31) (.const (.int .u64 4294967295)) 22, none, 0⟩,
  ⟨(some 12), .assign (.tmp 32), none, 0⟩]
def L80r8 : List AOp := [
  ⟨(some 33), .move (.tmp 11), none, 0⟩,
  ⟨(some 34), .binOp .shr 22 (.tmp 33) (.const (.int .u64 32)) 59, none, 0⟩,
  ⟨(some 13), .assign (.tmp 34), none, 0⟩]
def L80r9 : List AOp := [
  ⟨(some 35), .move (.tmp 12), none, 0⟩,
  ⟨(some 36), .move (.tmp 6), none, 0⟩,
  ⟨(some 37), .move (.tmp 9), none, 0⟩,
  ⟨(some 38), .binOp .mul 22 (.tmp 36) (.tmp 37) 22, none, 0⟩,
  ⟨(some 39), .binOp .add 22 (.tmp 35) (.tmp 38) 22, none, 0⟩,
  ⟨(some 12), .assign (.tmp 39), none, 0⟩]
def L80r10 : List AOp := [
  ⟨(some 40), .move (.tmp 7), none, 0⟩,
  ⟨(some 41), .move (.tmp 9), none, 0⟩,
  ⟨(some 42), .binOp .mul 22 (.tmp 40) (.tmp 41) 22, none, 0⟩,
  ⟨(some 43), .move (.tmp 13), none, 0⟩,
  ⟨(some 44), .binOp .add 22 (.tmp 42) (.tmp 43) 22, none, 0⟩,
  ⟨(some 45), .move (.tmp 12), none, 0⟩,
  ⟨(some 46), .binOp .shr 22 (.tmp 45) (.const (.int .u64 32)) 59, none, 0⟩,
  ⟨(some 47), .binOp .add 22 (.tmp 44) (.tmp 46) 22, none, 0⟩,
  ⟨(some 4), .assign (.tmp 47), none, 0⟩]
def L80r11 : List AOp := [
  ⟨(some 48), .move (.tmp 0), none, 0⟩,
  ⟨(some 49), .move (.tmp 1), none, 0⟩,
  ⟨(some 50), .binOp .mul 22 (.tmp 48) (.tmp 49) 22, none, 0⟩,
  ⟨(some 5), .assign (.tmp 50), none, 0⟩]
def L80 : LC := (.seq (.region L80r0) (.seq (.region L80r1) (.seq (.region L80r2) (.seq (.region L80r3) (.seq (.region L80r4) (.seq (.region L80r5) (.seq (.region L80r6) (.seq (.region L80r7) (.seq (.region L80r8) (.seq (.region L80r9) (.seq (.region L80r10) (.seq (.region L80r11) .ret))))))))))))
theorem nt80 : Tryd.f80.ntmps = 51 := by kernel_rfl
theorem rs80 : Tryd.f80.results.toList = [.tmp 4, .tmp 5] := by kernel_rfl
theorem lite80 : Tryd.f80.body.map (lite okDraw) = some L80 := by kernel_rfl
def L102r0 : List AOp := [
  ⟨(some 0), .build 24 #[(0, .const (.int .u64 4294967295)), (1, .const (.int .u64 18446744069414584320)), (2, .const (.int .u64 18446744073709551614)), (3, .const (.int .u64 18446744073709551615)), (4, .const (.int .u64 18446744073709551615)), (5, .const (.int .u64 18446744073709551615))], none, 0⟩,
  ⟨(some 1), .build 24 #[(0, .const (.int .u64 18446744065119617025)), (1, .const (.int .u64 8589934592)), (2, .const (.int .u64 18446744065119617024)), (3, .const (.int .u64 8589934592)), (4, .const (.int .u64 1)), (5, .const (.int .u64 0))], none, 0⟩,
  ⟨(some 2), .build 52 #[(0, .tmp 0), (1, .const (.int .u64 4294967297)), (2, .tmp 1)], none, 0⟩,
  ⟨none, .store 52 (.global 0) (.tmp 2), none, 0⟩]
def L102r1 : List AOp := [
  ⟨(some 3), .build 24 #[(0, .const (.int .u64 17072048233947408755)), (1, .const (.int .u64 6348401684107011962)), (2, .const (.int .u64 14367412456785391071)), (3, .const (.int .u64 18446744073709551615)), (4, .const (.int .u64 18446744073709551615)), (5, .const (.int .u64 18446744073709551615))], none, 0⟩,
  ⟨(some 4), .build 24 #[(0, .const (.int .u64 3256554584917936553)), (1, .const (.int .u64 18391999277541532697)), (2, .const (.int .u64 13564358545871743303)), (3, .const (.int .u64 15279949475123764421)), (4, .const (.int .u64 4589268600508278933)), (5, .const (.int .u64 902107514168524577))], none, 0⟩,
  ⟨(some 5), .build 52 #[(0, .tmp 3), (1, .const (.int .u64 7986114184663260229)), (2, .tmp 4)], none, 0⟩,
  ⟨none, .store 52 (.global 1) (.tmp 5), none, 0⟩]
def L102 : LC := (.seq (.region L102r0) (.region L102r1))
theorem nt102 : Tryd.f102.ntmps = 6 := by kernel_rfl
theorem rs102 : Tryd.f102.results.toList = [] := by kernel_rfl
theorem lite102 : Tryd.f102.body.map (lite okDraw) = some L102 := by kernel_rfl
end Eng
