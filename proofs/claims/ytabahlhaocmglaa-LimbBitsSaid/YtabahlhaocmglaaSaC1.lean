/- Contracts of the program's functions, and laws over them. There is no further condition. -/
import Derived.Test.YtabahlhaocmglaaSaTy
namespace Eng
open Go Go.Proofs
-- f3 "escutcheon/escutcheonlaw01.LimbBits" · 30 slots · results #[Go.ResultVar.tmp 4]
def L3r0 : List AOp := [
  ⟨(some 2), .box 24 (.tmp 0), none, 0⟩,
  ⟨(some 4), .assign (.const (.bool false)), none, 0⟩]
def L3r1 : List AOp := [
  ⟨(some 5), .assign (.const (.int .u64 0)), none, 0⟩]
def L3r2 : List AOp := [
  ⟨(some 6), .move (.tmp 1), none, 0⟩,
  ⟨(some 7), .binOp .geq 3 (.tmp 6) (.const (.int .i64 0)) 3, none, 0⟩,
  ⟨(some 8), .move (.tmp 7), none, 0⟩,
  ⟨(some 9), .move (.tmp 1), (some (8, true)), 0⟩,
  ⟨(some 10), .binOp .lss 3 (.tmp 9) (.const (.int .i64 384)) 3, (some (8, true)), 0⟩,
  ⟨(some 11), .pick (.tmp 8) (.tmp 10) (.const (.bool false)), none, 0⟩]
def L3r3 : List AOp := [
  ⟨(some 12), .move (.tmp 1), none, 0⟩,
  ⟨(some 13), .binOp .quo 3 (.tmp 12) (.const (.int .i64 64)) 3, none, 0⟩,
  ⟨(some 14), .indexAddr 24 (.tmp 2) (.tmp 13), none, 0⟩,
  ⟨(some 15), .load 22 (.tmp 14), none, 0⟩,
  ⟨(some 16), .move (.tmp 1), none, 0⟩,
  ⟨(some 17), .binOp .rem 3 (.tmp 16) (.const (.int .i64 64)) 3, none, 0⟩,
  ⟨(some 18), .binOp .shr 22 (.tmp 15) (.tmp 17) 3, none, 0⟩,
  ⟨(some 19), .binOp .rem 22 (.tmp 18) (.const (.int .u64 2)) 22, none, 0⟩,
  ⟨(some 5), .assign (.tmp 19), none, 0⟩]
def L3r4 : List AOp := [
  ⟨(some 20), .call { callee := .value (.func 22), args := #[], argTypes := #[] }, none, 0⟩,
  ⟨(some 21), .call { callee := .value (.func 21), args := #[.tmp 20, .const (.int .i64 0)], argTypes := #[24, 3] }, none, 0⟩,
  ⟨(some 22), .binOp .eql 22 (.tmp 21) (.const (.int .u64 1)) 22, none, 0⟩,
  ⟨(some 23), .move (.tmp 22), none, 0⟩,
  ⟨(some 24), .load 24 (.tmp 2), (some (23, true)), 0⟩,
  ⟨(some 25), .move (.tmp 1), (some (23, true)), 0⟩,
  ⟨(some 26), .call { callee := .value (.func 21), args := #[.tmp 24, .tmp 25], argTypes := #[24, 3] }, (some (23, true)), 0⟩,
  ⟨(some 27), .move (.tmp 5), (some (23, true)), 0⟩,
  ⟨(some 28), .binOp .eql 22 (.tmp 26) (.tmp 27) 22, (some (23, true)), 0⟩,
  ⟨(some 29), .pick (.tmp 23) (.tmp 28) (.const (.bool false)), none, 0⟩,
  ⟨(some 4), .assign (.tmp 29), none, 0⟩]
def L3 : LC := (.seq (.region L3r0) (.seq (.region L3r1) (.seq (.seq (.region L3r2) (.cond (.tmp 11) (.region L3r3) .skip)) (.seq (.region L3r4) .ret))))
theorem lite3 : Try.f3.body.map (lite okDraw) = some L3 := by kernel_rfl
-- f21 "escutcheon/limb.Bit" · 19 slots · results #[Go.ResultVar.tmp 4]
def L21r0 : List AOp := [
  ⟨(some 2), .box 24 (.tmp 0), none, 0⟩,
  ⟨(some 4), .assign (.const (.int .u64 0)), none, 0⟩]
def L21r1 : List AOp := [
  ⟨(some 5), .move (.tmp 1), none, 0⟩,
  ⟨(some 6), .binOp .lss 3 (.tmp 5) (.const (.int .i64 0)) 3, none, 0⟩,
  ⟨(some 7), .move (.tmp 6), none, 0⟩,
  ⟨(some 8), .move (.tmp 1), (some (7, false)), 0⟩,
  ⟨(some 9), .binOp .geq 3 (.tmp 8) (.const (.int .i64 384)) 3, (some (7, false)), 0⟩,
  ⟨(some 10), .pick (.tmp 7) (.const (.bool true)) (.tmp 9), none, 0⟩]
def L21r2 : List AOp := [
  ⟨(some 4), .assign (.const (.int .u64 0)), none, 0⟩]
def L21r3 : List AOp := [
  ⟨(some 11), .move (.tmp 1), none, 0⟩,
  ⟨(some 12), .binOp .quo 3 (.tmp 11) (.const (.int .i64 64)) 3, none, 0⟩,
  ⟨(some 13), .indexAddr 24 (.tmp 2) (.tmp 12), none, 0⟩,
  ⟨(some 14), .load 22 (.tmp 13), none, 0⟩,
  ⟨(some 15), .move (.tmp 1), none, 0⟩,
  ⟨(some 16), .binOp .rem 3 (.tmp 15) (.const (.int .i64 64)) 3, none, 0⟩,
  ⟨(some 17), .binOp .shr 22 (.tmp 14) (.tmp 16) 3, none, 0⟩,
  ⟨(some 18), .binOp .and 22 (.tmp 17) (.const (.int .u64 1)) 22, none, 0⟩,
  ⟨(some 4), .assign (.tmp 18), none, 0⟩]
def L21 : LC := (.seq (.region L21r0) (.seq (.seq (.region L21r1) (.cond (.tmp 10) (.seq (.region L21r2) .ret) .skip)) (.seq (.region L21r3) .ret)))
theorem lite21 : Try.f21.body.map (lite okDraw) = some L21 := by kernel_rfl
-- f22 "escutcheon/escutcheonlaw01.one" · 2 slots · results #[Go.ResultVar.cell 0 24]
def L22r0 : List AOp := [
  ⟨(some 0), .alloc 24, none, 0⟩]
def L22r1 : List AOp := [
  ⟨(some 1), .build 24 #[(0, .const (.int .u64 1))], none, 0⟩,
  ⟨none, .store 24 (.tmp 0) (.tmp 1), none, 0⟩]
def L22 : LC := (.seq (.region L22r0) (.seq (.region L22r1) .ret))
theorem lite22 : Try.f22.body.map (lite okDraw) = some L22 := by kernel_rfl
end Eng
