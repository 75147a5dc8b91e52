/- Contracts of the program's functions, and laws over them. There is no further condition. -/
import Derived.Test.YtdpbddomncjkjaaDoorEC
import Derived.Test.YtdpbddomncjkjaaDoorED
import Derived.Test.YtdpbddomncjkjaaDoorChecked
import Derived.KernelRfl
import Derived.Test.YtdpbddomncjkjaaDoorRows
import Derived.Test.YtdpbddomncjkjaaDoorEngGl
set_option linter.unusedVariables false
set_option linter.unusedSimpArgs false
set_option linter.unusedSectionVars false
set_option exponentiation.threshold 2000
namespace Eng
open Go

def D32 (l : List Int) : Prop := ∀ x ∈ l, 0 ≤ x ∧ x < 4294967296
theorem D32.at {l : List Int} (h : D32 l) (i : Nat) : 0 ≤ l.getD i 0 ∧ l.getD i 0 < 4294967296 := by
  rcases Nat.lt_or_ge i l.length with hj | hj
  · rw [List.getD_eq_getElem?_getD, List.getElem?_eq_getElem hj, Option.getD_some]
    exact h _ (List.getElem_mem hj)
  · rw [List.getD_eq_getElem?_getD, List.getElem?_eq_none hj]
    exact ⟨by decide, by decide⟩
def D64 (l : List Int) : Prop := ∀ x ∈ l, 0 ≤ x ∧ x < 18446744073709551616
end Eng


namespace Eng
open Go
set_option linter.unusedSimpArgs false
/-- n bytes of a number, the highest first. -/
def bytesBE (n x : Nat) : List Int := tab n (fun k => ((x / 256 ^ (n - 1 - k) % 256 : Nat) : Int))
theorem bytesBE_len (n x : Nat) : (bytesBE n x).length = n := tab_len _ _
theorem bytesBE_U8 (n x : Nat) : U8L (bytesBE n x) := by
  intro y hy
  simp only [bytesBE, tab, List.mem_map] at hy
  obtain ⟨j, _, rfl⟩ := hy
  omega
theorem shr_byte (x s : Nat) (hs : s < 8) : IntKind.u8.wrap (shrZ .u64 (x : Int) ((8 * s : Nat) : Int)) = ((x / 256 ^ s % 256 : Nat) : Int) := by
  have e2 : (2 : Nat) ^ (8 * s) = 256 ^ s := by rw [Nat.pow_mul]
  have h : shrZ .u64 (x : Int) ((8 * s : Nat) : Int) = (x : Int).fdiv (2 ^ (min ((8 * s : Nat) : Int).toNat 64)) := rfl
  rw [h, Int.toNat_natCast, Nat.min_eq_left (by omega)]
  have e3 : (2 : Int) ^ (8 * s) = ((256 ^ s : Nat) : Int) := by rw [← e2]; simp
  rw [e3, Int.fdiv_eq_ediv_of_nonneg _ (Int.natCast_nonneg _), wrap_u8_mod, ← Int.natCast_ediv]
  omega
end Eng
namespace Eng
open Go
end Eng


namespace Eng
open Go
set_option linter.unusedSimpArgs false
theorem D64.set {l : List Int} (h : D64 l) (i : Nat) {x : Int} (h0 : 0 ≤ x) (h1 : x < 18446744073709551616) : D64 (l.set i x) := by
  intro y hy
  rcases List.mem_or_eq_of_mem_set hy with hy | rfl
  · exact h y hy
  · exact ⟨h0, h1⟩
theorem D32.set {l : List Int} (h : D32 l) (i : Nat) {x : Int} (h0 : 0 ≤ x) (h1 : x < 4294967296) : D32 (l.set i x) := by
  intro y hy
  rcases List.mem_or_eq_of_mem_set hy with hy | rfl
  · exact h y hy
  · exact ⟨h0, h1⟩
theorem D64.at {l : List Int} (h : D64 l) (i : Nat) : 0 ≤ l.getD i 0 ∧ l.getD i 0 < 18446744073709551616 := by
  rcases Nat.lt_or_ge i l.length with hi | hi
  · rw [List.getD_eq_getElem?_getD, List.getElem?_eq_getElem hi, Option.getD_some]
    exact h _ (List.getElem_mem hi)
  · rw [List.getD_eq_getElem?_getD, List.getElem?_eq_none hi]
    exact ⟨by decide, by decide⟩
end Eng
namespace Eng
open Go
end Eng


namespace Eng
open Go Go.Proofs
theorem ty3 : tyOf Tryd.prog 3 = some ⟨.int .i64, 1, 8, [.int .i64 0], false, true, true⟩ := by kernel_rfl
theorem ty5 : tyOf Tryd.prog 5 = some ⟨.int .u8, 1, 1, [.int .u8 0], false, true, true⟩ := by kernel_rfl
theorem ty9 : tyOf Tryd.prog 9 = some ⟨.string, 1, 16, [.str ⟨#[]⟩], false, true, true⟩ := by kernel_rfl
theorem ty22 : tyOf Tryd.prog 22 = some ⟨.int .u64, 1, 8, [.int .u64 0], false, true, true⟩ := by kernel_rfl
theorem ty23 : tyOf Tryd.prog 23 = some ⟨.array 8 22, 8, 64, ints .u64 (List.replicate 8 0), true, true, true⟩ := by kernel_rfl
theorem ty24 : tyOf Tryd.prog 24 = some ⟨.slice 5, 1, 24, [.nils], false, true, false⟩ := by kernel_rfl
theorem ty25 : tyOf Tryd.prog 25 = some ⟨.slice 22, 1, 24, [.nils], false, true, false⟩ := by kernel_rfl
theorem ty30 : tyOf Tryd.prog 30 = some ⟨.interface #[("Error", 70)], 1, 16, [.nili], false, true, true⟩ := by kernel_rfl
theorem ty34 : tyOf Tryd.prog 34 = some ⟨.int .i64, 1, 8, [.int .i64 0], false, true, true⟩ := by kernel_rfl
theorem ty64 : tyOf Tryd.prog 64 = some ⟨.int .u64, 1, 8, [.int .u64 0], false, true, true⟩ := by kernel_rfl
theorem ty66 : tyOf Tryd.prog 66 = some ⟨.array 40 22, 40, 320, ints .u64 (List.replicate 40 0), true, true, true⟩ := by kernel_rfl
theorem ty69 : tyOf Tryd.prog 69 = some ⟨.slice 24, 1, 24, [.nils], false, true, false⟩ := by kernel_rfl
end Eng


namespace Eng
open Go Go.Proofs
theorem hM0 : Tryd.prog.follows .mixedOrders = true := by kernel_rfl
def L9r0 : List AOp := [
  ⟨(some 8), .assign (.const (.bool false)), none, 0⟩]
def L9r1 : List AOp := [
  ⟨(some 14), .move (.tmp 0), none, 0⟩,
  ⟨(some 15), .call { callee := .value (.func 17), args := #[.tmp 14, .const (.int .i64 2000)], argTypes := #[24, 3] }, none, 0⟩,
  ⟨(some 0), .assign (.tmp 15), none, 0⟩]
def L9r2 : List AOp := [
  ⟨(some 16), .move (.tmp 1), none, 0⟩,
  ⟨(some 17), .call { callee := .value (.func 17), args := #[.tmp 16, .const (.int .i64 2000)], argTypes := #[24, 3] }, none, 0⟩,
  ⟨(some 1), .assign (.tmp 17), none, 0⟩]
def L9r3 : List AOp := [
  ⟨(some 18), .move (.tmp 2), none, 0⟩,
  ⟨(some 19), .binOp .lss 3 (.tmp 18) (.const (.int .i64 0)) 3, none, 0⟩,
  ⟨(some 20), .move (.tmp 19), none, 0⟩,
  ⟨(some 21), .move (.tmp 2), (some (20, false)), 0⟩,
  ⟨(some 22), .binOp .gtr 3 (.tmp 21) (.const (.int .i64 12240)) 3, (some (20, false)), 0⟩,
  ⟨(some 23), .pick (.tmp 20) (.const (.bool true)) (.tmp 22), none, 0⟩,
  ⟨(some 24), .move (.tmp 23), none, 0⟩,
  ⟨(some 25), .move (.tmp 3), (some (24, false)), 0⟩,
  ⟨(some 26), .binOp .lss 3 (.tmp 25) (.const (.int .i64 0)) 3, (some (24, false)), 0⟩,
  ⟨(some 27), .pick (.tmp 24) (.const (.bool true)) (.tmp 26), none, 0⟩,
  ⟨(some 28), .move (.tmp 27), none, 0⟩,
  ⟨(some 29), .move (.tmp 3), (some (28, false)), 0⟩,
  ⟨(some 30), .move (.tmp 2), (some (28, false)), 0⟩,
  ⟨(some 31), .binOp .gtr 3 (.tmp 29) (.tmp 30) 3, (some (28, false)), 0⟩,
  ⟨(some 32), .pick (.tmp 28) (.const (.bool true)) (.tmp 31), none, 0⟩]
def L9r4 : List AOp := [
  ⟨(some 2), .assign (.const (.int .i64 100)), none, 0⟩]
def L9r5 : List AOp := [
  ⟨(some 3), .assign (.const (.int .i64 48)), none, 0⟩]
def L9r6 : List AOp := [
  ⟨(some 34), .move (.tmp 0), none, 0⟩,
  ⟨(some 35), .move (.tmp 1), none, 0⟩,
  ⟨(some 36), .move (.tmp 2), none, 0⟩,
  ⟨(some 37), .call { callee := .value (.func 21), args := #[.tmp 34, .tmp 35, .tmp 36], argTypes := #[24, 24, 3] }, none, 0⟩,
  ⟨(some 33), .move (.tmp 37), none, 0⟩,
  ⟨(some 38), .extract (.tmp 33) 0, none, 0⟩,
  ⟨(some 39), .extract (.tmp 33) 1, none, 0⟩,
  ⟨(some 9), .assign (.tmp 38), none, 0⟩,
  ⟨(some 10), .assign (.tmp 39), none, 0⟩]
def L9r7 : List AOp := [
  ⟨(some 41), .move (.tmp 0), none, 0⟩,
  ⟨(some 42), .move (.tmp 1), none, 0⟩,
  ⟨(some 43), .move (.tmp 3), none, 0⟩,
  ⟨(some 44), .call { callee := .value (.func 21), args := #[.tmp 41, .tmp 42, .tmp 43], argTypes := #[24, 24, 3] }, none, 0⟩,
  ⟨(some 40), .move (.tmp 44), none, 0⟩,
  ⟨(some 45), .extract (.tmp 40) 0, none, 0⟩,
  ⟨(some 46), .extract (.tmp 40) 1, none, 0⟩,
  ⟨(some 11), .assign (.tmp 45), none, 0⟩,
  ⟨(some 12), .assign (.tmp 46), none, 0⟩]
def L9r8 : List AOp := [
  ⟨(some 47), .move (.tmp 10), none, 1267650600228229401496703205376⟩,
  ⟨(some 48), .binOp .neq 30 (.tmp 47) (.const .nilIface) 30, none, 1267650600228229401496703205377⟩,
  ⟨(some 49), .move (.tmp 48), none, 1267650600228229401496703205379⟩,
  ⟨(some 50), .move (.tmp 12), (some (49, false)), 1267650600228229401496703205383⟩,
  ⟨(some 51), .binOp .neq 30 (.tmp 50) (.const .nilIface) 30, (some (49, false)), 1267650600228229401496703205391⟩,
  ⟨(some 52), .pick (.tmp 49) (.const (.bool true)) (.tmp 51), none, 1267650600228229401496703205407⟩,
  ⟨(some 53), .move (.tmp 52), none, 1267650600228229401496703205439⟩,
  ⟨(some 54), .move (.tmp 9), (some (53, false)), 127⟩,
  ⟨(some 55), .call { callee := .builtin .len, args := #[.tmp 54], argTypes := #[24] }, (some (53, false)), 255⟩,
  ⟨(some 56), .move (.tmp 2), (some (53, false)), 127⟩,
  ⟨(some 57), .binOp .neq 3 (.tmp 55) (.tmp 56) 3, (some (53, false)), 1267650600228229401496703206399⟩,
  ⟨(some 58), .pick (.tmp 53) (.const (.bool true)) (.tmp 57), none, 1267650600228229401496703207423⟩,
  ⟨(some 59), .move (.tmp 58), none, 1267650600228229401496703209471⟩,
  ⟨(some 60), .move (.tmp 11), (some (59, false)), 8191⟩,
  ⟨(some 61), .convert 24 9 (.tmp 60), (some (59, false)), 16383⟩,
  ⟨(some 62), .move (.tmp 9), (some (59, false)), 8191⟩,
  ⟨(some 63), .move (.tmp 3), (some (59, false)), 8191⟩,
  ⟨(some 64), .slice 24 (.tmp 62) none (some (.tmp 63)) none, (some (59, false)), 106495⟩,
  ⟨(some 65), .convert 24 9 (.tmp 64), (some (59, false)), 237567⟩,
  ⟨(some 66), .binOp .neq 9 (.tmp 61) (.tmp 65) 9, (some (59, false)), 1267650600228229401496703729663⟩,
  ⟨(some 67), .pick (.tmp 59) (.const (.bool true)) (.tmp 66), none, 1267650600228229401496704253951⟩]
def L9r9 : List AOp := [
  ⟨(some 8), .assign (.const (.bool false)), none, 0⟩]
def L9r10 : List AOp := [
  ⟨(some 68), .move (.tmp 0), none, 0⟩,
  ⟨(some 69), .move (.tmp 1), none, 0⟩,
  ⟨(some 70), .call { callee := .value (.func 18), args := #[.tmp 68, .tmp 69], argTypes := #[24, 24] }, none, 0⟩,
  ⟨(some 13), .assign (.tmp 70), none, 0⟩]
def L9r11 : List AOp := [
  ⟨(some 71), .move (.tmp 13), none, 1267650600228229401496703205376⟩,
  ⟨(some 72), .call { callee := .builtin .len, args := #[.tmp 71], argTypes := #[24] }, none, 1267650600228229401496703205377⟩,
  ⟨(some 73), .binOp .eql 3 (.tmp 72) (.const (.int .i64 48)) 3, none, 1267650600228229401496703205379⟩,
  ⟨(some 74), .move (.tmp 73), none, 1267650600228229401496703205383⟩,
  ⟨(some 75), .move (.tmp 0), (some (74, true)), 1267650600228229401496703205391⟩,
  ⟨(some 76), .call { callee := .builtin .len, args := #[.tmp 75], argTypes := #[24] }, (some (74, true)), 1267650600228229401496703205407⟩,
  ⟨(some 77), .binOp .leq 3 (.tmp 76) (.const (.int .i64 128)) 3, (some (74, true)), 1267650600228229401496703205439⟩,
  ⟨(some 78), .move (.tmp 77), (some (74, true)), 1267650600228229401496703205503⟩,
  ⟨(some 79), .move (.tmp 13), (some (78, false)), 255⟩,
  ⟨(some 80), .convert 24 9 (.tmp 79), (some (78, false)), 511⟩,
  ⟨(some 81), .move (.tmp 0), (some (78, false)), 255⟩,
  ⟨(some 82), .call { callee := .value (.func 14), args := #[.tmp 81], argTypes := #[24] }, (some (78, false)), 1279⟩,
  ⟨(some 83), .move (.tmp 1), (some (78, false)), 255⟩,
  ⟨(some 84), .call { callee := .value (.func 18), args := #[.tmp 82, .tmp 83], argTypes := #[24, 24] }, (some (78, false)), 7423⟩,
  ⟨(some 85), .convert 24 9 (.tmp 84), (some (78, false)), 15615⟩,
  ⟨(some 86), .binOp .eql 9 (.tmp 80) (.tmp 85) 9, (some (78, false)), 1267650600228229401496703238143⟩,
  ⟨(some 87), .pick (.tmp 78) (.const (.bool true)) (.tmp 86), (some (74, true)), 1267650600228229401496703270911⟩,
  ⟨(some 88), .pick (.tmp 74) (.tmp 87) (.const (.bool false)), none, 1267650600228229401496703336447⟩,
  ⟨(some 8), .assign (.tmp 88), none, 1267650600228229401496703467519⟩]
def L9 : LC := (.seq (.region L9r0) (.seq (.region L9r1) (.seq (.region L9r2) (.seq (.seq (.region L9r3) (.cond (.tmp 32) (.seq (.region L9r4) (.region L9r5)) .skip)) (.seq (.region L9r6) (.seq (.region L9r7) (.seq (.seq (.regionD L9r8) (.cond (.tmp 67) (.seq (.region L9r9) .ret) .skip)) (.seq (.region L9r10) (.seq (.regionD L9r11) .ret)))))))))
theorem nt9 : Tryd.f9.ntmps = 89 := by kernel_rfl
theorem rs9 : Tryd.f9.results.toList = [.tmp 8] := by kernel_rfl
theorem lite9 : Tryd.f9.body.map (lite okDraw) = some L9 := by kernel_rfl
def L11r0 : List AOp := [
  ⟨(some 2), .box 23 (.tmp 0), none, 0⟩,
  ⟨(some 4), .alloc 23, none, 0⟩,
  ⟨(some 5), .assign (.const .nilIface), none, 0⟩]
def L11r1 : List AOp := [
  ⟨(some 13), .move (.tmp 1), none, 0⟩,
  ⟨(some 14), .call { callee := .value (.func 24), args := #[.tmp 13], argTypes := #[24] }, none, 0⟩,
  ⟨(some 12), .move (.tmp 14), none, 0⟩,
  ⟨(some 15), .extract (.tmp 12) 0, none, 0⟩,
  ⟨(some 16), .extract (.tmp 12) 1, none, 0⟩,
  ⟨(some 6), .assign (.tmp 15), none, 0⟩,
  ⟨(some 7), .assign (.tmp 16), none, 0⟩]
def L11r2 : List AOp := [
  ⟨(some 17), .move (.tmp 7), none, 0⟩,
  ⟨(some 18), .binOp .neq 30 (.tmp 17) (.const .nilIface) 30, none, 0⟩]
def L11r3 : List AOp := [
  ⟨(some 19), .build 23 #[], none, 0⟩,
  ⟨(some 20), .move (.tmp 7), none, 0⟩,
  ⟨none, .store 23 (.tmp 4) (.tmp 19), none, 0⟩,
  ⟨(some 5), .assign (.tmp 20), none, 0⟩]
def L11r4 : List AOp := [
  ⟨(some 21), .load 23 (.tmp 2), none, 0⟩,
  ⟨(some 8), .alloc 23, none, 0⟩,
  ⟨none, .store 23 (.tmp 8) (.tmp 21), none, 0⟩]
def L11r5 : List AOp := [
  ⟨(some 22), .move (.tmp 6), none, 0⟩,
  ⟨(some 23), .call { callee := .builtin .len, args := #[.tmp 22], argTypes := #[25] }, none, 0⟩,
  ⟨(some 24), .move (.const (.int .i64 0)), none, 0⟩]
def L11r6 : List AOp := [
  ⟨(some 25), .binOp .lss 3 (.tmp 24) (.tmp 23) 3, none, 0⟩]
def L11r7 : List AOp := [
  ⟨(some 26), .move (.tmp 24), none, 0⟩,
  ⟨(some 27), .indexAddr 25 (.tmp 22) (.tmp 24), none, 0⟩,
  ⟨(some 28), .load 22 (.tmp 27), none, 0⟩,
  ⟨(some 9), .assign (.tmp 26), none, 0⟩,
  ⟨(some 10), .assign (.tmp 28), none, 0⟩]
def L11r8 : List AOp := [
  ⟨(some 29), .load 23 (.tmp 8), none, 0⟩,
  ⟨(some 30), .move (.tmp 9), none, 0⟩,
  ⟨(some 31), .call { callee := .value (.func 26), args := #[.tmp 30], argTypes := #[3] }, none, 2⟩,
  ⟨(some 32), .move (.tmp 10), none, 0⟩,
  ⟨(some 33), .call { callee := .value (.func 25), args := #[.tmp 29, .tmp 31, .tmp 32], argTypes := #[23, 22, 22] }, none, 1267650600228229401496703205391⟩,
  ⟨none, .store 23 (.tmp 8) (.tmp 33), none, 1267650600228229401496703205407⟩]
def L11r9 : List AOp := [
  ⟨(some 34), .binOp .add 3 (.tmp 24) (.const (.int .i64 1)) 3, none, 0⟩,
  ⟨(some 24), .move (.tmp 34), none, 0⟩]
def L11r10 : List AOp := [
  ⟨(some 35), .move (.const (.int .i64 0)), none, 0⟩]
def L11r11 : List AOp := [
  ⟨(some 36), .binOp .lss 3 (.tmp 35) (.const (.int .i64 8)) 3, none, 0⟩]
def L11r12 : List AOp := [
  ⟨(some 37), .move (.tmp 35), none, 0⟩,
  ⟨(some 11), .assign (.tmp 37), none, 0⟩]
def L11r13 : List AOp := [
  ⟨(some 38), .move (.tmp 11), none, 0⟩,
  ⟨(some 39), .indexAddr 23 (.tmp 2) (.tmp 38), none, 1⟩,
  ⟨(some 40), .load 22 (.tmp 39), none, 3⟩,
  ⟨(some 41), .move (.tmp 11), none, 0⟩,
  ⟨(some 42), .indexAddr 23 (.tmp 8) (.tmp 41), none, 8⟩,
  ⟨(some 43), .load 22 (.tmp 42), none, 24⟩,
  ⟨(some 44), .binOp .add 22 (.tmp 40) (.tmp 43) 22, none, 1267650600228229401496703205439⟩,
  ⟨(some 45), .indexAddr 23 (.tmp 2) (.tmp 38), none, 1267650600228229401496703205503⟩,
  ⟨none, .store 22 (.tmp 45) (.tmp 44), none, 1267650600228229401496703205631⟩]
def L11r14 : List AOp := [
  ⟨(some 46), .binOp .add 3 (.tmp 35) (.const (.int .i64 1)) 3, none, 0⟩,
  ⟨(some 35), .move (.tmp 46), none, 0⟩]
def L11r15 : List AOp := [
  ⟨(some 47), .load 23 (.tmp 2), none, 0⟩,
  ⟨none, .store 23 (.tmp 4) (.tmp 47), none, 0⟩,
  ⟨(some 5), .assign (.const .nilIface), none, 0⟩]
def L11 : LC := (.seq (.region L11r0) (.seq (.region L11r1) (.seq (.seq (.region L11r2) (.cond (.tmp 18) (.seq (.region L11r3) .ret) .skip)) (.seq (.region L11r4) (.seq (.seq (.region L11r5) (.block 0 (.loop (.seq (.region L11r6) (.seq (.cond (.tmp 25) .skip (.exit 0)) (.seq (.block 1 (.seq (.region L11r7) (.regionD L11r8))) (.region L11r9))))))) (.seq (.seq (.region L11r10) (.block 2 (.loop (.seq (.region L11r11) (.seq (.cond (.tmp 36) .skip (.exit 2)) (.seq (.block 3 (.seq (.region L11r12) (.regionD L11r13))) (.region L11r14))))))) (.seq (.region L11r15) .ret)))))))
theorem nt11 : Tryd.f11.ntmps = 48 := by kernel_rfl
theorem rs11 : Tryd.f11.results.toList = [.cell 4 23, .tmp 5] := by kernel_rfl
theorem lite11 : Tryd.f11.body.map (lite okDraw) = some L11 := by kernel_rfl
def L14r0 : List AOp := [
  ⟨(some 2), .assign (.const (.slice none 0 0)), none, 0⟩]
def L14r1 : List AOp := [
  ⟨(some 13), .move (.tmp 0), none, 0⟩,
  ⟨(some 14), .call { callee := .builtin .len, args := #[.tmp 13], argTypes := #[24] }, none, 0⟩,
  ⟨(some 15), .call { callee := .value (.func 16), args := #[.tmp 14], argTypes := #[3] }, none, 0⟩,
  ⟨(some 12), .move (.tmp 15), none, 0⟩,
  ⟨(some 16), .extract (.tmp 12) 0, none, 0⟩,
  ⟨(some 17), .extract (.tmp 12) 1, none, 0⟩,
  ⟨(some 3), .assign (.tmp 16), none, 0⟩,
  ⟨(some 4), .assign (.tmp 17), none, 0⟩]
def L14r2 : List AOp := [
  ⟨(some 18), .move (.tmp 4), none, 0⟩,
  ⟨(some 19), .binOp .neq 30 (.tmp 18) (.const .nilIface) 30, none, 0⟩]
def L14r3 : List AOp := [
  ⟨(some 2), .assign (.const (.slice none 0 0)), none, 0⟩]
def L14r4 : List AOp := [
  ⟨(some 20), .load 23 (.global 0), none, 0⟩,
  ⟨(some 5), .alloc 23, none, 0⟩,
  ⟨none, .store 23 (.tmp 5) (.tmp 20), none, 0⟩]
def L14r5 : List AOp := [
  ⟨(some 6), .assign (.const (.int .i64 0)), none, 0⟩]
def L14r6 : List AOp := [
  ⟨(some 21), .move (.tmp 0), none, 0⟩,
  ⟨(some 22), .call { callee := .builtin .len, args := #[.tmp 21], argTypes := #[24] }, none, 0⟩,
  ⟨(some 23), .move (.tmp 6), none, 0⟩,
  ⟨(some 24), .binOp .sub 3 (.tmp 22) (.tmp 23) 3, none, 0⟩,
  ⟨(some 25), .binOp .geq 3 (.tmp 24) (.const (.int .i64 128)) 3, none, 0⟩]
def L14r8 : List AOp := [
  ⟨(some 29), .load 23 (.tmp 5), none, 0⟩,
  ⟨(some 30), .move (.tmp 0), none, 0⟩,
  ⟨(some 31), .move (.tmp 6), none, 0⟩,
  ⟨(some 32), .move (.tmp 6), none, 0⟩,
  ⟨(some 33), .binOp .add 3 (.tmp 32) (.const (.int .i64 128)) 3, none, 8⟩,
  ⟨(some 34), .slice 24 (.tmp 30) (some (.tmp 31)) (some (.tmp 33)) none, none, 30⟩,
  ⟨(some 35), .call { callee := .value (.func 11), args := #[.tmp 29, .tmp 34], argTypes := #[23, 24] }, none, 1267650600228229401496703205439⟩,
  ⟨(some 28), .move (.tmp 35), none, 1267650600228229401496703205503⟩,
  ⟨(some 36), .extract (.tmp 28) 0, none, 255⟩,
  ⟨(some 37), .extract (.tmp 28) 1, none, 255⟩,
  ⟨none, .store 23 (.tmp 5) (.tmp 36), none, 511⟩,
  ⟨(some 4), .assign (.tmp 37), none, 1267650600228229401496703207423⟩]
def L14r9 : List AOp := [
  ⟨(some 38), .move (.tmp 4), none, 0⟩,
  ⟨(some 39), .binOp .neq 30 (.tmp 38) (.const .nilIface) 30, none, 0⟩]
def L14r10 : List AOp := [
  ⟨(some 2), .assign (.const (.slice none 0 0)), none, 0⟩]
def L14r7 : List AOp := [
  ⟨(some 26), .move (.tmp 6), none, 0⟩,
  ⟨(some 27), .binOp .add 3 (.tmp 26) (.const (.int .i64 128)) 3, none, 0⟩,
  ⟨(some 6), .assign (.tmp 27), none, 0⟩]
def L14r11 : List AOp := [
  ⟨(some 40), .buildSlice 24 0 #[], none, 0⟩,
  ⟨(some 41), .move (.tmp 0), none, 0⟩,
  ⟨(some 42), .move (.tmp 6), none, 0⟩,
  ⟨(some 43), .slice 24 (.tmp 41) (some (.tmp 42)) none none, none, 0⟩,
  ⟨(some 44), .call { callee := .builtin .append, args := #[.tmp 40, .tmp 43], argTypes := #[24, 24] }, none, 0⟩,
  ⟨(some 45), .move (.tmp 3), none, 0⟩,
  ⟨(some 46), .call { callee := .builtin .append, args := #[.tmp 44, .tmp 45], argTypes := #[24, 24] }, none, 0⟩,
  ⟨(some 7), .assign (.tmp 46), none, 0⟩]
def L14r12 : List AOp := [
  ⟨(some 47), .move (.tmp 7), none, 0⟩,
  ⟨(some 48), .call { callee := .builtin .len, args := #[.tmp 47], argTypes := #[24] }, none, 0⟩,
  ⟨(some 49), .binOp .gtr 3 (.tmp 48) (.const (.int .i64 0)) 3, none, 0⟩]
def L14r14 : List AOp := [
  ⟨(some 53), .load 23 (.tmp 5), none, 0⟩,
  ⟨(some 54), .move (.tmp 7), none, 0⟩,
  ⟨(some 55), .slice 24 (.tmp 54) none (some (.const (.int .i64 128))) none, none, 2⟩,
  ⟨(some 56), .call { callee := .value (.func 11), args := #[.tmp 53, .tmp 55], argTypes := #[23, 24] }, none, 1267650600228229401496703205383⟩,
  ⟨(some 52), .move (.tmp 56), none, 1267650600228229401496703205391⟩,
  ⟨(some 57), .extract (.tmp 52) 0, none, 31⟩,
  ⟨(some 58), .extract (.tmp 52) 1, none, 31⟩,
  ⟨none, .store 23 (.tmp 5) (.tmp 57), none, 63⟩,
  ⟨(some 4), .assign (.tmp 58), none, 1267650600228229401496703205631⟩]
def L14r15 : List AOp := [
  ⟨(some 59), .move (.tmp 4), none, 0⟩,
  ⟨(some 60), .binOp .neq 30 (.tmp 59) (.const .nilIface) 30, none, 0⟩]
def L14r16 : List AOp := [
  ⟨(some 2), .assign (.const (.slice none 0 0)), none, 0⟩]
def L14r13 : List AOp := [
  ⟨(some 50), .move (.tmp 7), none, 0⟩,
  ⟨(some 51), .slice 24 (.tmp 50) (some (.const (.int .i64 128))) none none, none, 0⟩,
  ⟨(some 7), .assign (.tmp 51), none, 0⟩]
def L14r17 : List AOp := [
  ⟨(some 8), .assign (.const (.slice none 0 0)), none, 0⟩]
def L14r18 : List AOp := [
  ⟨(some 61), .slice 23 (.tmp 5) none (some (.const (.int .i64 6))) none, none, 0⟩,
  ⟨(some 62), .call { callee := .builtin .len, args := #[.tmp 61], argTypes := #[25] }, none, 0⟩,
  ⟨(some 63), .move (.const (.int .i64 0)), none, 0⟩]
def L14r19 : List AOp := [
  ⟨(some 64), .binOp .lss 3 (.tmp 63) (.tmp 62) 3, none, 0⟩]
def L14r20 : List AOp := [
  ⟨(some 65), .indexAddr 25 (.tmp 61) (.tmp 63), none, 0⟩,
  ⟨(some 66), .load 22 (.tmp 65), none, 0⟩,
  ⟨(some 10), .assign (.tmp 66), none, 0⟩]
def L14r21 : List AOp := [
  ⟨(some 11), .assign (.const (.int .i64 7)), none, 0⟩]
def L14r22 : List AOp := [
  ⟨(some 67), .move (.tmp 11), none, 0⟩,
  ⟨(some 68), .binOp .geq 3 (.tmp 67) (.const (.int .i64 0)) 3, none, 0⟩]
def L14r24 : List AOp := [
  ⟨(some 71), .move (.tmp 8), none, 0⟩,
  ⟨(some 72), .move (.tmp 10), none, 0⟩,
  ⟨(some 73), .move (.tmp 11), none, 0⟩,
  ⟨(some 74), .binOp .mul 3 (.const (.int .i64 8)) (.tmp 73) 3, none, 0⟩,
  ⟨(some 75), .binOp .shr 22 (.tmp 72) (.tmp 74) 3, none, 0⟩,
  ⟨(some 76), .convert 22 5 (.tmp 75), none, 0⟩,
  ⟨(some 77), .buildSlice 24 1 #[(0, .tmp 76)], none, 0⟩,
  ⟨(some 78), .call { callee := .builtin .append, args := #[.tmp 71, .tmp 77], argTypes := #[24, 24] }, none, 0⟩,
  ⟨(some 8), .assign (.tmp 78), none, 0⟩]
def L14r23 : List AOp := [
  ⟨(some 69), .move (.tmp 11), none, 0⟩,
  ⟨(some 70), .binOp .sub 3 (.tmp 69) (.const (.int .i64 1)) 3, none, 0⟩,
  ⟨(some 11), .assign (.tmp 70), none, 0⟩]
def L14r25 : List AOp := [
  ⟨(some 79), .binOp .add 3 (.tmp 63) (.const (.int .i64 1)) 3, none, 0⟩,
  ⟨(some 63), .move (.tmp 79), none, 0⟩]
def L14r26 : List AOp := [
  ⟨(some 80), .move (.tmp 8), none, 0⟩,
  ⟨(some 2), .assign (.tmp 80), none, 0⟩]
def L14 : LC := (.seq (.region L14r0) (.seq (.region L14r1) (.seq (.seq (.region L14r2) (.cond (.tmp 19) (.seq (.region L14r3) .ret) .skip)) (.seq (.region L14r4) (.seq (.region L14r5) (.seq (.block 0 (.loop (.seq (.seq (.region L14r6) (.cond (.tmp 25) .skip (.exit 0))) (.seq (.block 1 (.seq (.regionD L14r8) (.seq (.region L14r9) (.cond (.tmp 39) (.seq (.region L14r10) .ret) .skip)))) (.region L14r7))))) (.seq (.region L14r11) (.seq (.block 2 (.loop (.seq (.seq (.region L14r12) (.cond (.tmp 49) .skip (.exit 2))) (.seq (.block 3 (.seq (.regionD L14r14) (.seq (.region L14r15) (.cond (.tmp 60) (.seq (.region L14r16) .ret) .skip)))) (.region L14r13))))) (.seq (.region L14r17) (.seq (.seq (.region L14r18) (.block 4 (.loop (.seq (.region L14r19) (.seq (.cond (.tmp 64) .skip (.exit 4)) (.seq (.block 5 (.seq (.region L14r20) (.seq (.region L14r21) (.block 6 (.loop (.seq (.seq (.region L14r22) (.cond (.tmp 68) .skip (.exit 6))) (.seq (.block 7 (.region L14r24)) (.region L14r23)))))))) (.region L14r25))))))) (.seq (.region L14r26) .ret)))))))))))
theorem nt14 : Tryd.f14.ntmps = 81 := by kernel_rfl
theorem rs14 : Tryd.f14.results.toList = [.tmp 2] := by kernel_rfl
theorem lite14 : Tryd.f14.body.map (lite okDraw) = some L14 := by kernel_rfl
def L16r0 : List AOp := [
  ⟨(some 2), .assign (.const (.slice none 0 0)), none, 0⟩,
  ⟨(some 3), .assign (.const .nilIface), none, 0⟩]
def L16r1 : List AOp := [
  ⟨(some 8), .move (.tmp 0), none, 0⟩,
  ⟨(some 9), .binOp .lss 3 (.tmp 8) (.const (.int .i64 0)) 3, none, 0⟩,
  ⟨(some 10), .move (.tmp 9), none, 0⟩,
  ⟨(some 11), .move (.tmp 0), (some (10, false)), 0⟩,
  ⟨(some 12), .binOp .gtr 3 (.tmp 11) (.const (.int .i64 1125899906842624)) 3, (some (10, false)), 0⟩,
  ⟨(some 13), .pick (.tmp 10) (.const (.bool true)) (.tmp 12), none, 0⟩]
def L16r2 : List AOp := [
  ⟨(some 14), .makeInterface 34 (.const (.int .i64 1)), none, 0⟩,
  ⟨(some 2), .assign (.const (.slice none 0 0)), none, 0⟩,
  ⟨(some 3), .assign (.tmp 14), none, 0⟩]
def L16r3 : List AOp := [
  ⟨(some 15), .buildSlice 24 1 #[(0, .const (.int .u8 128))], none, 0⟩,
  ⟨(some 4), .assign (.tmp 15), none, 0⟩]
def L16r4 : List AOp := [
  ⟨(some 16), .move (.tmp 0), none, 0⟩,
  ⟨(some 17), .move (.tmp 4), none, 0⟩,
  ⟨(some 18), .call { callee := .builtin .len, args := #[.tmp 17], argTypes := #[24] }, none, 0⟩,
  ⟨(some 19), .binOp .add 3 (.tmp 16) (.tmp 18) 3, none, 0⟩,
  ⟨(some 20), .binOp .rem 3 (.tmp 19) (.const (.int .i64 128)) 3, none, 0⟩,
  ⟨(some 21), .binOp .neq 3 (.tmp 20) (.const (.int .i64 112)) 3, none, 0⟩]
def L16r5 : List AOp := [
  ⟨(some 22), .move (.tmp 4), none, 0⟩,
  ⟨(some 23), .buildSlice 24 1 #[(0, .const (.int .u8 0))], none, 0⟩,
  ⟨(some 24), .call { callee := .builtin .append, args := #[.tmp 22, .tmp 23], argTypes := #[24, 24] }, none, 0⟩,
  ⟨(some 4), .assign (.tmp 24), none, 0⟩]
def L16r6 : List AOp := [
  ⟨(some 25), .move (.tmp 0), none, 0⟩,
  ⟨(some 26), .convert 3 22 (.tmp 25), none, 0⟩,
  ⟨(some 27), .binOp .mul 22 (.tmp 26) (.const (.int .u64 8)) 22, none, 0⟩,
  ⟨(some 5), .assign (.tmp 27), none, 0⟩]
def L16r7 : List AOp := [
  ⟨(some 6), .assign (.const (.int .i64 15)), none, 0⟩]
def L16r8 : List AOp := [
  ⟨(some 28), .move (.tmp 6), none, 0⟩,
  ⟨(some 29), .binOp .geq 3 (.tmp 28) (.const (.int .i64 0)) 3, none, 0⟩]
def L16r10 : List AOp := [
  ⟨(some 7), .assign (.const (.int .u8 0)), none, 0⟩]
def L16r11 : List AOp := [
  ⟨(some 32), .move (.tmp 6), none, 0⟩,
  ⟨(some 33), .binOp .lss 3 (.tmp 32) (.const (.int .i64 8)) 3, none, 0⟩]
def L16r12 : List AOp := [
  ⟨(some 34), .move (.tmp 5), none, 0⟩,
  ⟨(some 35), .move (.tmp 6), none, 0⟩,
  ⟨(some 36), .binOp .mul 3 (.const (.int .i64 8)) (.tmp 35) 3, none, 0⟩,
  ⟨(some 37), .binOp .shr 22 (.tmp 34) (.tmp 36) 3, none, 0⟩,
  ⟨(some 38), .convert 22 5 (.tmp 37), none, 0⟩,
  ⟨(some 7), .assign (.tmp 38), none, 0⟩]
def L16r13 : List AOp := [
  ⟨(some 39), .move (.tmp 4), none, 0⟩,
  ⟨(some 40), .move (.tmp 7), none, 0⟩,
  ⟨(some 41), .buildSlice 24 1 #[(0, .tmp 40)], none, 0⟩,
  ⟨(some 42), .call { callee := .builtin .append, args := #[.tmp 39, .tmp 41], argTypes := #[24, 24] }, none, 0⟩,
  ⟨(some 4), .assign (.tmp 42), none, 0⟩]
def L16r9 : List AOp := [
  ⟨(some 30), .move (.tmp 6), none, 0⟩,
  ⟨(some 31), .binOp .sub 3 (.tmp 30) (.const (.int .i64 1)) 3, none, 0⟩,
  ⟨(some 6), .assign (.tmp 31), none, 0⟩]
def L16r14 : List AOp := [
  ⟨(some 43), .move (.tmp 4), none, 0⟩,
  ⟨(some 2), .assign (.tmp 43), none, 0⟩,
  ⟨(some 3), .assign (.const .nilIface), none, 0⟩]
def L16 : LC := (.seq (.region L16r0) (.seq (.seq (.region L16r1) (.cond (.tmp 13) (.seq (.region L16r2) .ret) .skip)) (.seq (.region L16r3) (.seq (.block 0 (.loop (.seq (.seq (.region L16r4) (.cond (.tmp 21) .skip (.exit 0))) (.block 1 (.region L16r5))))) (.seq (.region L16r6) (.seq (.seq (.region L16r7) (.block 2 (.loop (.seq (.seq (.region L16r8) (.cond (.tmp 29) .skip (.exit 2))) (.seq (.block 3 (.seq (.region L16r10) (.seq (.seq (.region L16r11) (.cond (.tmp 33) (.region L16r12) .skip)) (.region L16r13)))) (.region L16r9)))))) (.seq (.region L16r14) .ret)))))))
theorem nt16 : Tryd.f16.ntmps = 44 := by kernel_rfl
theorem rs16 : Tryd.f16.results.toList = [.tmp 2, .tmp 3] := by kernel_rfl
theorem lite16 : Tryd.f16.body.map (lite okDraw) = some L16 := by kernel_rfl
def L17r0 : List AOp := [
  ⟨(some 4), .assign (.const (.slice none 0 0)), none, 0⟩]
def L17r1 : List AOp := [
  ⟨(some 5), .move (.tmp 0), none, 0⟩,
  ⟨(some 6), .call { callee := .builtin .len, args := #[.tmp 5], argTypes := #[24] }, none, 0⟩,
  ⟨(some 7), .move (.tmp 1), none, 0⟩,
  ⟨(some 8), .binOp .gtr 3 (.tmp 6) (.tmp 7) 3, none, 0⟩]
def L17r2 : List AOp := [
  ⟨(some 9), .move (.tmp 0), none, 0⟩,
  ⟨(some 10), .move (.tmp 1), none, 0⟩,
  ⟨(some 11), .slice 24 (.tmp 9) none (some (.tmp 10)) none, none, 0⟩,
  ⟨(some 4), .assign (.tmp 11), none, 0⟩]
def L17r3 : List AOp := [
  ⟨(some 12), .move (.tmp 0), none, 0⟩,
  ⟨(some 4), .assign (.tmp 12), none, 0⟩]
def L17 : LC := (.seq (.region L17r0) (.seq (.seq (.region L17r1) (.cond (.tmp 8) (.seq (.region L17r2) .ret) .skip)) (.seq (.region L17r3) .ret)))
theorem nt17 : Tryd.f17.ntmps = 13 := by kernel_rfl
theorem rs17 : Tryd.f17.results.toList = [.tmp 4] := by kernel_rfl
theorem lite17 : Tryd.f17.body.map (lite okDraw) = some L17 := by kernel_rfl
def L18r0 : List AOp := [
  ⟨(some 4), .assign (.const (.slice none 0 0)), none, 0⟩]
def L18r1 : List AOp := [
  ⟨(some 8), .move (.tmp 0), none, 0⟩,
  ⟨(some 9), .call { callee := .builtin .len, args := #[.tmp 8], argTypes := #[24] }, none, 0⟩,
  ⟨(some 10), .binOp .gtr 3 (.tmp 9) (.const (.int .i64 128)) 3, none, 0⟩]
def L18r2 : List AOp := [
  ⟨(some 11), .move (.tmp 0), none, 0⟩,
  ⟨(some 12), .call { callee := .value (.func 14), args := #[.tmp 11], argTypes := #[24] }, none, 0⟩,
  ⟨(some 0), .assign (.tmp 12), none, 0⟩]
def L18r3 : List AOp := [
  ⟨(some 13), .makeSlice 24 (.const (.int .i64 128)) (.const (.int .i64 128)), none, 0⟩,
  ⟨(some 14), .makeSlice 24 (.const (.int .i64 128)) (.const (.int .i64 128)), none, 0⟩,
  ⟨(some 5), .assign (.tmp 13), none, 1⟩,
  ⟨(some 6), .assign (.tmp 14), none, 1267650600228229401496703205383⟩]
def L18r4 : List AOp := [
  ⟨(some 15), .move (.tmp 5), none, 0⟩,
  ⟨(some 16), .move (.tmp 0), none, 0⟩,
  ⟨(some 17), .call { callee := .builtin .copy, args := #[.tmp 15, .tmp 16], argTypes := #[24, 24] }, none, 0⟩]
def L18r5 : List AOp := [
  ⟨(some 18), .move (.tmp 6), none, 0⟩,
  ⟨(some 19), .move (.tmp 0), none, 0⟩,
  ⟨(some 20), .call { callee := .builtin .copy, args := #[.tmp 18, .tmp 19], argTypes := #[24, 24] }, none, 0⟩]
def L18r6 : List AOp := [
  ⟨(some 21), .move (.tmp 5), none, 0⟩,
  ⟨(some 22), .call { callee := .builtin .len, args := #[.tmp 21], argTypes := #[24] }, none, 0⟩,
  ⟨(some 23), .move (.const (.int .i64 0)), none, 0⟩]
def L18r7 : List AOp := [
  ⟨(some 24), .binOp .lss 3 (.tmp 23) (.tmp 22) 3, none, 0⟩]
def L18r8 : List AOp := [
  ⟨(some 25), .move (.tmp 23), none, 0⟩,
  ⟨(some 7), .assign (.tmp 25), none, 0⟩]
def L18r9 : List AOp := [
  ⟨(some 26), .move (.tmp 5), none, 0⟩,
  ⟨(some 27), .move (.tmp 7), none, 0⟩,
  ⟨(some 28), .indexAddr 24 (.tmp 26) (.tmp 27), none, 0⟩,
  ⟨(some 29), .load 5 (.tmp 28), none, 0⟩,
  ⟨(some 30), .binOp .xor 5 (.tmp 29) (.const (.int .u8 54)) 5, none, 0⟩,
  ⟨(some 31), .indexAddr 24 (.tmp 26) (.tmp 27), none, 0⟩,
  ⟨none, .store 5 (.tmp 31) (.tmp 30), none, 0⟩]
def L18r10 : List AOp := [
  ⟨(some 32), .move (.tmp 6), none, 0⟩,
  ⟨(some 33), .move (.tmp 7), none, 0⟩,
  ⟨(some 34), .indexAddr 24 (.tmp 32) (.tmp 33), none, 0⟩,
  ⟨(some 35), .load 5 (.tmp 34), none, 0⟩,
  ⟨(some 36), .binOp .xor 5 (.tmp 35) (.const (.int .u8 92)) 5, none, 0⟩,
  ⟨(some 37), .indexAddr 24 (.tmp 32) (.tmp 33), none, 0⟩,
  ⟨none, .store 5 (.tmp 37) (.tmp 36), none, 0⟩]
def L18r11 : List AOp := [
  ⟨(some 38), .binOp .add 3 (.tmp 23) (.const (.int .i64 1)) 3, none, 0⟩,
  ⟨(some 23), .move (.tmp 38), none, 0⟩]
def L18r12 : List AOp := [
  ⟨(some 39), .move (.tmp 6), none, 0⟩,
  ⟨(some 40), .move (.tmp 5), none, 0⟩,
  ⟨(some 41), .move (.tmp 1), none, 0⟩,
  ⟨(some 42), .call { callee := .builtin .append, args := #[.tmp 40, .tmp 41], argTypes := #[24, 24] }, none, 0⟩,
  ⟨(some 43), .call { callee := .value (.func 14), args := #[.tmp 42], argTypes := #[24] }, none, 0⟩,
  ⟨(some 44), .call { callee := .builtin .append, args := #[.tmp 39, .tmp 43], argTypes := #[24, 24] }, none, 0⟩,
  ⟨(some 45), .call { callee := .value (.func 14), args := #[.tmp 44], argTypes := #[24] }, none, 0⟩,
  ⟨(some 4), .assign (.tmp 45), none, 0⟩]
def L18 : LC := (.seq (.region L18r0) (.seq (.seq (.region L18r1) (.cond (.tmp 10) (.region L18r2) .skip)) (.seq (.regionD L18r3) (.seq (.region L18r4) (.seq (.region L18r5) (.seq (.seq (.region L18r6) (.block 0 (.loop (.seq (.region L18r7) (.seq (.cond (.tmp 24) .skip (.exit 0)) (.seq (.block 1 (.seq (.region L18r8) (.seq (.region L18r9) (.region L18r10)))) (.region L18r11))))))) (.seq (.region L18r12) .ret)))))))
theorem nt18 : Tryd.f18.ntmps = 46 := by kernel_rfl
theorem rs18 : Tryd.f18.results.toList = [.tmp 4] := by kernel_rfl
theorem lite18 : Tryd.f18.body.map (lite okDraw) = some L18 := by kernel_rfl
def L21r0 : List AOp := [
  ⟨(some 6), .assign (.const (.slice none 0 0)), none, 0⟩,
  ⟨(some 7), .assign (.const .nilIface), none, 0⟩]
def L21r1 : List AOp := [
  ⟨(some 11), .move (.tmp 2), none, 0⟩,
  ⟨(some 12), .binOp .lss 3 (.tmp 11) (.const (.int .i64 0)) 3, none, 0⟩,
  ⟨(some 13), .move (.tmp 12), none, 0⟩,
  ⟨(some 14), .move (.tmp 2), (some (13, false)), 0⟩,
  ⟨(some 15), .binOp .gtr 3 (.tmp 14) (.const (.int .i64 12240)) 3, (some (13, false)), 0⟩,
  ⟨(some 16), .pick (.tmp 13) (.const (.bool true)) (.tmp 15), none, 0⟩]
def L21r2 : List AOp := [
  ⟨(some 17), .makeInterface 34 (.const (.int .i64 1)), none, 0⟩,
  ⟨(some 6), .assign (.const (.slice none 0 0)), none, 0⟩,
  ⟨(some 7), .assign (.tmp 17), none, 0⟩]
def L21r3 : List AOp := [
  ⟨(some 8), .assign (.const (.slice none 0 0)), none, 0⟩,
  ⟨(some 9), .assign (.const (.slice none 0 0)), none, 0⟩]
def L21r4 : List AOp := [
  ⟨(some 10), .assign (.const (.int .u8 1)), none, 0⟩]
def L21r5 : List AOp := [
  ⟨(some 18), .move (.tmp 8), none, 0⟩,
  ⟨(some 19), .call { callee := .builtin .len, args := #[.tmp 18], argTypes := #[24] }, none, 0⟩,
  ⟨(some 20), .move (.tmp 2), none, 0⟩,
  ⟨(some 21), .binOp .lss 3 (.tmp 19) (.tmp 20) 3, none, 0⟩]
def L21r7 : List AOp := [
  ⟨(some 24), .move (.tmp 0), none, 0⟩,
  ⟨(some 25), .move (.tmp 9), none, 0⟩,
  ⟨(some 26), .move (.tmp 1), none, 0⟩,
  ⟨(some 27), .move (.tmp 10), none, 0⟩,
  ⟨(some 28), .buildSlice 24 1 #[(0, .tmp 27)], none, 0⟩,
  ⟨(some 29), .buildSlice 69 3 #[(0, .tmp 25), (1, .tmp 26), (2, .tmp 28)], none, 0⟩,
  ⟨(some 30), .call { callee := .value (.func 32), args := #[.tmp 29], argTypes := #[69] }, none, 0⟩,
  ⟨(some 31), .call { callee := .value (.func 18), args := #[.tmp 24, .tmp 30], argTypes := #[24, 24] }, none, 0⟩,
  ⟨(some 9), .assign (.tmp 31), none, 0⟩]
def L21r8 : List AOp := [
  ⟨(some 32), .move (.tmp 8), none, 0⟩,
  ⟨(some 33), .move (.tmp 9), none, 0⟩,
  ⟨(some 34), .call { callee := .builtin .append, args := #[.tmp 32, .tmp 33], argTypes := #[24, 24] }, none, 0⟩,
  ⟨(some 8), .assign (.tmp 34), none, 0⟩]
def L21r6 : List AOp := [
  ⟨(some 22), .move (.tmp 10), none, 0⟩,
  ⟨(some 23), .binOp .add 5 (.tmp 22) (.const (.int .u8 1)) 5, none, 0⟩,
  ⟨(some 10), .assign (.tmp 23), none, 0⟩]
def L21r9 : List AOp := [
  ⟨(some 35), .move (.tmp 8), none, 0⟩,
  ⟨(some 36), .move (.tmp 2), none, 0⟩,
  ⟨(some 37), .move (.tmp 2), none, 0⟩,
  ⟨(some 38), .slice 24 (.tmp 35) none (some (.tmp 36)) (some (.tmp 37)), none, 0⟩,
  ⟨(some 6), .assign (.tmp 38), none, 0⟩,
  ⟨(some 7), .assign (.const .nilIface), none, 0⟩]
def L21 : LC := (.seq (.region L21r0) (.seq (.seq (.region L21r1) (.cond (.tmp 16) (.seq (.region L21r2) .ret) .skip)) (.seq (.region L21r3) (.seq (.seq (.region L21r4) (.block 0 (.loop (.seq (.seq (.region L21r5) (.cond (.tmp 21) .skip (.exit 0))) (.seq (.block 1 (.seq (.region L21r7) (.region L21r8))) (.region L21r6)))))) (.seq (.region L21r9) .ret)))))
theorem nt21 : Tryd.f21.ntmps = 39 := by kernel_rfl
theorem rs21 : Tryd.f21.results.toList = [.tmp 6, .tmp 7] := by kernel_rfl
theorem lite21 : Tryd.f21.body.map (lite okDraw) = some L21 := by kernel_rfl
def L24r0 : List AOp := [
  ⟨(some 2), .assign (.const (.slice none 0 0)), none, 0⟩,
  ⟨(some 3), .assign (.const .nilIface), none, 0⟩]
def L24r1 : List AOp := [
  ⟨(some 12), .move (.tmp 0), none, 0⟩,
  ⟨(some 13), .call { callee := .builtin .len, args := #[.tmp 12], argTypes := #[24] }, none, 0⟩,
  ⟨(some 14), .binOp .neq 3 (.tmp 13) (.const (.int .i64 128)) 3, none, 0⟩]
def L24r2 : List AOp := [
  ⟨(some 15), .makeInterface 34 (.const (.int .i64 1)), none, 0⟩,
  ⟨(some 2), .assign (.const (.slice none 0 0)), none, 0⟩,
  ⟨(some 3), .assign (.tmp 15), none, 0⟩]
def L24r3 : List AOp := [
  ⟨(some 16), .makeSlice 25 (.const (.int .i64 80)) (.const (.int .i64 80)), none, 0⟩,
  ⟨(some 4), .assign (.tmp 16), none, 0⟩]
def L24r4 : List AOp := [
  ⟨(some 17), .move (.const (.int .i64 0)), none, 0⟩]
def L24r5 : List AOp := [
  ⟨(some 18), .binOp .lss 3 (.tmp 17) (.const (.int .i64 16)) 3, none, 0⟩]
def L24r6 : List AOp := [
  ⟨(some 19), .move (.tmp 17), none, 0⟩,
  ⟨(some 5), .assign (.tmp 19), none, 0⟩]
def L24r7 : List AOp := [
  ⟨(some 20), .move (.const (.int .i64 0)), none, 0⟩]
def L24r8 : List AOp := [
  ⟨(some 21), .binOp .lss 3 (.tmp 20) (.const (.int .i64 8)) 3, none, 0⟩]
def L24r9 : List AOp := [
  ⟨(some 22), .move (.tmp 20), none, 0⟩,
  ⟨(some 6), .assign (.tmp 22), none, 0⟩]
def L24r10 : List AOp := [
  ⟨(some 23), .move (.tmp 4), none, 0⟩,
  ⟨(some 24), .move (.tmp 5), none, 0⟩,
  ⟨(some 25), .move (.tmp 4), none, 0⟩,
  ⟨(some 26), .move (.tmp 5), none, 0⟩,
  ⟨(some 27), .indexAddr 25 (.tmp 25) (.tmp 26), none, 12⟩,
  ⟨(some 28), .load 22 (.tmp 27), none, 28⟩,
  ⟨(some 29), .binOp .shl 22 (.tmp 28) (.const (.int .u64 8)) 64, none, 60⟩,
  ⟨(some 30), .move (.tmp 0), none, 0⟩,
  ⟨(some 31), .move (.tmp 5), none, 0⟩,
  ⟨(some 32), .binOp .mul 3 (.const (.int .i64 8)) (.tmp 31) 3, none, 256⟩,
  ⟨(some 33), .move (.tmp 6), none, 0⟩,
  ⟨(some 34), .binOp .add 3 (.tmp 32) (.tmp 33) 3, none, 1792⟩,
  ⟨(some 35), .indexAddr 24 (.tmp 30) (.tmp 34), none, 3968⟩,
  ⟨(some 36), .load 5 (.tmp 35), none, 8064⟩,
  ⟨(some 37), .convert 5 22 (.tmp 36), none, 16256⟩,
  ⟨(some 38), .binOp .or 22 (.tmp 29) (.tmp 37) 22, none, 32764⟩,
  ⟨(some 39), .indexAddr 25 (.tmp 23) (.tmp 24), none, 1267650600228229401496703270911⟩,
  ⟨none, .store 22 (.tmp 39) (.tmp 38), none, 1267650600228229401496703336447⟩]
def L24r11 : List AOp := [
  ⟨(some 40), .binOp .add 3 (.tmp 20) (.const (.int .i64 1)) 3, none, 0⟩,
  ⟨(some 20), .move (.tmp 40), none, 0⟩]
def L24r12 : List AOp := [
  ⟨(some 41), .binOp .add 3 (.tmp 17) (.const (.int .i64 1)) 3, none, 0⟩,
  ⟨(some 17), .move (.tmp 41), none, 0⟩]
def L24r13 : List AOp := [
  ⟨(some 7), .assign (.const (.int .i64 16)), none, 0⟩]
def L24r14 : List AOp := [
  ⟨(some 42), .move (.tmp 7), none, 0⟩,
  ⟨(some 43), .move (.tmp 4), none, 0⟩,
  ⟨(some 44), .call { callee := .builtin .len, args := #[.tmp 43], argTypes := #[25] }, none, 0⟩,
  ⟨(some 45), .binOp .lss 3 (.tmp 42) (.tmp 44) 3, none, 0⟩]
def L24r16 : List AOp := [
  ⟨(some 48), .move (.tmp 4), none, 0⟩,
  ⟨(some 49), .move (.tmp 7), none, 0⟩,
  ⟨(some 50), .binOp .sub 3 (.tmp 49) (.const (.int .i64 15)) 3, none, 2⟩,
  ⟨(some 51), .indexAddr 25 (.tmp 48) (.tmp 50), none, 7⟩,
  ⟨(some 52), .load 22 (.tmp 51), none, 15⟩,
  ⟨(some 53), .move (.tmp 4), none, 0⟩,
  ⟨(some 54), .move (.tmp 7), none, 0⟩,
  ⟨(some 55), .binOp .sub 3 (.tmp 54) (.const (.int .i64 2)) 3, none, 64⟩,
  ⟨(some 56), .indexAddr 25 (.tmp 53) (.tmp 55), none, 224⟩,
  ⟨(some 57), .load 22 (.tmp 56), none, 480⟩,
  ⟨(some 8), .assign (.tmp 52), none, 31⟩,
  ⟨(some 9), .assign (.tmp 57), none, 1267650600228229401496703207423⟩]
def L24r17 : List AOp := [
  ⟨(some 58), .move (.tmp 8), none, 0⟩,
  ⟨(some 59), .call { callee := .value (.func 37), args := #[.tmp 58, .const (.int .i64 (-1))], argTypes := #[22, 3] }, none, 0⟩,
  ⟨(some 60), .move (.tmp 8), none, 0⟩,
  ⟨(some 61), .call { callee := .value (.func 37), args := #[.tmp 60, .const (.int .i64 (-8))], argTypes := #[22, 3] }, none, 0⟩,
  ⟨(some 62), .binOp .xor 22 (.tmp 59) (.tmp 61) 22, none, 0⟩,
  ⟨(some 63), .move (.tmp 8), none, 0⟩,
  ⟨(some 64), .binOp .shr 22 (.tmp 63) (.const (.int .u64 7)) 64, none, 0⟩,
  ⟨(some 65), .binOp .xor 22 (.tmp 62) (.tmp 64) 22, none, 0⟩,
  ⟨(some 10), .assign (.tmp 65), none, 0⟩]
def L24r18 : List AOp := [
  ⟨(some 66), .move (.tmp 9), none, 0⟩,
  ⟨(some 67), .call { callee := .value (.func 37), args := #[.tmp 66, .const (.int .i64 (-19))], argTypes := #[22, 3] }, none, 0⟩,
  ⟨(some 68), .move (.tmp 9), none, 0⟩,
  ⟨(some 69), .call { callee := .value (.func 37), args := #[.tmp 68, .const (.int .i64 (-61))], argTypes := #[22, 3] }, none, 0⟩,
  ⟨(some 70), .binOp .xor 22 (.tmp 67) (.tmp 69) 22, none, 0⟩,
  ⟨(some 71), .move (.tmp 9), none, 0⟩,
  ⟨(some 72), .binOp .shr 22 (.tmp 71) (.const (.int .u64 6)) 64, none, 0⟩,
  ⟨(some 73), .binOp .xor 22 (.tmp 70) (.tmp 72) 22, none, 0⟩,
  ⟨(some 11), .assign (.tmp 73), none, 0⟩]
def L24r19 : List AOp := [
  ⟨(some 74), .move (.tmp 4), none, 0⟩,
  ⟨(some 75), .move (.tmp 7), none, 0⟩,
  ⟨(some 76), .move (.tmp 4), none, 0⟩,
  ⟨(some 77), .move (.tmp 7), none, 0⟩,
  ⟨(some 78), .binOp .sub 3 (.tmp 77) (.const (.int .i64 16)) 3, none, 8⟩,
  ⟨(some 79), .indexAddr 25 (.tmp 76) (.tmp 78), none, 28⟩,
  ⟨(some 80), .load 22 (.tmp 79), none, 60⟩,
  ⟨(some 81), .move (.tmp 10), none, 0⟩,
  ⟨(some 82), .binOp .add 22 (.tmp 80) (.tmp 81) 22, none, 252⟩,
  ⟨(some 83), .move (.tmp 4), none, 0⟩,
  ⟨(some 84), .move (.tmp 7), none, 0⟩,
  ⟨(some 85), .binOp .sub 3 (.tmp 84) (.const (.int .i64 7)) 3, none, 1024⟩,
  ⟨(some 86), .indexAddr 25 (.tmp 83) (.tmp 85), none, 3584⟩,
  ⟨(some 87), .load 22 (.tmp 86), none, 7680⟩,
  ⟨(some 88), .binOp .add 22 (.tmp 82) (.tmp 87) 22, none, 16380⟩,
  ⟨(some 89), .move (.tmp 11), none, 0⟩,
  ⟨(some 90), .binOp .add 22 (.tmp 88) (.tmp 89) 22, none, 65532⟩,
  ⟨(some 91), .indexAddr 25 (.tmp 74) (.tmp 75), none, 1267650600228229401496703336447⟩,
  ⟨none, .store 22 (.tmp 91) (.tmp 90), none, 1267650600228229401496703467519⟩]
def L24r15 : List AOp := [
  ⟨(some 46), .move (.tmp 7), none, 0⟩,
  ⟨(some 47), .binOp .add 3 (.tmp 46) (.const (.int .i64 1)) 3, none, 0⟩,
  ⟨(some 7), .assign (.tmp 47), none, 0⟩]
def L24r20 : List AOp := [
  ⟨(some 92), .move (.tmp 4), none, 0⟩,
  ⟨(some 2), .assign (.tmp 92), none, 0⟩,
  ⟨(some 3), .assign (.const .nilIface), none, 0⟩]
def L24 : LC := (.seq (.region L24r0) (.seq (.seq (.region L24r1) (.cond (.tmp 14) (.seq (.region L24r2) .ret) .skip)) (.seq (.region L24r3) (.seq (.seq (.region L24r4) (.block 0 (.loop (.seq (.region L24r5) (.seq (.cond (.tmp 18) .skip (.exit 0)) (.seq (.block 1 (.seq (.region L24r6) (.seq (.region L24r7) (.block 2 (.loop (.seq (.region L24r8) (.seq (.cond (.tmp 21) .skip (.exit 2)) (.seq (.block 3 (.seq (.region L24r9) (.regionD L24r10))) (.region L24r11))))))))) (.region L24r12))))))) (.seq (.seq (.region L24r13) (.block 4 (.loop (.seq (.seq (.region L24r14) (.cond (.tmp 45) .skip (.exit 4))) (.seq (.block 5 (.seq (.regionD L24r16) (.seq (.region L24r17) (.seq (.region L24r18) (.regionD L24r19))))) (.region L24r15)))))) (.seq (.region L24r20) .ret))))))
theorem nt24 : Tryd.f24.ntmps = 93 := by kernel_rfl
theorem rs24 : Tryd.f24.results.toList = [.tmp 2, .tmp 3] := by kernel_rfl
theorem lite24 : Tryd.f24.body.map (lite okDraw) = some L24 := by kernel_rfl
def L25r0 : List AOp := [
  ⟨(some 3), .box 23 (.tmp 0), none, 0⟩,
  ⟨(some 6), .alloc 23, none, 0⟩]
def L25r1 : List AOp := [
  ⟨(some 11), .indexAddr 23 (.tmp 3) (.const (.int .i64 0)), none, 0⟩,
  ⟨(some 12), .load 22 (.tmp 11), none, 1⟩,
  ⟨(some 13), .indexAddr 23 (.tmp 3) (.const (.int .i64 4)), none, 0⟩,
  ⟨(some 14), .load 22 (.tmp 13), none, 4⟩,
  ⟨(some 7), .assign (.tmp 12), none, 3⟩,
  ⟨(some 8), .assign (.tmp 14), none, 1267650600228229401496703205407⟩]
def L25r2 : List AOp := [
  ⟨(some 15), .indexAddr 23 (.tmp 3) (.const (.int .i64 7)), none, 0⟩,
  ⟨(some 16), .load 22 (.tmp 15), none, 1⟩,
  ⟨(some 17), .move (.tmp 8), none, 0⟩,
  ⟨(some 18), .call { callee := .value (.func 37), args := #[.tmp 17, .const (.int .i64 (-14))], argTypes := #[22, 3] }, none, 4⟩,
  ⟨(some 19), .move (.tmp 8), none, 0⟩,
  ⟨(some 20), .call { callee := .value (.func 37), args := #[.tmp 19, .const (.int .i64 (-18))], argTypes := #[22, 3] }, none, 28⟩,
  ⟨(some 21), .binOp .xor 22 (.tmp 18) (.tmp 20) 22, none, 60⟩,
  ⟨(some 22), .move (.tmp 8), none, 0⟩,
  ⟨(some 23), .call { callee := .value (.func 37), args := #[.tmp 22, .const (.int .i64 (-41))], argTypes := #[22, 3] }, none, 188⟩,
  ⟨(some 24), .binOp .xor 22 (.tmp 21) (.tmp 23) 22, none, 508⟩,
  ⟨(some 25), .binOp .add 22 (.tmp 16) (.tmp 24) 22, none, 1023⟩,
  ⟨(some 26), .move (.tmp 8), none, 0⟩,
  ⟨(some 27), .indexAddr 23 (.tmp 3) (.const (.int .i64 5)), none, 0⟩,
  ⟨(some 28), .load 22 (.tmp 27), none, 4096⟩,
  ⟨(some 29), .binOp .and 22 (.tmp 26) (.tmp 28) 22, none, 14336⟩,
  ⟨(some 30), .move (.tmp 8), none, 0⟩,
  ⟨(some 31), .unOp .xor 22 (.tmp 30), none, 32768⟩,
  ⟨(some 32), .indexAddr 23 (.tmp 3) (.const (.int .i64 6)), none, 0⟩,
  ⟨(some 33), .load 22 (.tmp 32), none, 131072⟩,
  ⟨(some 34), .binOp .and 22 (.tmp 31) (.tmp 33) 22, none, 491520⟩,
  ⟨(some 35), .binOp .xor 22 (.tmp 29) (.tmp 34) 22, none, 1046528⟩,
  ⟨(some 36), .binOp .add 22 (.tmp 25) (.tmp 35) 22, none, 2097151⟩,
  ⟨(some 37), .move (.tmp 1), none, 0⟩,
  ⟨(some 38), .binOp .add 22 (.tmp 36) (.tmp 37) 22, none, 8388607⟩,
  ⟨(some 39), .move (.tmp 2), none, 0⟩,
  ⟨(some 40), .binOp .add 22 (.tmp 38) (.tmp 39) 22, none, 1267650600228229401496736759807⟩,
  ⟨(some 9), .assign (.tmp 40), none, 1267650600228229401496770314239⟩]
def L25r3 : List AOp := [
  ⟨(some 41), .move (.tmp 7), none, 0⟩,
  ⟨(some 42), .call { callee := .value (.func 37), args := #[.tmp 41, .const (.int .i64 (-28))], argTypes := #[22, 3] }, none, 1⟩,
  ⟨(some 43), .move (.tmp 7), none, 0⟩,
  ⟨(some 44), .call { callee := .value (.func 37), args := #[.tmp 43, .const (.int .i64 (-34))], argTypes := #[22, 3] }, none, 7⟩,
  ⟨(some 45), .binOp .xor 22 (.tmp 42) (.tmp 44) 22, none, 15⟩,
  ⟨(some 46), .move (.tmp 7), none, 0⟩,
  ⟨(some 47), .call { callee := .value (.func 37), args := #[.tmp 46, .const (.int .i64 (-39))], argTypes := #[22, 3] }, none, 47⟩,
  ⟨(some 48), .binOp .xor 22 (.tmp 45) (.tmp 47) 22, none, 127⟩,
  ⟨(some 49), .move (.tmp 7), none, 0⟩,
  ⟨(some 50), .indexAddr 23 (.tmp 3) (.const (.int .i64 1)), none, 0⟩,
  ⟨(some 51), .load 22 (.tmp 50), none, 512⟩,
  ⟨(some 52), .binOp .and 22 (.tmp 49) (.tmp 51) 22, none, 1792⟩,
  ⟨(some 53), .move (.tmp 7), none, 0⟩,
  ⟨(some 54), .indexAddr 23 (.tmp 3) (.const (.int .i64 2)), none, 0⟩,
  ⟨(some 55), .load 22 (.tmp 54), none, 8192⟩,
  ⟨(some 56), .binOp .and 22 (.tmp 53) (.tmp 55) 22, none, 28672⟩,
  ⟨(some 57), .binOp .xor 22 (.tmp 52) (.tmp 56) 22, none, 65280⟩,
  ⟨(some 58), .indexAddr 23 (.tmp 3) (.const (.int .i64 1)), none, 0⟩,
  ⟨(some 59), .load 22 (.tmp 58), none, 131072⟩,
  ⟨(some 60), .indexAddr 23 (.tmp 3) (.const (.int .i64 2)), none, 0⟩,
  ⟨(some 61), .load 22 (.tmp 60), none, 524288⟩,
  ⟨(some 62), .binOp .and 22 (.tmp 59) (.tmp 61) 22, none, 1966080⟩,
  ⟨(some 63), .binOp .xor 22 (.tmp 57) (.tmp 62) 22, none, 4194048⟩,
  ⟨(some 64), .binOp .add 22 (.tmp 48) (.tmp 63) 22, none, 1267650600228229401496711593983⟩,
  ⟨(some 10), .assign (.tmp 64), none, 1267650600228229401496719982591⟩]
def L25r4 : List AOp := [
  ⟨(some 65), .move (.tmp 9), none, 0⟩,
  ⟨(some 66), .move (.tmp 10), none, 0⟩,
  ⟨(some 67), .binOp .add 22 (.tmp 65) (.tmp 66) 22, none, 0⟩,
  ⟨(some 68), .move (.tmp 7), none, 0⟩,
  ⟨(some 69), .indexAddr 23 (.tmp 3) (.const (.int .i64 1)), none, 0⟩,
  ⟨(some 70), .load 22 (.tmp 69), none, 0⟩,
  ⟨(some 71), .indexAddr 23 (.tmp 3) (.const (.int .i64 2)), none, 0⟩,
  ⟨(some 72), .load 22 (.tmp 71), none, 0⟩,
  ⟨(some 73), .indexAddr 23 (.tmp 3) (.const (.int .i64 3)), none, 0⟩,
  ⟨(some 74), .load 22 (.tmp 73), none, 0⟩,
  ⟨(some 75), .move (.tmp 9), none, 0⟩,
  ⟨(some 76), .binOp .add 22 (.tmp 74) (.tmp 75) 22, none, 0⟩,
  ⟨(some 77), .move (.tmp 8), none, 0⟩,
  ⟨(some 78), .indexAddr 23 (.tmp 3) (.const (.int .i64 5)), none, 0⟩,
  ⟨(some 79), .load 22 (.tmp 78), none, 0⟩,
  ⟨(some 80), .indexAddr 23 (.tmp 3) (.const (.int .i64 6)), none, 0⟩,
  ⟨(some 81), .load 22 (.tmp 80), none, 0⟩,
  ⟨(some 82), .build 23 #[(0, .tmp 67), (1, .tmp 68), (2, .tmp 70), (3, .tmp 72), (4, .tmp 76), (5, .tmp 77), (6, .tmp 79), (7, .tmp 81)], none, 0⟩,
  ⟨none, .store 23 (.tmp 6) (.tmp 82), none, 0⟩]
def L25 : LC := (.seq (.region L25r0) (.seq (.regionD L25r1) (.seq (.regionD L25r2) (.seq (.regionD L25r3) (.seq (.region L25r4) .ret)))))
theorem nt25 : Tryd.f25.ntmps = 83 := by kernel_rfl
theorem rs25 : Tryd.f25.results.toList = [.cell 6 23] := by kernel_rfl
theorem lite25 : Tryd.f25.body.map (lite okDraw) = some L25 := by kernel_rfl
def L26r0 : List AOp := [
  ⟨(some 2), .assign (.const (.int .u64 0)), none, 0⟩]
def L26r1 : List AOp := [
  ⟨(some 3), .move (.tmp 0), none, 0⟩,
  ⟨(some 4), .binOp .lss 3 (.tmp 3) (.const (.int .i64 40)) 3, none, 0⟩]
def L26r2 : List AOp := [
  ⟨(some 5), .move (.tmp 0), none, 0⟩,
  ⟨(some 6), .indexAddr 66 (.global 1) (.tmp 5), none, 0⟩,
  ⟨(some 7), .load 22 (.tmp 6), none, 0⟩,
  ⟨(some 2), .assign (.tmp 7), none, 0⟩]
def L26r3 : List AOp := [
  ⟨(some 8), .move (.tmp 0), none, 0⟩,
  ⟨(some 9), .binOp .sub 3 (.tmp 8) (.const (.int .i64 40)) 3, none, 0⟩,
  ⟨(some 10), .indexAddr 66 (.global 2) (.tmp 9), none, 0⟩,
  ⟨(some 11), .load 22 (.tmp 10), none, 0⟩,
  ⟨(some 2), .assign (.tmp 11), none, 0⟩]
def L26 : LC := (.seq (.region L26r0) (.seq (.seq (.region L26r1) (.cond (.tmp 4) (.seq (.region L26r2) .ret) .skip)) (.seq (.region L26r3) .ret)))
theorem nt26 : Tryd.f26.ntmps = 12 := by kernel_rfl
theorem rs26 : Tryd.f26.results.toList = [.tmp 2] := by kernel_rfl
theorem lite26 : Tryd.f26.body.map (lite okDraw) = some L26 := by kernel_rfl
def L32r0 : List AOp := [
  ⟨(some 2), .assign (.const (.slice none 0 0)), none, 0⟩]
def L32r1 : List AOp := [
  ⟨(some 3), .assign (.const (.int .i64 0)), none, 0⟩]
def L32r2 : List AOp := [
  ⟨(some 9), .move (.tmp 0), none, 0⟩,
  ⟨(some 10), .call { callee := .builtin .len, args := #[.tmp 9], argTypes := #[69] }, none, 0⟩,
  ⟨(some 11), .move (.const (.int .i64 0)), none, 0⟩]
def L32r3 : List AOp := [
  ⟨(some 12), .binOp .lss 3 (.tmp 11) (.tmp 10) 3, none, 0⟩]
def L32r4 : List AOp := [
  ⟨(some 13), .indexAddr 69 (.tmp 9) (.tmp 11), none, 0⟩,
  ⟨(some 14), .load 24 (.tmp 13), none, 0⟩,
  ⟨(some 5), .assign (.tmp 14), none, 0⟩]
def L32r5 : List AOp := [
  ⟨(some 15), .move (.tmp 3), none, 0⟩,
  ⟨(some 16), .move (.tmp 5), none, 0⟩,
  ⟨(some 17), .call { callee := .builtin .len, args := #[.tmp 16], argTypes := #[24] }, none, 0⟩,
  ⟨(some 18), .binOp .add 3 (.tmp 15) (.tmp 17) 3, none, 0⟩,
  ⟨(some 3), .assign (.tmp 18), none, 0⟩]
def L32r6 : List AOp := [
  ⟨(some 19), .move (.tmp 3), none, 0⟩,
  ⟨(some 20), .binOp .lss 3 (.tmp 19) (.const (.int .i64 0)) 3, none, 0⟩]
def L32r7 : List AOp := [
  ⟨(some 21), .makeInterface 9 (.const (.string { data := #[108, 101, 110, 32, 111, 117, 116, 32, 111, 102, 32, 114, 97, 110, 103, 101] })), none, 0⟩,
  ⟨none, .panic (.tmp 21), none, 0⟩]
def L32r8 : List AOp := [
  ⟨(some 22), .binOp .add 3 (.tmp 11) (.const (.int .i64 1)) 3, none, 0⟩,
  ⟨(some 11), .move (.tmp 22), none, 0⟩]
def L32r9 : List AOp := [
  ⟨(some 23), .move (.tmp 3), none, 0⟩,
  ⟨(some 24), .call { callee := .value (.func 41), args := #[.const (.slice none 0 0), .tmp 23], argTypes := #[24, 3] }, none, 0⟩,
  ⟨(some 6), .assign (.tmp 24), none, 0⟩]
def L32r10 : List AOp := [
  ⟨(some 25), .move (.tmp 0), none, 0⟩,
  ⟨(some 26), .call { callee := .builtin .len, args := #[.tmp 25], argTypes := #[69] }, none, 0⟩,
  ⟨(some 27), .move (.const (.int .i64 0)), none, 0⟩]
def L32r11 : List AOp := [
  ⟨(some 28), .binOp .lss 3 (.tmp 27) (.tmp 26) 3, none, 0⟩]
def L32r12 : List AOp := [
  ⟨(some 29), .indexAddr 69 (.tmp 25) (.tmp 27), none, 0⟩,
  ⟨(some 30), .load 24 (.tmp 29), none, 0⟩,
  ⟨(some 8), .assign (.tmp 30), none, 0⟩]
def L32r13 : List AOp := [
  ⟨(some 31), .move (.tmp 6), none, 0⟩,
  ⟨(some 32), .move (.tmp 8), none, 0⟩,
  ⟨(some 33), .call { callee := .builtin .append, args := #[.tmp 31, .tmp 32], argTypes := #[24, 24] }, none, 0⟩,
  ⟨(some 6), .assign (.tmp 33), none, 0⟩]
def L32r14 : List AOp := [
  ⟨(some 34), .binOp .add 3 (.tmp 27) (.const (.int .i64 1)) 3, none, 0⟩,
  ⟨(some 27), .move (.tmp 34), none, 0⟩]
def L32r15 : List AOp := [
  ⟨(some 35), .move (.tmp 6), none, 0⟩,
  ⟨(some 2), .assign (.tmp 35), none, 0⟩]
def L32 : LC := (.seq (.region L32r0) (.seq (.region L32r1) (.seq (.seq (.region L32r2) (.block 0 (.loop (.seq (.region L32r3) (.seq (.cond (.tmp 12) .skip (.exit 0)) (.seq (.block 1 (.seq (.region L32r4) (.seq (.region L32r5) (.seq (.region L32r6) (.cond (.tmp 20) (.region L32r7) .skip))))) (.region L32r8))))))) (.seq (.region L32r9) (.seq (.seq (.region L32r10) (.block 2 (.loop (.seq (.region L32r11) (.seq (.cond (.tmp 28) .skip (.exit 2)) (.seq (.block 3 (.seq (.region L32r12) (.region L32r13))) (.region L32r14))))))) (.seq (.region L32r15) .ret))))))
theorem nt32 : Tryd.f32.ntmps = 36 := by kernel_rfl
theorem rs32 : Tryd.f32.results.toList = [.tmp 2] := by kernel_rfl
theorem lite32 : Tryd.f32.body.map (lite okDraw) = some L32 := by kernel_rfl
def L37r0 : List AOp := [
  ⟨(some 4), .assign (.const (.int .u64 0)), none, 0⟩]
def L37r1 : List AOp := [
  ⟨(some 6), .move (.tmp 1), none, 0⟩,
  ⟨(some 7), .convert 3 64 (.tmp 6), none, 0⟩,
  ⟨(some 8), .binOp .and 64 (.tmp 7) (.const (.int .u64 63)) 64, none, 0⟩,
  ⟨(some 5), .assign (.tmp 8), none, 0⟩]
def L37r2 : List AOp := [
  ⟨(some 9), .move (.tmp 0), none, 0⟩,
  ⟨(some 10), .move (.tmp 5), none, 0⟩,
  ⟨(some 11), .binOp .shl 22 (.tmp 9) (.tmp 10) 64, none, 0⟩,
  ⟨(some 12), .move (.tmp 0), none, 0⟩,
  ⟨(some 13), .move (.tmp 5), none, 0⟩,
  ⟨(some 14), .binOp .sub 64 (.const (.int .u64 64)) (.tmp 13) 64, none, 0⟩,
  ⟨(some 15), .binOp .shr 22 (.tmp 12) (.tmp 14) 64, none, 0⟩,
  ⟨(some 16), .binOp .or 22 (.tmp 11) (.tmp 15) 22, none, 0⟩,
  ⟨(some 4), .assign (.tmp 16), none, 0⟩]
def L37 : LC := (.seq (.region L37r0) (.seq (.region L37r1) (.seq (.region L37r2) .ret)))
theorem nt37 : Tryd.f37.ntmps = 17 := by kernel_rfl
theorem rs37 : Tryd.f37.results.toList = [.tmp 4] := by kernel_rfl
theorem lite37 : Tryd.f37.body.map (lite okDraw) = some L37 := by kernel_rfl
def L41r0 : List AOp := [
  ⟨(some 4), .assign (.const (.slice none 0 0)), none, 0⟩]
def L41r1 : List AOp := [
  ⟨(some 5), .move (.tmp 1), none, 0⟩,
  ⟨(some 6), .binOp .lss 3 (.tmp 5) (.const (.int .i64 0)) 3, none, 0⟩]
def L41r2 : List AOp := [
  ⟨(some 7), .makeInterface 9 (.const (.string { data := #[99, 97, 110, 110, 111, 116, 32, 98, 101, 32, 110, 101, 103, 97, 116, 105, 118, 101] })), none, 0⟩,
  ⟨none, .panic (.tmp 7), none, 0⟩]
def L41r3 : List AOp := [
  ⟨(some 8), .move (.tmp 1), none, 0⟩,
  ⟨(some 9), .move (.tmp 0), none, 0⟩,
  ⟨(some 10), .call { callee := .builtin .cap, args := #[.tmp 9], argTypes := #[24] }, none, 0⟩,
  ⟨(some 11), .move (.tmp 0), none, 0⟩,
  ⟨(some 12), .call { callee := .builtin .len, args := #[.tmp 11], argTypes := #[24] }, none, 0⟩,
  ⟨(some 13), .binOp .sub 3 (.tmp 10) (.tmp 12) 3, none, 0⟩,
  ⟨(some 14), .binOp .sub 3 (.tmp 8) (.tmp 13) 3, none, 0⟩,
  ⟨(some 1), .assign (.tmp 14), none, 0⟩]
def L41r4 : List AOp := [
  ⟨(some 15), .move (.tmp 1), none, 0⟩,
  ⟨(some 16), .binOp .gtr 3 (.tmp 15) (.const (.int .i64 0)) 3, none, 0⟩]
def L41r5 : List AOp := [
  ⟨(some 17), .move (.tmp 0), none, 0⟩,
  ⟨(some 18), .move (.tmp 0), none, 0⟩,
  ⟨(some 19), .call { callee := .builtin .cap, args := #[.tmp 18], argTypes := #[24] }, none, 0⟩,
  ⟨(some 20), .slice 24 (.tmp 17) none (some (.tmp 19)) none, none, 0⟩,
  ⟨(some 21), .move (.tmp 1), none, 0⟩,
  ⟨(some 22), .call { callee := .builtin .append, args := #[.tmp 20, .tmp 21], argTypes := #[24, 3] }, none, 0⟩,
  ⟨(some 23), .move (.tmp 0), none, 0⟩,
  ⟨(some 24), .call { callee := .builtin .len, args := #[.tmp 23], argTypes := #[24] }, none, 0⟩,
  ⟨(some 25), .slice 24 (.tmp 22) none (some (.tmp 24)) none, none, 0⟩,
  ⟨(some 0), .assign (.tmp 25), none, 0⟩]
def L41r6 : List AOp := [
  ⟨(some 26), .move (.tmp 0), none, 0⟩,
  ⟨(some 4), .assign (.tmp 26), none, 0⟩]
def L41 : LC := (.seq (.region L41r0) (.seq (.seq (.region L41r1) (.cond (.tmp 6) (.region L41r2) .skip)) (.seq (.seq (.region L41r3) (.seq (.region L41r4) (.cond (.tmp 16) (.region L41r5) .skip))) (.seq (.region L41r6) .ret))))
theorem nt41 : Tryd.f41.ntmps = 27 := by kernel_rfl
theorem rs41 : Tryd.f41.results.toList = [.tmp 4] := by kernel_rfl
theorem lite41 : Tryd.f41.body.map (lite okDraw) = some L41 := by kernel_rfl
end Eng


namespace Eng
open Go Go.Proofs Go.ChangeShapes Go.WideShapes Go.ChangeAt Go.RowKit
def B16 (a : List Int) : Prop := a.length = 16 ∧ ∀ x ∈ a, 0 ≤ x ∧ x < 256
def I64 (i : Int) : Prop := -9223372036854775808 ≤ i ∧ i < 9223372036854775808
def U8 (n : Int) : Prop := 0 ≤ n ∧ n < 256
theorem B16.at {a : List Int} (h : B16 a) (j : Nat) : U8 (a.getD j 0) := by
  rcases Nat.lt_or_ge j a.length with hj | hj
  · rw [List.getD_eq_getElem?_getD, List.getElem?_eq_getElem hj, Option.getD_some]
    exact h.2 _ (List.getElem_mem hj)
  · rw [List.getD_eq_getElem?_getD, List.getElem?_eq_none hj]
    exact ⟨by decide, by decide⟩
theorem own : ownKnob Tryd.prog.godebug = none := by kernel_rfl
theorem laidOut : laidOutB Tryd.prog = true := by kernel_rfl
theorem I64_of {x : Int} (h : IntKind.i64.min ≤ x ∧ x ≤ IntKind.i64.max) : I64 x := by
  have h0 : IntKind.i64.min = -9223372036854775808 := by decide
  have h1 : IntKind.i64.max = 9223372036854775807 := by decide
  unfold I64; omega
theorem U8_of {x : Int} (h : IntKind.u8.min ≤ x ∧ x ≤ IntKind.u8.max) : U8 x := by
  have h0 : IntKind.u8.min = 0 := by decide
  have h1 : IntKind.u8.max = 255 := by decide
  unfold U8; omega
theorem U8L_of {xs : List Int} (h : ∀ x ∈ xs, IntKind.u8.min ≤ x ∧ x ≤ IntKind.u8.max) : U8L xs := fun x hx => U8_of (h x hx)
theorem len_of {n : Nat} (h : n ≤ maxLen) : n ≤ 9223372036854775807 := by
  have : maxLen = 9223372036854775807 := by decide
  omega
theorem co5 : Tryd.prog.cellsOf 5 = 1 := by kernel_rfl
def W8 (a : List Int) : Prop := a.length = 8 ∧ ∀ x ∈ a, 0 ≤ x ∧ x < 18446744073709551616
end Eng


namespace Eng
open Go Go.Proofs
set_option linter.unusedSimpArgs false
set_option linter.unusedVariables false
/-- The greatest x whose square (or cube) is at most L, bit by bit. -/
def rootB (L : Nat) (cube : Bool) : Nat → Nat → Nat
  | 0, x => x
  | i + 1, x => rootB L cube i (if (if cube then (x + 2 ^ i) * (x + 2 ^ i) * (x + 2 ^ i) else (x + 2 ^ i) * (x + 2 ^ i)) ≤ L then x + 2 ^ i else x)
def rootL (p : Nat) (cube : Bool) : Nat := p * 4294967296 ^ (if cube then 6 else 4)
def rootV (p : Nat) (cube : Bool) : Nat := rootB (rootL p cube) cube 72 0 % 18446744073709551616
end Eng


namespace Eng
open Go Go.Proofs
set_option linter.unusedSimpArgs false
set_option linter.unusedVariables false
/-- The small primes, one number after the other. -/
def sv : Nat → List Int
  | 0 => []
  | j + 1 => if (sv j).all (fun q => decide (((j : Int) + 2) % q ≠ 0)) then sv j ++ [(j : Int) + 2] else sv j
def prs : List Int := sv 408
def kV (i : Nat) : Int := ((rootV (prs.getD i 0).toNat true : Nat) : Int)
def hV (i : Nat) : Int := ((rootV (prs.getD (i + 8) 0).toNat false : Nat) : Int)
def tK : Nat → List Int
  | 0 => []
  | i + 1 => tK i ++ [kV i]
/-- The constants, and the words at first. -/
def kTab : List Int := tK 80
def hTab : List Int := tab 8 hV
end Eng


namespace Eng
open Go Go.Proofs
set_option linter.unusedSimpArgs false
set_option linter.unusedVariables false
/-- Rotated to the right. -/
def rorI (x : Int) (n : Nat) : Int := orZ .u64 (shrZ .u64 x n) (shlZ .u64 x (64 - n))
theorem rot_tbl : ∀ n : Nat, n < 64 → 0 < n → andZ .u64 (IntKind.u64.wrap (-(n : Int))) 63 = 64 - (n : Int) := by decide +kernel
theorem orZ_comm (k : IntKind) (x y : Int) : orZ k x y = orZ k y x := by unfold orZ; rw [BitVec.or_comm]

noncomputable def S37 : List AV → Option Ret := nz (sumOf (fun p : Int × Int => match p with | (x, m) => (-64 < m) ∧ (m < 0)) (fun p : Int × Int => match p with | (x, m) => [.int .u64 x, .int .i64 m]) (fun p : Int × Int => match p with | (x, m) => ⟨.int .u64 (rorI x (-m).toNat), none⟩))
theorem S37_eq (x : Int) (m : Int) (h0 : -64 < m) (h1 : m < 0) : S37 [.int .u64 x, .int .i64 m] = some ⟨.int .u64 (rorI x (-m).toNat), none⟩ :=
  sumOf_eq (dom := (fun p : Int × Int => match p with | (x, m) => (-64 < m) ∧ (m < 0))) (enc := (fun p : Int × Int => match p with | (x, m) => [.int .u64 x, .int .i64 m])) (out := (fun p : Int × Int => match p with | (x, m) => ⟨.int .u64 (rorI x (-m).toNat), none⟩)) (x, m) ⟨h0, h1⟩ (fun y _ e => by
    obtain ⟨y0, y1⟩ := y
    simp only [List.cons.injEq, AV.int.injEq, true_and, and_true] at e
    first | with_reducible rfl | simp only [e] | rfl)
theorem S37_inv {args : List AV} {r : Ret} (h : sumOf (fun p : Int × Int => match p with | (x, m) => (-64 < m) ∧ (m < 0)) (fun p : Int × Int => match p with | (x, m) => [.int .u64 x, .int .i64 m]) (fun p : Int × Int => match p with | (x, m) => ⟨.int .u64 (rorI x (-m).toNat), none⟩) args = some r) : ∃ (x : Int) (m : Int), ((-64 < m) ∧ (m < 0)) ∧ args = [.int .u64 x, .int .i64 m] ∧ r = ⟨.int .u64 (rorI x (-m).toNat), none⟩ := by
  obtain ⟨x, h1, h2, h3⟩ := sumOf_inv h
  obtain ⟨x, m⟩ := x
  exact ⟨x, m, h1, h2.symm, h3⟩


set_option maxRecDepth 100000 in
theorem snd37 : SndE Tryd.prog NoG 37 S37 := by
  refine snd_nz (snd_by [] [] Tryd.func37 (by kernel_rfl) lite37 nt37 rs37 trivial trivial (fun hT args r h => ?_))
  obtain ⟨x, m, ⟨hd0, hd1⟩, rfl, rfl⟩ := S37_inv h
  clear h
  have hM := hM0
  refine ⟨Nat.le_of_ble_eq_true rfl, fun F => ?_⟩
  unfold L37
  obtain ⟨n, rfl⟩ : ∃ n : Nat, m = -(n : Int) := ⟨(-m).toNat, by omega⟩
  have h1 := rot_tbl n (by omega) (by omega)
  have h2 : ¬ (64 - (n : Int)) < 0 := by omega
  have h3 : IntKind.u64.wrap (64 - (64 - (n : Int))) = n := by rw [wrap_u64 (by omega) (by omega)]; omega
  have h4 : ¬ (n : Int) < 0 := by omega
  have h5 : (-(-(n : Int))).toNat = n := by omega
  have h6 : orZ .u64 (shlZ .u64 x (64 - n)) (shrZ .u64 x n) = rorI x n := orZ_comm _ _ _
  refine Lwp.seq (Lwp.regI hT ?_)
  simp only [L37r0, go_sem, eq_self, Nat.reduceLT, decide_true]
  refine Lwp.seq (Lwp.regI hT ?_)
  simp only [L37r1, go_sem, eq_self, Nat.reduceAdd, Nat.reduceLT, Nat.reduceEqDiff, reduceCtorEq, decide_true, ty3, ty64, h1]
  refine Lwp.seq (Lwp.regI hT ?_)
  simp only [L37r2, go_sem, eq_self, Nat.reduceAdd, Nat.reduceLT, Nat.reduceEqDiff, reduceCtorEq, decide_true, h2, h3, h4, h6]
  refine Lwp.ret (post_val (v := .int .u64 (rorI x n)) ?_ ?_)
  · simp only [go_sem, eq_self, Nat.reduceEqDiff, reduceCtorEq]
  · simp only [go_sem, eq_self, h5]

def w64 (x : Int) : Int := IntKind.u64.wrap x
def oneR (v : List Int) (k w : Int) : Int := w64 (w64 (w64 (w64 (v.getD 7 0 + xorZ .u64 (xorZ .u64 (rorI (v.getD 4 0) 14) (rorI (v.getD 4 0) 18)) (rorI (v.getD 4 0) 41)) + xorZ .u64 (andZ .u64 (v.getD 4 0) (v.getD 5 0)) (andZ .u64 (xorZ .u64 18446744073709551615 (v.getD 4 0)) (v.getD 6 0))) + k) + w)
def twoR (v : List Int) : Int := w64 (xorZ .u64 (xorZ .u64 (rorI (v.getD 0 0) 28) (rorI (v.getD 0 0) 34)) (rorI (v.getD 0 0) 39) + xorZ .u64 (xorZ .u64 (andZ .u64 (v.getD 0 0) (v.getD 1 0)) (andZ .u64 (v.getD 0 0) (v.getD 2 0))) (andZ .u64 (v.getD 1 0) (v.getD 2 0)))
/-- A round. -/
def roundR (v : List Int) (k w : Int) : List Int := [w64 (oneR v k w + twoR v), v.getD 0 0, v.getD 1 0, v.getD 2 0, w64 (v.getD 3 0 + oneR v k w), v.getD 4 0, v.getD 5 0, v.getD 6 0]
theorem set8 {α : Type} (a b c d e f g h z : α) : ((((((((List.replicate 8 z).set 0 a).set 1 b).set 2 c).set 3 d).set 4 e).set 5 f).set 6 g).set 7 h = [a, b, c, d, e, f, g, h] := rfl
theorem max_u64 : IntKind.u64.max = 18446744073709551615 := by decide

noncomputable def S25 : List AV → Option Ret := nz (sumOf (fun p : List Int × Int × Int => match p with | (v, k, w) => (W8 v)) (fun p : List Int × Int × Int => match p with | (v, k, w) => [.agg (ints .u64 v), .int .u64 k, .int .u64 w]) (fun p : List Int × Int × Int => match p with | (v, k, w) => ⟨.agg (ints .u64 (roundR v k w)), none⟩))
theorem S25_eq (v : List Int) (k : Int) (w : Int) (h0 : W8 v) : S25 [.agg (ints .u64 v), .int .u64 k, .int .u64 w] = some ⟨.agg (ints .u64 (roundR v k w)), none⟩ :=
  sumOf_eq (dom := (fun p : List Int × Int × Int => match p with | (v, k, w) => (W8 v))) (enc := (fun p : List Int × Int × Int => match p with | (v, k, w) => [.agg (ints .u64 v), .int .u64 k, .int .u64 w])) (out := (fun p : List Int × Int × Int => match p with | (v, k, w) => ⟨.agg (ints .u64 (roundR v k w)), none⟩)) (v, k, w) h0 (fun y _ e => by
    obtain ⟨y0, y1, y2⟩ := y
    simp only [List.cons.injEq, AV.agg.injEq, AV.int.injEq, ints_injEq, true_and, and_true] at e
    first | with_reducible rfl | simp only [e] | rfl)
theorem S25_inv {args : List AV} {r : Ret} (h : sumOf (fun p : List Int × Int × Int => match p with | (v, k, w) => (W8 v)) (fun p : List Int × Int × Int => match p with | (v, k, w) => [.agg (ints .u64 v), .int .u64 k, .int .u64 w]) (fun p : List Int × Int × Int => match p with | (v, k, w) => ⟨.agg (ints .u64 (roundR v k w)), none⟩) args = some r) : ∃ (v : List Int) (k : Int) (w : Int), ((W8 v)) ∧ args = [.agg (ints .u64 v), .int .u64 k, .int .u64 w] ∧ r = ⟨.agg (ints .u64 (roundR v k w)), none⟩ := by
  obtain ⟨x, h1, h2, h3⟩ := sumOf_inv h
  obtain ⟨v, k, w⟩ := x
  exact ⟨v, k, w, h1, h2.symm, h3⟩


set_option maxRecDepth 100000 in
theorem snd25 : SndE Tryd.prog NoG 25 S25 := by
  refine snd_nz (snd_by [(37, S37)] [] Tryd.func25 (by kernel_rfl) lite25 nt25 rs25 ⟨snd37, trivial⟩ trivial (fun hT args r h => ?_))
  obtain ⟨v, k, w, hd0, rfl, rfl⟩ := S25_inv h
  clear h
  have hM := hM0
  refine ⟨Nat.le_of_ble_eq_true rfl, fun F => ?_⟩
  unfold L25
  have hl := hd0.1
  have f (x : Int) : S37 [.int .u64 x, .int .i64 (-14)] = some ⟨.int .u64 (rorI x 14), none⟩ := S37_eq x (-14) (by decide) (by decide)
  have f2 (x : Int) : S37 [.int .u64 x, .int .i64 (-18)] = some ⟨.int .u64 (rorI x 18), none⟩ := S37_eq x (-18) (by decide) (by decide)
  have f3 (x : Int) : S37 [.int .u64 x, .int .i64 (-41)] = some ⟨.int .u64 (rorI x 41), none⟩ := S37_eq x (-41) (by decide) (by decide)
  have f4 (x : Int) : S37 [.int .u64 x, .int .i64 (-28)] = some ⟨.int .u64 (rorI x 28), none⟩ := S37_eq x (-28) (by decide) (by decide)
  have f5 (x : Int) : S37 [.int .u64 x, .int .i64 (-34)] = some ⟨.int .u64 (rorI x 34), none⟩ := S37_eq x (-34) (by decide) (by decide)
  have f6 (x : Int) : S37 [.int .u64 x, .int .i64 (-39)] = some ⟨.int .u64 (rorI x 39), none⟩ := S37_eq x (-39) (by decide) (by decide)
  have hs : IntKind.u64.signed = false := rfl
  refine Lwp.seq (Lwp.regI hT ?_)
  simp only [L25r0, go_sem, eq_self, Nat.reduceAdd, Nat.reduceLT, reduceCtorEq, decide_true, ty23]
  refine Lwp.seq (Lwp.regD hT hM ?_)
  simp only [L25r1, go_sem, eq_self, Nat.reduceAdd, Nat.reduceSub, Nat.reduceLT, Nat.reduceLeDiff, Nat.reduceEqDiff, Nat.reduceDiv, Nat.reduceMod, Nat.reducePow, Int.reduceLT, Int.reduceLE, Int.reduceToNat, reduceCtorEq, decide_true, decide_false, Bool.false_eq_true, ty22, ty23, hl]
  refine Lwp.seq (Lwp.regD hT hM ?_)
  simp only [L25r2, go_sem, List.isEmpty_nil, eq_self, Nat.reduceAdd, Nat.reduceSub, Nat.reduceLT, Nat.reduceLeDiff, Nat.reduceEqDiff, Nat.reduceDiv, Nat.reduceMod, Nat.reducePow, Int.reduceLT, Int.reduceLE, Int.reduceToNat, Int.reduceNeg, reduceCtorEq, decide_true, decide_false, Bool.false_eq_true, ty22, ty23, hl, f, f2, f3, hs, max_u64]
  refine Lwp.seq (Lwp.regD hT hM ?_)
  simp only [L25r3, go_sem, List.isEmpty_nil, eq_self, Nat.reduceAdd, Nat.reduceSub, Nat.reduceLT, Nat.reduceLeDiff, Nat.reduceEqDiff, Nat.reduceDiv, Nat.reduceMod, Nat.reducePow, Int.reduceLT, Int.reduceLE, Int.reduceToNat, Int.reduceNeg, reduceCtorEq, decide_true, decide_false, Bool.false_eq_true, ty22, ty23, hl, f4, f5, f6]
  refine Lwp.seq (Lwp.regI hT ?_)
  simp only [L25r4, go_sem, eq_self, Nat.reduceAdd, Nat.reduceLT, Nat.reduceLeDiff, Nat.reduceEqDiff, Int.reduceLT, Int.reduceLE, Int.reduceToNat, reduceCtorEq, decide_true, Bool.false_eq_true, ty22, ty23, hl]
  refine Lwp.ret (post_val (v := .agg (ints .u64 (roundR v k w))) ?_ ?_)
  · simp only [go_sem, eq_self, Nat.reduceAdd, Nat.reduceLT, Nat.reduceLeDiff, Nat.reduceEqDiff, reduceCtorEq, ty23, set8, roundR, oneR, twoR, w64, ints_cons, ints_nil]
  · simp only [go_sem, eq_self]

end Eng


namespace Eng
open Go Go.Proofs
set_option linter.unusedSimpArgs false
set_option linter.unusedVariables false
theorem U8L.at {l : List Int} (h : U8L l) (i : Nat) : 0 ≤ l.getD i 0 ∧ l.getD i 0 < 256 := by
  rcases Nat.lt_or_ge i l.length with hi | hi
  · rw [List.getD_eq_getElem?_getD, List.getElem?_eq_getElem hi, Option.getD_some]
    exact h _ (List.getElem_mem hi)
  · rw [List.getD_eq_getElem?_getD, List.getElem?_eq_none hi]
    exact ⟨by decide, by decide⟩
end Eng


namespace Eng
open Go Go.Proofs
set_option linter.unusedSimpArgs false
set_option linter.unusedVariables false
/-! The words of a block. -/
def wordN (b : List Int) (i : Nat) : Nat → Nat
  | 0 => 0
  | k + 1 => wordN b i k * 256 + (b.getD (8 * i + k) 0).toNat
theorem wordN_lt {b : List Int} (h : U8L b) (i : Nat) : ∀ k, wordN b i k < 256 ^ k
  | 0 => by simp [wordN]
  | k + 1 => by
    have h1 := wordN_lt h i k
    have h2 := h.at (8 * i + k)
    rw [wordN, Nat.pow_succ]; omega
def sig0 (x : Int) : Int := xorZ .u64 (xorZ .u64 (rorI x 1) (rorI x 8)) (shrZ .u64 x 7)
def sig1 (x : Int) : Int := xorZ .u64 (xorZ .u64 (rorI x 19) (rorI x 61)) (shrZ .u64 x 6)
def nextW (b : List Int) (l : List Int) (n : Nat) : Int := if n < 16 then (wordN b n 8 : Int) else w64 (w64 (w64 (l.getD (n - 16) 0 + sig0 (l.getD (n - 15) 0)) + l.getD (n - 7) 0) + sig1 (l.getD (n - 2) 0))
def schedL (b : List Int) : Nat → List Int
  | 0 => []
  | n + 1 => schedL b n ++ [nextW b (schedL b n) n]
theorem schedL_len (b : List Int) : ∀ n, (schedL b n).length = n
  | 0 => rfl
  | n + 1 => by rw [schedL, List.length_append, schedL_len b n]; rfl
/-- The first words, and noughts. -/
def pad80 (b : List Int) (i : Nat) : List Int := schedL b i ++ List.replicate (80 - i) 0
theorem pad80_len (b : List Int) {i : Nat} (h : i ≤ 80) : (pad80 b i).length = 80 := by rw [pad80, List.length_append, schedL_len, List.length_replicate]; omega
theorem pad80_zero (b : List Int) : pad80 b 0 = List.replicate 80 0 := rfl
theorem pad80_full (b : List Int) : pad80 b 80 = schedL b 80 := by rw [pad80]; simp
theorem pad80_at (b : List Int) {i j : Nat} (h : j < i) : (pad80 b i).getD j 0 = (schedL b i).getD j 0 := by
  rw [pad80, List.getD_eq_getElem?_getD, List.getD_eq_getElem?_getD, List.getElem?_append_left (by rw [schedL_len]; exact h)]
theorem pad80_set (b : List Int) {i : Nat} (h : i < 80) (v : Int) (hv : v = nextW b (schedL b i) i) : (pad80 b i).set i v = pad80 b (i + 1) := by
  subst hv
  rw [pad80, List.set_append_right _ _ (by rw [schedL_len]; exact Nat.le_refl _), schedL_len, Nat.sub_self, pad80, schedL]
  obtain ⟨m, hm⟩ : ∃ m, 80 - i = m + 1 := ⟨80 - i - 1, by omega⟩
  rw [hm, show 80 - (i + 1) = m by omega, List.replicate_succ, List.set_cons_zero, List.append_assoc]; rfl
theorem pad80_word (b : List Int) {i : Nat} (h : i < 80) : (pad80 b i).set i 0 = pad80 b i := by
  rw [pad80, List.set_append_right _ _ (by rw [schedL_len]; exact Nat.le_refl _), schedL_len, Nat.sub_self]
  obtain ⟨m, hm⟩ : ∃ m, 80 - i = m + 1 := ⟨80 - i - 1, by omega⟩
  rw [hm, List.replicate_succ, List.set_cons_zero]
theorem set_set (l : List Int) (i : Nat) (u v : Int) : (l.set i u).set i v = l.set i v := List.set_set ..
theorem getD_set_self (l : List Int) {i : Nat} (h : i < l.length) (v : Int) : (l.set i v).getD i 0 = v := by
  rw [List.getD_eq_getElem?_getD, List.getElem?_set]; simp [h]
/-- A word, and one byte more. -/
theorem shl8_or {w d : Nat} (hw : w < 256 ^ 7) (hd : d < 256) : orZ .u64 (shlZ .u64 (w : Int) 8) (d : Int) = ((w * 256 + d : Nat) : Int) := by
  have h : shlZ .u64 (w : Int) 8 = IntKind.u64.wrap ((w : Int) * 2 ^ (min (8 : Int).toNat 64)) := rfl
  have h2 : (w : Int) * 2 ^ (min (8 : Int).toNat 64) = ((w * 256 : Nat) : Int) := by rw [show (2 : Int) ^ (min (8 : Int).toNat 64) = 256 from rfl]; omega
  rw [h, h2, wrap_u64 (by omega) (by omega), orZ_u64, BitVec.toNat_or, ofInt_toNat (by omega) (by omega), ofInt_toNat (by omega) (by omega), Int.toNat_natCast, Int.toNat_natCast]
  congr 1
  rw [show w * 256 = w <<< 8 by rw [Nat.shiftLeft_eq], ← Nat.shiftLeft_add_eq_or_of_lt (show d < 2 ^ 8 from hd)]

def schV (b : List Int) : AV := if b.length = 128 then .slc 80 (ints .u64 (schedL b 80)) else .nils
def schE (b : List Int) : AV := if b.length = 128 then .nili else .iface 34 (.int .i64 1)

noncomputable def S24 : List AV → Option Ret := nz (sumOf (fun p : List Int => match p with | b => (U8L b) ∧ (b.length ≤ 9223372036854775807)) (fun p : List Int => match p with | b => [.slc b.length (ints .u8 b)]) (fun p : List Int => match p with | b => ⟨.tup [schV b, schE b], none⟩))
theorem S24_eq (b : List Int) (h0 : U8L b) (h1 : b.length ≤ 9223372036854775807) : S24 [.slc b.length (ints .u8 b)] = some ⟨.tup [schV b, schE b], none⟩ :=
  sumOf_eq (dom := (fun p : List Int => match p with | b => (U8L b) ∧ (b.length ≤ 9223372036854775807))) (enc := (fun p : List Int => match p with | b => [.slc b.length (ints .u8 b)])) (out := (fun p : List Int => match p with | b => ⟨.tup [schV b, schE b], none⟩)) b ⟨h0, h1⟩ (fun y _ e => by
    simp only [List.cons.injEq, AV.slc.injEq, ints_injEq, and_true] at e
    first | with_reducible rfl | simp only [e] | rfl)
theorem S24_inv {args : List AV} {r : Ret} (h : sumOf (fun p : List Int => match p with | b => (U8L b) ∧ (b.length ≤ 9223372036854775807)) (fun p : List Int => match p with | b => [.slc b.length (ints .u8 b)]) (fun p : List Int => match p with | b => ⟨.tup [schV b, schE b], none⟩) args = some r) : ∃ (b : List Int), ((U8L b) ∧ (b.length ≤ 9223372036854775807)) ∧ args = [.slc b.length (ints .u8 b)] ∧ r = ⟨.tup [schV b, schE b], none⟩ := by
  obtain ⟨x, h1, h2, h3⟩ := sumOf_inv h
  exact ⟨x, h1, h2.symm, h3⟩


def St40 (b : List Int) (i : Nat) : AState := { nt := 93, env := [(0, .slc 128 (ints .u8 b)), (4, .osl 5 0 80 1), (17, .int .i64 i)], mem := [(5, ints .u64 (pad80 b i))], next := 20 }
def St40k (b : List Int) (i k : Nat) : AState := { nt := 93, env := [(0, .slc 128 (ints .u8 b)), (4, .osl 5 0 80 1), (5, .int .i64 i), (17, .int .i64 i), (20, .int .i64 k)], mem := [(5, ints .u64 ((pad80 b i).set i (wordN b i k : Nat)))], next := 20 }
def St40e (b : List Int) (i : Nat) : AState := { nt := 93, env := [(0, .slc 128 (ints .u8 b)), (4, .osl 5 0 80 1), (7, .int .i64 i)], mem := [(5, ints .u64 (pad80 b i))], next := 20 }

set_option maxRecDepth 100000 in
theorem snd24 : SndE Tryd.prog NoG 24 S24 := by
  refine snd_nz (snd_by [(37, S37)] [] Tryd.func24 (by kernel_rfl) lite24 nt24 rs24 ⟨snd37, trivial⟩ trivial (fun hT args r h => ?_))
  obtain ⟨b, ⟨hd0, hd1⟩, rfl, rfl⟩ := S24_inv h
  clear h
  have hM := hM0
  refine ⟨Nat.le_of_ble_eq_true rfl, fun F => ?_⟩
  unfold L24
  refine Lwp.seq (Lwp.regI hT ?_)
  simp only [L24r0, go_sem, eq_self, Nat.reduceAdd, Nat.reduceLT, decide_true]
  refine Lwp.seq ?_
  by_cases hl : b.length = 128
  · have e1 : schV b = .slc 80 (ints .u64 (schedL b 80)) := by unfold schV; rw [if_pos hl]
    have e2 : schE b = .nili := by unfold schE; rw [if_pos hl]
    rw [e1, e2, hl]
    have rl : (List.replicate 80 (0 : Int)).length = 80 := by simp
    refine Lwp.seq (Lwp.regI hT ?_)
    simp only [L24r1, go_sem, eq_self, Nat.reduceAdd, Nat.reduceLT, Nat.reduceEqDiff, Int.reduceBNe, reduceCtorEq, decide_true, ty24]
    refine Lwp.cond rfl (fun h => by cases h) (fun _ => Lwp.skip ?_)
    simp only [go_sem]
    refine Lwp.seq (Lwp.regI hT ?_)
    simp only [L24r3, go_sem, eq_self, Nat.reduceAdd, Nat.reduceLT, Nat.reduceEqDiff, Int.reduceLE, Int.reduceToNat, Int.reduceMul, reduceCtorEq, decide_true, ty22, ty25, ints_zeros]
    refine Lwp.seq ?_
    refine Lwp.seq (Lwp.regI hT ?_)
    simp only [L24r4, go_sem, eq_self, Nat.reduceAdd, Nat.reduceLT, decide_true]
    refine Lwp.block (Lwp.range (St40 b) 16 ?_ (fun i hi => ?_) ?_)
    · refine weak_of rfl ?_ ?_ ?_
      · (simp only [go_sem, eq_self, Nat.reduceEqDiff, reduceCtorEq, St40, pad80_zero]; try rfl)
      · (simp only [go_sem, eq_self, St40, pad80_zero]; try rfl)
      · (simp only [go_sem, eq_self, St40, pad80_zero]; try rfl)
    · have h1 : (i : Int) < 16 := by omega
      have h4 := wrap_succ hi (by decide)
      have c1 : (0 : Int) ≤ i := by omega
      have c2 : (i : Int) < 80 := by omega
      have c3 : i < 80 := by omega
      have c4 : i ≤ 79 := by omega
      have pl := pad80_len b (i := i) (by omega)
      have p0 := pad80_word b c3
      unfold St40
      refine Lwp.seq (Lwp.regI hT ?_)
      simp only [L24r5, go_sem, eq_self, Nat.reduceAdd, Nat.reduceLT, Nat.reduceEqDiff, reduceCtorEq, decide_true, h1]
      refine Lwp.seq (Lwp.cond rfl (fun _ => Lwp.skip ?_) (fun h => by cases h))
      simp only [go_sem]
      refine Lwp.seq (Lwp.block ?_)
      refine Lwp.seq (Lwp.regI hT ?_)
      simp only [L24r6, go_sem, eq_self, Nat.reduceAdd, Nat.reduceLT, Nat.reduceEqDiff, reduceCtorEq, decide_true]
      refine Lwp.seq (Lwp.regI hT ?_)
      simp only [L24r7, go_sem, eq_self, Nat.reduceAdd, Nat.reduceLT, decide_true]
      refine Lwp.block (Lwp.range (St40k b i) 8 ?_ (fun k hk => ?_) ?_)
      · refine weak_of rfl ?_ ?_ ?_
        · (simp only [go_sem, eq_self, Nat.reduceEqDiff, reduceCtorEq, St40k, wordN, p0, Int.natCast_zero]; try rfl)
        · (simp only [go_sem, eq_self, St40k, wordN, p0, Int.natCast_zero]; try rfl)
        · (simp only [go_sem, eq_self, St40k, wordN, p0, Int.natCast_zero]; try rfl)
      · have k1 : (k : Int) < 8 := by omega
        have k4 := wrap_succ hk (by decide)
        have wl := wordN_lt hd0 i k
        have wl7 : wordN b i k < 256 ^ 7 := Nat.lt_of_lt_of_le wl (Nat.pow_le_pow_right (by decide) (by omega))
        have hb := hd0.at (8 * i + k)
        obtain ⟨d, hd⟩ : ∃ d : Nat, b.getD (8 * i + k) 0 = (d : Int) := ⟨(b.getD (8 * i + k) 0).toNat, by omega⟩
        have hd256 : d < 256 := by omega
        have e3 : wordN b i (k + 1) = wordN b i k * 256 + d := by rw [wordN, hd, Int.toNat_natCast]
        have e4 := shl8_or wl7 hd256
        rw [← e3] at e4
        have e5 : IntKind.u64.wrap (d : Int) = d := wrap_u64 (by omega) (by omega)
        have e6 : IntKind.i64.wrap (8 * (i : Int)) = 8 * (i : Int) := wrap_i64 (by omega) (by omega)
        have e7 : IntKind.i64.wrap (8 * (i : Int) + (k : Int)) = ((8 * i + k : Nat) : Int) := by rw [wrap_i64 (by omega) (by omega)]; omega
        have e8 : (0 : Int) ≤ ((8 * i + k : Nat) : Int) := by omega
        have e9 : ((8 * i + k : Nat) : Int) < 128 := by omega
        have e10 : 8 * i + k < 128 := by omega
        have f1 := getD_set_self (pad80 b i) (i := i) (by omega) ((wordN b i k : Nat) : Int)
        have f2 : ((pad80 b i).set i ((wordN b i k : Nat) : Int)).length = 80 := by rw [List.length_set]; exact pl
        have f3 := set_set (pad80 b i) i ((wordN b i k : Nat) : Int) ((wordN b i (k + 1) : Nat) : Int)
        unfold St40k
        refine Lwp.seq (Lwp.regI hT ?_)
        simp only [L24r8, go_sem, eq_self, Nat.reduceAdd, Nat.reduceLT, Nat.reduceEqDiff, reduceCtorEq, decide_true, k1]
        refine Lwp.seq (Lwp.cond rfl (fun _ => Lwp.skip ?_) (fun h => by cases h))
        simp only [go_sem]
        refine Lwp.seq (Lwp.block ?_)
        refine Lwp.seq (Lwp.regI hT ?_)
        simp only [L24r9, go_sem, eq_self, Nat.reduceAdd, Nat.reduceLT, Nat.reduceEqDiff, reduceCtorEq, decide_true]
        generalize wordN b i (k + 1) = w2 at *
        generalize wordN b i k = w1 at *
        generalize (pad80 b i).set i ((w2 : Nat) : Int) = l2 at *
        generalize (pad80 b i).set i ((w1 : Nat) : Int) = l1 at *
        generalize 8 * i + k = q at *
        refine Lwp.regD hT hM ?_
        simp only [L24r10, go_sem, eq_self, Nat.reduceAdd, Nat.reduceSub, Nat.reduceLT, Nat.reduceLeDiff, Nat.reduceEqDiff, Nat.reduceDiv, Nat.reduceMod, Nat.reducePow, Int.reduceLT, reduceCtorEq, decide_true, decide_false, Bool.false_eq_true, ty5, ty24, ty22, ty25, c1, c2, c3, c4, e4, e5, e6, e7, e8, e9, e10, hd, f1, f2, hl]
        refine Lwp.regI hT ?_
        simp only [L24r11, go_sem, eq_self, Nat.reduceAdd, Nat.reduceLT, Nat.reduceEqDiff, reduceCtorEq, decide_true, k4]
        refine weak_of rfl ?_ ?_ ?_
        · (simp only [go_sem, eq_self, Nat.reduceEqDiff, reduceCtorEq]; try rfl)
        · (simp only [go_sem, eq_self, f3]; try rfl)
        · (simp only [go_sem, eq_self]; try rfl)
      · unfold St40k
        refine Lwp.seq (Lwp.regI hT ?_)
        simp only [L24r8, go_sem, eq_self, Nat.reduceAdd, Nat.reduceLT, Nat.reduceEqDiff, Int.reduceLT, reduceCtorEq, decide_true, decide_false]
        refine Lwp.seq (Lwp.cond rfl (fun h => by cases h) (fun _ => Lwp.exit ?_))
        simp only [go_sem, eq_self, Nat.reduceEqDiff, reduceCtorEq]
        have f4 := pad80_set b c3 ((wordN b i 8 : Nat) : Int) (by unfold nextW; rw [if_pos hi])
        refine Lwp.regI hT ?_
        simp only [L24r12, go_sem, eq_self, Nat.reduceAdd, Nat.reduceLT, Nat.reduceEqDiff, reduceCtorEq, decide_true, h4]
        refine weak_of rfl ?_ ?_ ?_
        · (simp only [go_sem, eq_self, Nat.reduceEqDiff, reduceCtorEq]; try rfl)
        · (simp only [go_sem, eq_self, f4]; try rfl)
        · (simp only [go_sem, eq_self]; try rfl)
    · unfold St40
      refine Lwp.seq (Lwp.regI hT ?_)
      simp only [L24r5, go_sem, eq_self, Nat.reduceAdd, Nat.reduceLT, Nat.reduceEqDiff, Int.reduceLT, reduceCtorEq, decide_true, decide_false]
      refine Lwp.seq (Lwp.cond rfl (fun h => by cases h) (fun _ => Lwp.exit ?_))
      simp only [go_sem, eq_self]
      refine Lwp.seq ?_
      refine Lwp.seq (Lwp.regI hT ?_)
      simp only [L24r13, go_sem, eq_self, Nat.reduceAdd, Nat.reduceLT, decide_true]
      refine Lwp.block (Lwp.whl (St40e b) (fun i => 16 ≤ i ∧ i ≤ 80) (fun i => 80 - i) 16 ⟨by decide, by decide⟩ ?_ ?_)
      · refine weak_of rfl ?_ ?_ ?_
        · (simp only [go_sem, eq_self, Nat.reduceEqDiff, reduceCtorEq, St40e]; try rfl)
        · (simp only [go_sem, eq_self, St40e]; try rfl)
        · (simp only [go_sem, eq_self, St40e]; try rfl)
      · rintro i ⟨hi1, hi2⟩
        have pl := pad80_len b hi2
        unfold St40e
        refine Lwp.seq ?_
        by_cases hi : i < 80
        · have h1 : (i : Int) < 80 := by omega
          have h4 : IntKind.i64.wrap ((i : Int) + 1) = ((i + 1 : Nat) : Int) := by rw [wrap_i64 (by omega) (by omega)]; omega
          have a1 : IntKind.i64.wrap ((i : Int) - 15) = ((i - 15 : Nat) : Int) := by rw [wrap_i64 (by omega) (by omega)]; omega
          have a2 : IntKind.i64.wrap ((i : Int) - 2) = ((i - 2 : Nat) : Int) := by rw [wrap_i64 (by omega) (by omega)]; omega
          have a3 : IntKind.i64.wrap ((i : Int) - 16) = ((i - 16 : Nat) : Int) := by rw [wrap_i64 (by omega) (by omega)]; omega
          have a4 : IntKind.i64.wrap ((i : Int) - 7) = ((i - 7 : Nat) : Int) := by rw [wrap_i64 (by omega) (by omega)]; omega
          have b1 : (0 : Int) ≤ ((i - 15 : Nat) : Int) ∧ ((i - 15 : Nat) : Int) < 80 ∧ i - 15 < 80 := by omega
          have b2 : (0 : Int) ≤ ((i - 2 : Nat) : Int) ∧ ((i - 2 : Nat) : Int) < 80 ∧ i - 2 < 80 := by omega
          have b3 : (0 : Int) ≤ ((i - 16 : Nat) : Int) ∧ ((i - 16 : Nat) : Int) < 80 ∧ i - 16 < 80 := by omega
          have b4 : (0 : Int) ≤ ((i - 7 : Nat) : Int) ∧ ((i - 7 : Nat) : Int) < 80 ∧ i - 7 < 80 := by omega
          have b5 : (0 : Int) ≤ (i : Int) := by omega
          have b6 : i ≤ 79 := by omega
          have g1 := pad80_at b (i := i) (j := i - 15) (by omega)
          have g2 := pad80_at b (i := i) (j := i - 2) (by omega)
          have g3 := pad80_at b (i := i) (j := i - 16) (by omega)
          have g4 := pad80_at b (i := i) (j := i - 7) (by omega)
          have ff1 (x : Int) : S37 [.int .u64 x, .int .i64 (-1)] = some ⟨.int .u64 (rorI x 1), none⟩ := S37_eq x (-1) (by decide) (by decide)
          have ff2 (x : Int) : S37 [.int .u64 x, .int .i64 (-8)] = some ⟨.int .u64 (rorI x 8), none⟩ := S37_eq x (-8) (by decide) (by decide)
          have ff3 (x : Int) : S37 [.int .u64 x, .int .i64 (-19)] = some ⟨.int .u64 (rorI x 19), none⟩ := S37_eq x (-19) (by decide) (by decide)
          have ff4 (x : Int) : S37 [.int .u64 x, .int .i64 (-61)] = some ⟨.int .u64 (rorI x 61), none⟩ := S37_eq x (-61) (by decide) (by decide)
          have fs := pad80_set b hi (w64 (w64 (w64 ((schedL b i).getD (i - 16) 0 + sig0 ((schedL b i).getD (i - 15) 0)) + (schedL b i).getD (i - 7) 0) + sig1 ((schedL b i).getD (i - 2) 0))) (by unfold nextW; rw [if_neg (by omega)])
          generalize (schedL b i).getD (i - 16) 0 = x16 at *
          generalize (schedL b i).getD (i - 15) 0 = x15 at *
          generalize (schedL b i).getD (i - 7) 0 = x7 at *
          generalize (schedL b i).getD (i - 2) 0 = x2 at *
          unfold w64 sig0 sig1 at fs
          generalize pad80 b i = l1 at *
          generalize i - 16 = q16 at *
          generalize i - 15 = q15 at *
          generalize i - 7 = q7 at *
          generalize i - 2 = q2 at *
          refine Lwp.seq (Lwp.regI hT ?_)
          simp only [L24r14, go_sem, eq_self, Nat.reduceAdd, Nat.reduceLT, Nat.reduceEqDiff, reduceCtorEq, decide_true, ty25, h1]
          refine Lwp.cond rfl (fun _ => Lwp.skip ?_) (fun h => by cases h)
          simp only [go_sem]
          refine Lwp.seq (Lwp.block ?_)
          refine Lwp.seq (Lwp.regD hT hM ?_)
          simp only [L24r16, go_sem, eq_self, Nat.reduceAdd, Nat.reduceSub, Nat.reduceLT, Nat.reduceLeDiff, Nat.reduceEqDiff, Nat.reduceDiv, Nat.reduceMod, Nat.reducePow, reduceCtorEq, decide_true, decide_false, Bool.false_eq_true, ty22, ty25, a1, a2, b1, b2, g1, g2, pl]
          refine Lwp.seq (Lwp.regI hT ?_)
          simp only [L24r17, go_sem, eq_self, Nat.reduceAdd, Nat.reduceLT, Nat.reduceEqDiff, Int.reduceLT, Int.reduceNeg, reduceCtorEq, decide_true, ff1, ff2]
          refine Lwp.seq (Lwp.regI hT ?_)
          simp only [L24r18, go_sem, eq_self, Nat.reduceAdd, Nat.reduceLT, Nat.reduceEqDiff, Int.reduceLT, Int.reduceNeg, reduceCtorEq, decide_true, ff3, ff4]
          refine Lwp.regD hT hM ?_
          simp only [L24r19, go_sem, eq_self, Nat.reduceAdd, Nat.reduceSub, Nat.reduceLT, Nat.reduceLeDiff, Nat.reduceEqDiff, Nat.reduceDiv, Nat.reduceMod, Nat.reducePow, reduceCtorEq, decide_true, decide_false, Bool.false_eq_true, ty22, ty25, a3, a4, b3, b4, b5, b6, h1, g3, g4, pl]
          refine Lwp.regI hT ?_
          simp only [L24r15, go_sem, eq_self, Nat.reduceAdd, Nat.reduceLT, Nat.reduceEqDiff, reduceCtorEq, decide_true, h4]
          refine ⟨i + 1, ⟨by omega, by omega⟩, by omega, ?_⟩
          refine weak_of rfl ?_ ?_ ?_
          · (simp only [go_sem, eq_self, Nat.reduceEqDiff, reduceCtorEq]; try rfl)
          · (simp only [go_sem, eq_self, fs]; try rfl)
          · (simp only [go_sem, eq_self]; try rfl)
        · have hi3 : i = 80 := by omega
          subst hi3
          refine Lwp.seq (Lwp.regI hT ?_)
          simp only [L24r14, go_sem, eq_self, Nat.reduceAdd, Nat.reduceSub, Nat.reduceLT, Nat.reduceEqDiff, Int.reduceLT, reduceCtorEq, decide_true, decide_false, ty25]
          refine Lwp.cond rfl (fun h => by cases h) (fun _ => Lwp.exit ?_)
          simp only [go_sem, eq_self, pad80_full]
          have sl := schedL_len b 80
          refine Lwp.seq (Lwp.regI hT ?_)
          simp only [L24r20, go_sem, eq_self, Nat.reduceAdd, Nat.reduceLT, Nat.reduceEqDiff, reduceCtorEq, decide_true]
          refine Lwp.ret (post_val (v := .tup [.osl 5 0 80 1, .nili]) ?_ ?_)
          · simp only [go_sem, eq_self, Nat.reduceEqDiff, reduceCtorEq]
          · simp only [go_sem, eq_self, Nat.reduceLeDiff, reduceCtorEq, sl]
  · have e1 : schV b = .nils := by unfold schV; rw [if_neg hl]
    have e2 : schE b = .iface 34 (.int .i64 1) := by unfold schE; rw [if_neg hl]
    have b1 : (((b.length : Nat) : Int) != 128) = true := by simp only [bne_iff_ne, ne_eq]; omega
    refine Lwp.seq (Lwp.regI hT ?_)
    simp only [L24r1, go_sem, eq_self, Nat.reduceAdd, Nat.reduceLT, Nat.reduceEqDiff, reduceCtorEq, decide_true, ty24, b1]
    refine Lwp.cond rfl (fun _ => ?_) (fun h => by cases h)
    refine Lwp.seq (Lwp.regI hT ?_)
    simp only [L24r2, go_sem, eq_self, Nat.reduceAdd, Nat.reduceLT, Nat.reduceEqDiff, reduceCtorEq, decide_true, ty34]
    refine Lwp.ret (post_val (v := .tup [.nils, .iface 34 (.int .i64 1)]) ?_ ?_)
    · simp only [go_sem, eq_self, Nat.reduceEqDiff, reduceCtorEq]
    · simp only [go_sem, eq_self, e1, e2]

end Eng


namespace Eng
open Go Go.Proofs
set_option linter.unusedSimpArgs false
set_option linter.unusedVariables false
abbrev A8 (l : List Int) : AV := .agg (ints .u64 l)
def fsL : List Int := [4794697086780616226, 8158064640168781261, 13096744586834688815, 16840607885511220156, 4131703408338449720, 6480981068601479193, 10538285296894168987, 12329834152419229976, 15566598209576043074, 1334009975649890238, 2608012711638119052, 6128411473006802146, 8268148722764581231, 9286055187155687089, 11230858885718282805, 13951009754708518548, 16472876342353939154, 17275323862435702243, 1135362057144423861, 2597628984639134821, 3308224258029322869, 5365058923640841347, 6679025012923562964, 8573033837759648693, 10970295158949994411, 12119686244451234320, 12683024718118986047, 13788192230050041572, 14330467153632333762, 15395433587784984357, 489312712824947311, 1452737877330783856, 2861767655752347644, 3322285676063803686, 5560940570517711597, 5996557281743188959, 7280758554555802590, 8532644243296465576, 9350256976987008742, 10552545826968843579]
def rsL : List Int := [11727347734174303076, 12113106623233404929, 14000437183269869457, 14369950271660146224, 15101387698204529176, 15463397548674623760, 17586052441742319658, 1182934255886127544, 1847814050463011016, 2177327727835720531, 2830643537854262169, 3796741975233480872, 4115178125766777443, 5681478168544905931, 6601373596472566643, 7507060721942968483, 8399075790359081724, 8693463985226723168, 9568029438360202098, 10144078919501101548, 10430055236837252648, 11840083180663258601, 13761210420658862357, 14299343276471374635, 14566680578165727644, 15097957966210449927, 16922976911328602910, 17689382322260857208, 500013540394364858, 748580250866718886, 1242879168328830382, 1977374033974150939, 2944078676154940804, 3659926193048069267, 4368137639120453308, 4836135668995329356, 5532061633213252278, 6448918945643986474, 6902733635092675308, 7801388544844847127]
def bgL : List Int := [14680500436340154072, 7105036623409894663, 10473403895298186519, 1526699215303891257, 7436329637833083697, 10282925794625328401, 15784041429090275239, 5167115440072839076]
theorem fs_len : fsL.length = 40 := rfl
theorem rs_len : rsL.length = 40 := rfl
theorem bg_len : bgL.length = 8 := rfl
theorem kTab_eq : kTab = fsL ++ rsL := by decide +kernel
theorem hTab_eq : hTab = bgL := by decide +kernel
theorem kTab_lo {i : Nat} (h : i < 40) : kTab.getD i 0 = fsL.getD i 0 := by
  rw [kTab_eq, List.getD_eq_getElem?_getD, List.getElem?_append_left (by rw [fs_len]; exact h), ← List.getD_eq_getElem?_getD]
theorem kTab_hi {i : Nat} (h : 40 ≤ i) : kTab.getD i 0 = rsL.getD (i - 40) 0 := by
  rw [kTab_eq, List.getD_eq_getElem?_getD, List.getElem?_append_right (by rw [fs_len]; exact h), ← List.getD_eq_getElem?_getD, fs_len]
theorem hTab_W8 : W8 hTab := by rw [hTab_eq]; exact ⟨rfl, by decide⟩
noncomputable def gG : List (Nat × List AV) := [(0, ints .u64 bgL), (1, ints .u64 fsL), (2, ints .u64 rsL)]

noncomputable def S26 : List AV → Option Ret := nz (sumOf (fun p : Nat => match p with | i => (i < 80)) (fun p : Nat => match p with | i => [.int .i64 i]) (fun p : Nat => match p with | i => ⟨.int .u64 (kTab.getD i 0), none⟩))
theorem S26_eq (i : Nat) (h0 : i < 80) : S26 [.int .i64 i] = some ⟨.int .u64 (kTab.getD i 0), none⟩ :=
  sumOf_eq (dom := (fun p : Nat => match p with | i => (i < 80))) (enc := (fun p : Nat => match p with | i => [.int .i64 i])) (out := (fun p : Nat => match p with | i => ⟨.int .u64 (kTab.getD i 0), none⟩)) i h0 (fun y _ e => by
    simp only [List.cons.injEq, AV.int.injEq, Int.ofNat_inj, true_and, and_true] at e
    first | with_reducible rfl | simp only [e] | rfl)
theorem S26_inv {args : List AV} {r : Ret} (h : sumOf (fun p : Nat => match p with | i => (i < 80)) (fun p : Nat => match p with | i => [.int .i64 i]) (fun p : Nat => match p with | i => ⟨.int .u64 (kTab.getD i 0), none⟩) args = some r) : ∃ (i : Nat), ((i < 80)) ∧ args = [.int .i64 i] ∧ r = ⟨.int .u64 (kTab.getD i 0), none⟩ := by
  obtain ⟨x, h1, h2, h3⟩ := sumOf_inv h
  exact ⟨x, h1, h2.symm, h3⟩

set_option maxRecDepth 100000 in
theorem snd26 : SndG Tryd.prog gG 26 S26 := by
  refine snd_nz (sndG_by (gl := gG) [] [] Tryd.func26 (by kernel_rfl) lite26 nt26 rs26 trivial trivial (fun hT args r h => ?_))
  obtain ⟨i, hd0, rfl, rfl⟩ := S26_inv h
  clear h
  have hM := hM0
  refine ⟨Nat.le_of_ble_eq_true rfl, fun F => ?_⟩
  unfold L26
  have h0 : (0 : Int) ≤ (i : Int) := by omega
  have fl := fs_len
  have sl := rs_len
  refine Lwp.seq (Lwp.regI hT ?_)
  simp only [L26r0, go_sem, eq_self, Nat.reduceLT, decide_true, gG]
  refine Lwp.seq ?_
  by_cases hi : i < 40
  · have c1 : (i : Int) < 40 := by omega
    have kt := kTab_lo hi
    rw [kt]
    refine Lwp.seq (Lwp.regI hT ?_)
    simp only [L26r1, go_sem, eq_self, Nat.reduceAdd, Nat.reduceLT, Nat.reduceEqDiff, reduceCtorEq, decide_true, gG, c1]
    refine Lwp.cond rfl (fun _ => ?_) (fun h => by cases h)
    refine Lwp.seq (Lwp.regI hT ?_)
    simp only [L26r2, go_sem, eq_self, Nat.reduceAdd, Nat.reduceLT, Nat.reduceLeDiff, Nat.reduceEqDiff, reduceCtorEq, decide_true, Bool.false_eq_true, ty22, ty66, gG, h0, c1, hi, fl]
    refine Lwp.ret (post_val (v := .int .u64 (fsL.getD i 0)) ?_ ?_)
    · simp only [go_sem, eq_self, Nat.reduceEqDiff, reduceCtorEq]
    · simp only [go_sem, eq_self]
  · have c1 : ¬ (i : Int) < 40 := by omega
    have kt := kTab_hi (show 40 ≤ i by omega)
    rw [kt]
    have w1 : IntKind.i64.wrap ((i : Int) - 40) = ((i - 40 : Nat) : Int) := by rw [wrap_i64 (by omega) (by omega)]; omega
    have d0 : (0 : Int) ≤ ((i - 40 : Nat) : Int) := by omega
    have d1 : ((i - 40 : Nat) : Int) < 40 := by omega
    have d2 : i - 40 < 40 := by omega
    refine Lwp.seq (Lwp.regI hT ?_)
    simp only [L26r1, go_sem, eq_self, Nat.reduceAdd, Nat.reduceLT, Nat.reduceEqDiff, reduceCtorEq, decide_true, decide_false, gG, c1]
    refine Lwp.cond rfl (fun h => by cases h) (fun _ => Lwp.skip ?_)
    simp only [go_sem]
    refine Lwp.seq (Lwp.regI hT ?_)
    simp only [L26r3, go_sem, eq_self, Nat.reduceAdd, Nat.reduceLT, Nat.reduceLeDiff, Nat.reduceEqDiff, reduceCtorEq, decide_true, Bool.false_eq_true, ty22, ty66, gG, w1, d0, d1, d2, sl]
    refine Lwp.ret (post_val (v := .int .u64 (rsL.getD (i - 40) 0)) ?_ ?_)
    · simp only [go_sem, eq_self, Nat.reduceEqDiff, reduceCtorEq]
    · simp only [go_sem, eq_self]

/-- The rounds of a block's step. -/
def rnds (ws h : List Int) : Nat → List Int
  | 0 => h
  | i + 1 => roundR (rnds ws h i) (kTab.getD i 0) (ws.getD i 0)
theorem w64_U (x : Int) : 0 ≤ w64 x ∧ w64 x < 18446744073709551616 := by
  unfold w64; rw [wrap_u64_mod]; omega
theorem W8.at {v : List Int} (h : W8 v) (i : Nat) : 0 ≤ v.getD i 0 ∧ v.getD i 0 < 18446744073709551616 := by
  rcases Nat.lt_or_ge i v.length with hj | hj
  · rw [List.getD_eq_getElem?_getD, List.getElem?_eq_getElem hj, Option.getD_some]
    exact h.2 _ (List.getElem_mem hj)
  · rw [List.getD_eq_getElem?_getD, List.getElem?_eq_none hj]
    exact ⟨by decide, by decide⟩
theorem roundR_W8 {v : List Int} (h : W8 v) (k w : Int) : W8 (roundR v k w) := by
  refine ⟨rfl, fun x hx => ?_⟩
  simp only [roundR, List.mem_cons, List.not_mem_nil, or_false] at hx
  rcases hx with rfl | rfl | rfl | rfl | rfl | rfl | rfl | rfl
  · exact w64_U _
  · exact h.at 0
  · exact h.at 1
  · exact h.at 2
  · exact w64_U _
  · exact h.at 4
  · exact h.at 5
  · exact h.at 6
theorem rnds_W8 {h : List Int} (hh : W8 h) (ws : List Int) : ∀ i, W8 (rnds ws h i)
  | 0 => hh
  | i + 1 => roundR_W8 (rnds_W8 hh ws i) _ _
def sumP (h v : List Int) (i : Nat) : List Int := tab 8 (fun j => if j < i then w64 (h.getD j 0 + v.getD j 0) else h.getD j 0)
def sumW (h v : List Int) : List Int := tab 8 (fun j => w64 (h.getD j 0 + v.getD j 0))
theorem sumP_len (h v : List Int) (i : Nat) : (sumP h v i).length = 8 := tab_len _ _
theorem sumP_zero {h : List Int} (hl : h.length = 8) (v : List Int) : sumP h v 0 = h := (eq_tab hl fun j _ => by simp).symm
theorem sumP_full (h v : List Int) : sumP h v 8 = sumW h v := tab_ext fun j hj => by simp [hj]
theorem sumP_set (h v : List Int) (i : Nat) : (sumP h v i).set i (w64 (h.getD i 0 + v.getD i 0)) = sumP h v (i + 1) := tab_set _ _ _ _ _ fun j _ => by
  by_cases e : j = i
  · subst e; simp
  · rw [if_neg e]
    by_cases hj : j < i
    · rw [if_pos hj, if_pos (by omega)]
    · rw [if_neg hj, if_neg (by omega)]
theorem sumP_at (h v : List Int) {i : Nat} (hi : i < 8) : (sumP h v i).getD i 0 = h.getD i 0 := by
  unfold sumP; rw [tab_getD _ _ hi]; simp
/-- The step of a block. -/
def stepV (h b : List Int) : List Int := sumW h (rnds (schedL b 80) h 80)
theorem stepV_W8 (h b : List Int) : W8 (stepV h b) := by
  refine ⟨tab_len _ _, fun x hx => ?_⟩
  unfold stepV sumW tab at hx
  obtain ⟨j, _, rfl⟩ := List.mem_map.1 hx
  exact w64_U _

noncomputable def stepA (h b : List Int) : List Int := if b.length = 128 then stepV h b else List.replicate 8 0

def St11 (ws h : List Int) (i : Nat) : AState := { nt := 48, env := [(2, .own 0 0), (4, .own 1 0), (5, .nili), (6, .slc 80 (ints .u64 ws)), (7, .nili), (8, .own 13 0), (22, .slc 80 (ints .u64 ws)), (23, .int .i64 80), (24, .int .i64 i)], mem := [(0, ints .u64 h), (1, ints .u64 (List.replicate 8 0)), (13, ints .u64 (rnds ws h i))], next := 100 }
def St11b (h v : List Int) (i : Nat) : AState := { nt := 48, env := [(2, .own 0 0), (4, .own 1 0), (5, .nili), (8, .own 13 0), (35, .int .i64 i)], mem := [(0, ints .u64 (sumP h v i)), (1, ints .u64 (List.replicate 8 0)), (13, ints .u64 v)], next := 100 }

noncomputable def S11 : List AV → Option Ret := nz (sumOf (fun p : List Int × List Int => match p with | (h, b) => (W8 h) ∧ (U8L b) ∧ (b.length ≤ 9223372036854775807)) (fun p : List Int × List Int => match p with | (h, b) => [A8 h, .slc b.length (ints .u8 b)]) (fun p : List Int × List Int => match p with | (h, b) => ⟨.tup [A8 (stepA h b), schE b], none⟩))
theorem S11_eq (h : List Int) (b : List Int) (h0 : W8 h) (h1 : U8L b) (h2 : b.length ≤ 9223372036854775807) : S11 [A8 h, .slc b.length (ints .u8 b)] = some ⟨.tup [A8 (stepA h b), schE b], none⟩ :=
  sumOf_eq (dom := (fun p : List Int × List Int => match p with | (h, b) => (W8 h) ∧ (U8L b) ∧ (b.length ≤ 9223372036854775807))) (enc := (fun p : List Int × List Int => match p with | (h, b) => [A8 h, .slc b.length (ints .u8 b)])) (out := (fun p : List Int × List Int => match p with | (h, b) => ⟨.tup [A8 (stepA h b), schE b], none⟩)) (h, b) ⟨h0, h1, h2⟩ (fun y _ e => by
    obtain ⟨y0, y1⟩ := y
    simp only [List.cons.injEq, AV.agg.injEq, AV.slc.injEq, ints_injEq, and_true] at e
    first | with_reducible rfl | simp only [e] | rfl)
theorem S11_inv {args : List AV} {r : Ret} (h : sumOf (fun p : List Int × List Int => match p with | (h, b) => (W8 h) ∧ (U8L b) ∧ (b.length ≤ 9223372036854775807)) (fun p : List Int × List Int => match p with | (h, b) => [A8 h, .slc b.length (ints .u8 b)]) (fun p : List Int × List Int => match p with | (h, b) => ⟨.tup [A8 (stepA h b), schE b], none⟩) args = some r) : ∃ (h : List Int) (b : List Int), ((W8 h) ∧ (U8L b) ∧ (b.length ≤ 9223372036854775807)) ∧ args = [A8 h, .slc b.length (ints .u8 b)] ∧ r = ⟨.tup [A8 (stepA h b), schE b], none⟩ := by
  obtain ⟨x, h1, h2, h3⟩ := sumOf_inv h
  obtain ⟨h, b⟩ := x
  exact ⟨h, b, h1, h2.symm, h3⟩

set_option maxRecDepth 100000 in
theorem snd11 : SndG Tryd.prog gG 11 S11 := by
  refine snd_nz (sndG_by (gl := gG) [(24, S24), (25, S25), (26, S26)] [] Tryd.func11 (by kernel_rfl) lite11 nt11 rs11 ⟨(by first | exact snd24 | exact snd24.toG | exact SndE.mono up_C snd24 | exact SndE.mono up_D snd24 | exact SndE.mono up_N snd24), (by first | exact snd25 | exact snd25.toG | exact SndE.mono up_C snd25 | exact SndE.mono up_D snd25 | exact SndE.mono up_N snd25), (by first | exact snd26 | exact snd26.toG | exact SndE.mono up_C snd26 | exact SndE.mono up_D snd26 | exact SndE.mono up_N snd26), trivial⟩ trivial (fun hT args r h => ?_))
  obtain ⟨h, b, ⟨hd0, hd1, hd2⟩, rfl, rfl⟩ := S11_inv h
  clear h
  have hM := hM0
  refine ⟨Nat.le_of_ble_eq_true rfl, fun F => ?_⟩
  unfold L11
  have hl := hd0.1
  have rl : (List.replicate 8 (0 : Int)).length = 8 := rfl
  have f24 := S24_eq b hd1 hd2
  by_cases h1 : b.length = 128
  · have e1 : schV b = .slc 80 (ints .u64 (schedL b 80)) := by unfold schV; rw [if_pos h1]
    have e2 : schE b = .nili := by unfold schE; rw [if_pos h1]
    have e3 : stepA h b = stepV h b := by unfold stepA; rw [if_pos h1]
    rw [e1, e2] at f24
    rw [e2, e3]
    unfold stepV
    have wl := schedL_len b 80
    generalize schedL b 80 = ws at *
    refine Lwp.seq (Lwp.regI hT ?_)
    simp only [L11r0, go_sem, eq_self, Nat.reduceAdd, Nat.reduceLT, reduceCtorEq, decide_true, ty23, gG]
    refine Lwp.seq (Lwp.regI hT ?_)
    simp only [L11r1, go_sem, eq_self, Nat.reduceAdd, Nat.reduceLT, Nat.reduceEqDiff, reduceCtorEq, decide_true, Bool.false_eq_true, gG, f24]
    refine Lwp.seq ?_
    refine Lwp.seq (Lwp.regI hT ?_)
    simp only [L11r2, go_sem, isC, eq_self, Nat.reduceAdd, Nat.reduceLT, Nat.reduceEqDiff, reduceCtorEq, decide_true, ty30, gG]
    refine Lwp.cond rfl (fun h => by cases h) (fun _ => Lwp.skip ?_)
    simp only [go_sem]
    refine Lwp.seq (Lwp.regI hT ?_)
    simp only [L11r4, go_sem, eq_self, Nat.reduceAdd, Nat.reduceLT, Nat.reduceLeDiff, Nat.reduceEqDiff, reduceCtorEq, decide_true, ty23, gG, hl]
    refine Lwp.seq ?_
    refine Lwp.seq (Lwp.regI hT ?_)
    simp only [L11r5, go_sem, eq_self, Nat.reduceAdd, Nat.reduceLT, Nat.reduceEqDiff, reduceCtorEq, decide_true, ty25, gG]
    refine Lwp.block (Lwp.range (St11 ws h) 80 ?_ (fun i hi => ?_) ?_)
    · refine weak_of rfl ?_ ?_ ?_
      · (simp only [go_sem, eq_self, Nat.reduceEqDiff, reduceCtorEq, St11, rnds]; try rfl)
      · (simp only [go_sem, eq_self, Nat.reduceEqDiff, reduceCtorEq, St11, rnds]; try rfl)
      · (simp only [go_sem, eq_self, Nat.reduceEqDiff, reduceCtorEq, St11, rnds]; try rfl)
    · unfold St11
      have c1 : (i : Int) < 80 := by omega
      have c0 : (0 : Int) ≤ (i : Int) := by omega
      have c3 : i ≤ 79 := by omega
      have w1 := wrap_succ hi (by decide)
      have f26 := S26_eq i hi
      have f25 := S25_eq (rnds ws h i) (kTab.getD i 0) (ws.getD i 0) (rnds_W8 hd0 ws i)
      have rl1 := (rnds_W8 hd0 ws i).1
      have rl2 := (rnds_W8 hd0 ws (i + 1)).1
      have re : roundR (rnds ws h i) (kTab.getD i 0) (ws.getD i 0) = rnds ws h (i + 1) := rfl
      rw [re] at f25
      generalize rnds ws h (i + 1) = r2 at *
      generalize rnds ws h i = r1 at *
      refine Lwp.seq (Lwp.regI hT ?_)
      simp only [L11r6, go_sem, eq_self, Nat.reduceAdd, Nat.reduceLT, Nat.reduceEqDiff, decide_true, gG, c1]
      refine Lwp.seq (Lwp.cond rfl (fun _ => Lwp.skip ?_) (fun h => by cases h))
      simp only [go_sem]
      refine Lwp.seq (Lwp.block ?_)
      refine Lwp.seq (Lwp.regI hT ?_)
      simp only [L11r7, go_sem, eq_self, Nat.reduceAdd, Nat.reduceLT, Nat.reduceLeDiff, Nat.reduceEqDiff, decide_true, Bool.false_eq_true, ty22, ty25, gG, c0, c1, hi, c3, wl]
      refine Lwp.regD hT hM ?_
      simp only [L11r8, go_sem, List.isEmpty_nil, eq_self, Nat.reduceAdd, Nat.reduceSub, Nat.reduceLT, Nat.reduceLeDiff, Nat.reduceEqDiff, Nat.reduceDiv, Nat.reduceMod, Nat.reducePow, reduceCtorEq, decide_true, decide_false, Bool.false_eq_true, ty23, gG, rl1, f26, f25, rl2]
      refine Lwp.regI hT ?_
      simp only [L11r9, go_sem, eq_self, Nat.reduceAdd, Nat.reduceLT, Nat.reduceEqDiff, decide_true, gG, w1]
      refine weak_of rfl ?_ ?_ ?_
      · (simp only [go_sem, eq_self, Nat.reduceEqDiff]; try rfl)
      · (simp only [go_sem, eq_self, Nat.reduceEqDiff, reduceCtorEq]; try rfl)
      · (simp only [go_sem, eq_self, Nat.reduceEqDiff, reduceCtorEq]; try rfl)
    · unfold St11
      refine Lwp.seq (Lwp.regI hT ?_)
      simp only [L11r6, go_sem, eq_self, Nat.reduceAdd, Nat.reduceLT, Nat.reduceEqDiff, Int.reduceLT, decide_true, decide_false, gG]
      refine Lwp.seq (Lwp.cond rfl (fun h => by cases h) (fun _ => Lwp.exit ?_))
      simp only [go_sem, eq_self]
      have vl := (rnds_W8 hd0 ws 80).1
      generalize rnds ws h 80 = v at *
      refine Lwp.seq ?_
      refine Lwp.seq (Lwp.regI hT ?_)
      simp only [L11r10, go_sem, eq_self, Nat.reduceAdd, Nat.reduceLT, decide_true, gG]
      refine Lwp.block (Lwp.range (St11b h v) 8 ?_ (fun i hi => ?_) ?_)
      · refine weak_of rfl ?_ ?_ ?_
        · (simp only [go_sem, eq_self, Nat.reduceEqDiff, St11b, sumP_zero hl]; try rfl)
        · (simp only [go_sem, eq_self, Nat.reduceEqDiff, reduceCtorEq, St11b, sumP_zero hl]; try rfl)
        · (simp only [go_sem, eq_self, Nat.reduceEqDiff, reduceCtorEq, St11b, sumP_zero hl]; try rfl)
      · unfold St11b
        have c1 : (i : Int) < 8 := by omega
        have c0 : (0 : Int) ≤ (i : Int) := by omega
        have c3 : i ≤ 7 := by omega
        have w1 := wrap_succ hi (by decide)
        have pl := sumP_len h v i
        have pa := sumP_at h v hi
        have ps := sumP_set h v i
        have wr : IntKind.u64.wrap (h.getD i 0 + v.getD i 0) = w64 (h.getD i 0 + v.getD i 0) := rfl
        refine Lwp.seq (Lwp.regI hT ?_)
        simp only [L11r11, go_sem, eq_self, Nat.reduceAdd, Nat.reduceLT, Nat.reduceEqDiff, decide_true, gG, c1]
        refine Lwp.seq (Lwp.cond rfl (fun _ => Lwp.skip ?_) (fun h => by cases h))
        simp only [go_sem]
        refine Lwp.seq (Lwp.block ?_)
        refine Lwp.seq (Lwp.regI hT ?_)
        simp only [L11r12, go_sem, eq_self, Nat.reduceAdd, Nat.reduceLT, Nat.reduceEqDiff, decide_true, gG]
        refine Lwp.regD hT hM ?_
        simp only [L11r13, go_sem, eq_self, Nat.reduceAdd, Nat.reduceSub, Nat.reduceLT, Nat.reduceLeDiff, Nat.reduceEqDiff, Nat.reduceDiv, Nat.reduceMod, Nat.reducePow, reduceCtorEq, decide_true, decide_false, Bool.false_eq_true, ty22, ty23, gG, c0, c1, hi, c3, pl, vl, pa, wr]
        refine Lwp.regI hT ?_
        simp only [L11r14, go_sem, eq_self, Nat.reduceAdd, Nat.reduceLT, Nat.reduceEqDiff, decide_true, gG, w1]
        refine weak_of rfl ?_ ?_ ?_
        · (simp only [go_sem, eq_self, Nat.reduceEqDiff]; try rfl)
        · (simp only [go_sem, eq_self, Nat.reduceEqDiff, reduceCtorEq, ps]; try rfl)
        · (simp only [go_sem, eq_self, Nat.reduceEqDiff, reduceCtorEq]; try rfl)
      · unfold St11b
        refine Lwp.seq (Lwp.regI hT ?_)
        simp only [L11r11, go_sem, eq_self, Nat.reduceAdd, Nat.reduceLT, Nat.reduceEqDiff, Int.reduceLT, decide_true, decide_false, gG]
        refine Lwp.seq (Lwp.cond rfl (fun h => by cases h) (fun _ => Lwp.exit ?_))
        simp only [go_sem, eq_self]
        rw [sumP_full]
        have sl : (sumW h v).length = 8 := tab_len _ _
        generalize sumW h v = o at *
        refine Lwp.seq (Lwp.regI hT ?_)
        simp only [L11r15, go_sem, eq_self, Nat.reduceAdd, Nat.reduceLT, Nat.reduceLeDiff, Nat.reduceEqDiff, reduceCtorEq, decide_true, ty23, gG, sl, rl]
        refine Lwp.ret (post_val (v := .tup [A8 o, .nili]) ?_ ?_)
        · simp only [go_sem, eq_self, Nat.reduceLT, Nat.reduceLeDiff, Nat.reduceEqDiff, reduceCtorEq, ty23, sl]
        · simp only [go_sem, eq_self]
  · have e1 : schV b = .nils := by unfold schV; rw [if_neg h1]
    have e2 : schE b = .iface 34 (.int .i64 1) := by unfold schE; rw [if_neg h1]
    have e3 : stepA h b = List.replicate 8 0 := by unfold stepA; rw [if_neg h1]
    rw [e1, e2] at f24
    rw [e2, e3]
    refine Lwp.seq (Lwp.regI hT ?_)
    simp only [L11r0, go_sem, eq_self, Nat.reduceAdd, Nat.reduceLT, reduceCtorEq, decide_true, ty23, gG]
    refine Lwp.seq (Lwp.regI hT ?_)
    simp only [L11r1, go_sem, eq_self, Nat.reduceAdd, Nat.reduceLT, Nat.reduceEqDiff, reduceCtorEq, decide_true, gG, f24]
    refine Lwp.seq ?_
    refine Lwp.seq (Lwp.regI hT ?_)
    simp only [L11r2, go_sem, eq_self, Nat.reduceAdd, Nat.reduceLT, Nat.reduceEqDiff, reduceCtorEq, decide_true, ty30, gG]
    refine Lwp.cond rfl (fun _ => ?_) (fun h => by cases h)
    refine Lwp.seq (Lwp.regI hT ?_)
    simp only [L11r3, go_sem, eq_self, Nat.reduceAdd, Nat.reduceLT, Nat.reduceLeDiff, Nat.reduceEqDiff, reduceCtorEq, decide_true, ty23, gG, rl]
    refine Lwp.ret (post_val (v := .tup [A8 (List.replicate 8 0), .iface 34 (.int .i64 1)]) ?_ ?_)
    · simp only [go_sem, eq_self, Nat.reduceLT, Nat.reduceLeDiff, Nat.reduceEqDiff, reduceCtorEq, ty23, rl]
    · simp only [go_sem, eq_self]

end Eng


namespace Eng
open Go Go.Proofs
set_option linter.unusedSimpArgs false
set_option linter.unusedVariables false
/-- How many noughts stand behind n bytes and one. -/
def zN (n : Nat) : Nat := (239 - n % 128) % 128
def padZ (k : Nat) : List Int := 128 :: List.replicate k 0
def padL (n : Nat) : List Int := padZ (zN n) ++ bytesBE 16 (8 * n)
theorem padZ_len (k : Nat) : (padZ k).length = k + 1 := by simp [padZ]
theorem padZ_succ (k : Nat) : padZ k ++ [0] = padZ (k + 1) := by simp [padZ, List.replicate_succ']
theorem padL_len (n : Nat) : (padL n).length = zN n + 17 := by rw [padL, List.length_append, padZ_len, bytesBE_len]
theorem zN_lt (n : Nat) : zN n < 128 := Nat.mod_lt _ (by decide)
theorem padZ_U8 (k : Nat) : U8L (padZ k) := by
  intro x hx
  simp only [padZ, List.mem_cons, List.mem_replicate] at hx
  rcases hx with rfl | ⟨_, rfl⟩ <;> decide
theorem padL_U8 (n : Nat) : U8L (padL n) := by
  intro x hx
  rw [padL, List.mem_append] at hx
  rcases hx with h | h
  · exact padZ_U8 _ _ h
  · exact bytesBE_U8 _ _ _ h
theorem zN_stop (n k : Nat) (hk : k ≤ zN n) : ((n + (k + 1)) % 128 = 112) ↔ k = zN n := by
  unfold zN at *
  omega
theorem take_bytes {n x j : Nat} (hj : j < n) : (bytesBE n x).take j ++ [((x / 256 ^ (n - 1 - j) % 256 : Nat) : Int)] = (bytesBE n x).take (j + 1) := by
  rw [List.take_add_one]
  congr 1
  rw [List.getElem?_eq_getElem (by rw [bytesBE_len]; exact hj)]
  simp [bytesBE, tab]

def padV (n : Int) : AV := if 0 ≤ n ∧ n ≤ 1125899906842624 then .slc (padL n.toNat).length (ints .u8 (padL n.toNat)) else .nils
def padE (n : Int) : AV := if 0 ≤ n ∧ n ≤ 1125899906842624 then .nili else .iface 34 (.int .i64 1)

noncomputable def S16 : List AV → Option Ret := nz (sumOf (fun p : Int => match p with | n => (I64 n)) (fun p : Int => match p with | n => [.int .i64 n]) (fun p : Int => match p with | n => ⟨.tup [padV n, padE n], none⟩))
theorem S16_eq (n : Int) (h0 : I64 n) : S16 [.int .i64 n] = some ⟨.tup [padV n, padE n], none⟩ :=
  sumOf_eq (dom := (fun p : Int => match p with | n => (I64 n))) (enc := (fun p : Int => match p with | n => [.int .i64 n])) (out := (fun p : Int => match p with | n => ⟨.tup [padV n, padE n], none⟩)) n h0 (fun y _ e => by
    simp only [List.cons.injEq, AV.int.injEq, true_and, and_true] at e
    first | with_reducible rfl | simp only [e] | rfl)
theorem S16_inv {args : List AV} {r : Ret} (h : sumOf (fun p : Int => match p with | n => (I64 n)) (fun p : Int => match p with | n => [.int .i64 n]) (fun p : Int => match p with | n => ⟨.tup [padV n, padE n], none⟩) args = some r) : ∃ (n : Int), ((I64 n)) ∧ args = [.int .i64 n] ∧ r = ⟨.tup [padV n, padE n], none⟩ := by
  obtain ⟨x, h1, h2, h3⟩ := sumOf_inv h
  exact ⟨x, h1, h2.symm, h3⟩


def St34 (n : Nat) (k : Nat) : AState := { nt := 44, env := [(0, .int .i64 n), (4, .osl 8 0 (k + 1) 1)], mem := [(8, ints .u8 (padZ k))], next := 20 }
def St34i (n : Nat) (N : Nat) (j : Nat) : AState := { nt := 44, env := [(4, .osl 8 0 (zN n + 1 + j) 1), (5, .int .u64 N), (6, .int .i64 (15 - j))], mem := [(8, ints .u8 (padZ (zN n) ++ (bytesBE 16 N).take j))], next := 40 }

set_option maxRecDepth 100000 in
theorem snd16 : SndE Tryd.prog NoG 16 S16 := by
  refine snd_nz (snd_by [] [] Tryd.func16 (by kernel_rfl) lite16 nt16 rs16 trivial trivial (fun hT args r h => ?_))
  obtain ⟨n, hd0, rfl, rfl⟩ := S16_inv h
  clear h
  have hM := hM0
  refine ⟨Nat.le_of_ble_eq_true rfl, fun F => ?_⟩
  unfold L16
  refine Lwp.seq (Lwp.regI hT ?_)
  simp only [L16r0, go_sem, eq_self, Nat.reduceAdd, Nat.reduceLT, decide_true]
  refine Lwp.seq ?_
  by_cases hn0 : n < 0
  · have e1 : padV n = .nils := by unfold padV; rw [if_neg (by omega)]
    have e2 : padE n = .iface 34 (.int .i64 1) := by unfold padE; rw [if_neg (by omega)]
    refine Lwp.seq (Lwp.regI hT ?_)
    simp only [L16r1, go_sem, eq_self, Nat.reduceAdd, Nat.reduceLT, Nat.reduceEqDiff, reduceCtorEq, decide_true, hn0]
    refine Lwp.cond rfl (fun _ => ?_) (fun h => by cases h)
    refine Lwp.seq (Lwp.regI hT ?_)
    simp only [L16r2, go_sem, eq_self, Nat.reduceAdd, Nat.reduceLT, Nat.reduceEqDiff, reduceCtorEq, decide_true, ty34]
    refine Lwp.ret (post_val (v := .tup [.nils, .iface 34 (.int .i64 1)]) ?_ ?_)
    · simp only [go_sem, eq_self, Nat.reduceEqDiff, reduceCtorEq]
    · simp only [go_sem, eq_self, e1, e2]
  · by_cases hn1 : n > 1125899906842624
    · have e1 : padV n = .nils := by unfold padV; rw [if_neg (by omega)]
      have e2 : padE n = .iface 34 (.int .i64 1) := by unfold padE; rw [if_neg (by omega)]
      refine Lwp.seq (Lwp.regI hT ?_)
      simp only [L16r1, go_sem, eq_self, Nat.reduceAdd, Nat.reduceLT, Nat.reduceEqDiff, reduceCtorEq, decide_true, decide_false, Bool.false_eq_true, hn0, hn1]
      refine Lwp.cond rfl (fun _ => ?_) (fun h => by cases h)
      refine Lwp.seq (Lwp.regI hT ?_)
      simp only [L16r2, go_sem, eq_self, Nat.reduceAdd, Nat.reduceLT, Nat.reduceEqDiff, reduceCtorEq, decide_true, ty34]
      refine Lwp.ret (post_val (v := .tup [.nils, .iface 34 (.int .i64 1)]) ?_ ?_)
      · simp only [go_sem, eq_self, Nat.reduceEqDiff, reduceCtorEq]
      · simp only [go_sem, eq_self, e1, e2]
    · have e1 : padV n = .slc (padL n.toNat).length (ints .u8 (padL n.toNat)) := by unfold padV; rw [if_pos (by omega)]
      have e2 : padE n = .nili := by unfold padE; rw [if_pos (by omega)]
      refine Lwp.seq (Lwp.regI hT ?_)
      simp only [L16r1, go_sem, eq_self, Nat.reduceAdd, Nat.reduceLT, Nat.reduceEqDiff, reduceCtorEq, decide_true, decide_false, Bool.false_eq_true, hn0, hn1]
      refine Lwp.cond rfl (fun h => by cases h) (fun _ => Lwp.skip ?_)
      simp only [go_sem]
      obtain ⟨m, rfl⟩ : ∃ m : Nat, n = (m : Int) := ⟨n.toNat, by omega⟩
      have hm : m ≤ 1125899906842624 := by omega
      rw [e1, e2, Int.toNat_natCast]
      clear e1 e2 hn0 hn1 hd0
      refine Lwp.seq (Lwp.regI hT ?_)
      simp only [L16r3, go_sem, eq_self, Nat.reduceAdd, Nat.reduceLT, Nat.reduceLeDiff, Nat.reduceEqDiff, reduceCtorEq, decide_true, ty5, ty24]
      refine Lwp.seq (Lwp.block (Lwp.whl (St34 m) (fun k => k ≤ zN m) (fun k => zN m - k) 0 (Nat.zero_le _) ?_ ?_))
      · refine weak_of rfl ?_ ?_ ?_
        · (simp only [go_sem, eq_self, Nat.reduceEqDiff, reduceCtorEq, St34, padZ, List.replicate_zero, ints_cons, ints_nil]; try rfl)
        · (simp only [go_sem, eq_self, St34, padZ, List.replicate_zero, ints_cons, ints_nil]; try rfl)
        · (simp only [go_sem, eq_self, St34, padZ, List.replicate_zero, ints_cons, ints_nil]; try rfl)
      · intro k hk
        have hz := zN_lt m
        have pl := padZ_len k
        have w1 : IntKind.i64.wrap ((m : Int) + ((k + 1 : Nat) : Int)) = ((m + (k + 1) : Nat) : Int) := by rw [wrap_i64 (by omega) (by omega)]; omega
        have w2 : ((m + (k + 1) : Nat) : Int).tmod 128 = (((m + (k + 1)) % 128 : Nat) : Int) := by rw [Int.tmod_eq_emod_of_nonneg (Int.natCast_nonneg _)]; omega
        have hs := zN_stop m k hk
        unfold St34
        refine Lwp.seq ?_
        by_cases hkz : k = zN m
        · have b1 : ((((m + (k + 1)) % 128 : Nat) : Int) != 112) = false := by
            rw [hs.2 hkz]; rfl
          refine Lwp.seq (Lwp.regI hT ?_)
          simp only [L16r4, go_sem, eq_self, Nat.reduceAdd, Nat.reduceLT, Nat.reduceEqDiff, Int.reduceEq, reduceCtorEq, decide_true, ty24, w1, w2, b1]
          refine Lwp.cond rfl (fun h => by cases h) (fun _ => Lwp.exit ?_)
          simp only [go_sem, eq_self]
          subst hkz
          have c1 : IntKind.u64.wrap (m : Int) = m := wrap_u64 (by omega) (by omega)
          have c2 : IntKind.u64.wrap ((m : Int) * 8) = ((8 * m : Nat) : Int) := by rw [wrap_u64 (by omega) (by omega)]; omega
          refine Lwp.seq (Lwp.regI hT ?_)
          simp only [L16r6, go_sem, eq_self, Nat.reduceAdd, Nat.reduceLT, Nat.reduceEqDiff, reduceCtorEq, decide_true, ty3, ty22, c1, c2]
          refine Lwp.seq ?_
          refine Lwp.seq (Lwp.regI hT ?_)
          simp only [L16r7, go_sem, eq_self, Nat.reduceAdd, Nat.reduceLT, decide_true]
          refine Lwp.block (Lwp.whl (St34i m (8 * m)) (fun j => j ≤ 16) (fun j => 16 - j) 0 (Nat.zero_le _) ?_ ?_)
          · refine weak_of rfl ?_ ?_ ?_
            · (simp only [go_sem, eq_self, Nat.reduceEqDiff, Int.reduceSub, reduceCtorEq, St34i, List.take_zero, List.append_nil]; try rfl)
            · (simp only [go_sem, eq_self, Int.reduceSub, St34i, List.take_zero, List.append_nil]; try rfl)
            · (simp only [go_sem, eq_self, Int.reduceSub, St34i, List.take_zero, List.append_nil]; try rfl)
          · intro j hj
            have tl : ((bytesBE 16 (8 * m)).take j).length = j := by rw [List.length_take, bytesBE_len]; omega
            have al : (padZ (zN m) ++ (bytesBE 16 (8 * m)).take j).length = zN m + 1 + j := by rw [List.length_append, padZ_len, tl]
            have hz := zN_lt m
            have al2 : (zN m + 1 + j + 1) * 1 ≤ 140737488355328 := by omega
            have al3 : zN m + 1 + j ≤ 140737488355327 := by omega
            unfold St34i
            refine Lwp.seq ?_
            by_cases hj2 : j < 16
            · have hN : 8 * m < 18446744073709551616 := by omega
              have tb := take_bytes (n := 16) (x := 8 * m) hj2
              rw [show 16 - 1 - j = 15 - j by omega] at tb
              have j1 : (15 - (j : Int)) ≥ 0 := by omega
              have j2 : (15 - (j : Int)) = ((15 - j : Nat) : Int) := by omega
              have j3 : IntKind.i64.wrap (((15 - j : Nat) : Int) - 1) = 15 - ((j + 1 : Nat) : Int) := by rw [wrap_i64 (by omega) (by omega)]; omega
              rw [j2] at j1 ⊢
              have tb2 : padZ (zN m) ++ (bytesBE 16 (8 * m)).take j ++ [((8 * m / 256 ^ (15 - j) % 256 : Nat) : Int)] = padZ (zN m) ++ (bytesBE 16 (8 * m)).take (j + 1) := by rw [List.append_assoc, tb]
              refine Lwp.seq (Lwp.regI hT ?_)
              simp only [L16r8, go_sem, eq_self, Nat.reduceAdd, Nat.reduceLT, Nat.reduceEqDiff, decide_true, j1]
              refine Lwp.cond rfl (fun _ => Lwp.skip ?_) (fun h => by cases h)
              simp only [go_sem]
              refine Lwp.seq (Lwp.block ?_)
              refine Lwp.seq (Lwp.regI hT ?_)
              simp only [L16r10, go_sem, eq_self, Nat.reduceAdd, Nat.reduceLT, decide_true]
              refine Lwp.seq ?_
              by_cases h8 : 15 - j < 8
              · have b8 : ((15 - j : Nat) : Int) < 8 := by omega
                have s1 : IntKind.i64.wrap (8 * ((15 - j : Nat) : Int)) = ((8 * (15 - j) : Nat) : Int) := by rw [wrap_i64 (by omega) (by omega)]; omega
                have s2 := shr_byte (8 * m) (15 - j) h8
                have s3 : ¬ ((8 * (15 - j) : Nat) : Int) < 0 := by omega
                generalize 8 * m / 256 ^ (15 - j) % 256 = d at *
                generalize 8 * (15 - j) = u at *
                refine Lwp.seq (Lwp.regI hT ?_)
                simp only [L16r11, go_sem, eq_self, Nat.reduceAdd, Nat.reduceLT, Nat.reduceEqDiff, decide_true, b8]
                refine Lwp.cond rfl (fun _ => ?_) (fun h => by cases h)
                refine Lwp.regI hT ?_
                simp only [L16r12, go_sem, eq_self, Nat.reduceAdd, Nat.reduceLT, Nat.reduceEqDiff, decide_true, ty5, ty22, s1, s2, s3]
                refine Lwp.regI hT ?_
                simp only [L16r13, go_sem, eq_self, Nat.reduceAdd, Nat.reduceLT, Nat.reduceLeDiff, Nat.reduceEqDiff, Nat.reduceBEq, Nat.reduceBNe, decide_true, Bool.false_eq_true, ty5, ty24, al, al3]
                refine Lwp.regI hT ?_
                simp only [L16r9, go_sem, eq_self, Nat.reduceAdd, Nat.reduceLT, Nat.reduceEqDiff, decide_true, j3]
                refine ⟨j + 1, by omega, by omega, ?_⟩
                refine weak_of rfl ?_ ?_ ?_
                · (simp only [go_sem, eq_self, Nat.reduceEqDiff, Nat.add_assoc]; try rfl)
                · (simp only [go_sem, eq_self, Nat.reduceEqDiff, tb2]; try rfl)
                · (simp only [go_sem, eq_self]; try rfl)
              · have b8 : ¬ ((15 - j : Nat) : Int) < 8 := by omega
                have hz0 : 8 * m / 256 ^ (15 - j) % 256 = 0 := by
                  have hp : (256 : Nat) ^ 8 ≤ 256 ^ (15 - j) := Nat.pow_le_pow_right (by decide) (by omega)
                  have : 8 * m < 256 ^ (15 - j) := Nat.lt_of_lt_of_le (show 8 * m < 256 ^ 8 by omega) hp
                  rw [Nat.div_eq_of_lt this]
                rw [hz0] at tb2
                refine Lwp.seq (Lwp.regI hT ?_)
                simp only [L16r11, go_sem, eq_self, Nat.reduceAdd, Nat.reduceLT, Nat.reduceEqDiff, decide_true, decide_false, b8]
                refine Lwp.cond rfl (fun h => by cases h) (fun _ => Lwp.skip ?_)
                simp only [go_sem]
                refine Lwp.regI hT ?_
                simp only [L16r13, go_sem, eq_self, Nat.reduceAdd, Nat.reduceLT, Nat.reduceLeDiff, Nat.reduceEqDiff, Nat.reduceBEq, Nat.reduceBNe, decide_true, Bool.false_eq_true, ty5, ty24, al, al3]
                refine Lwp.regI hT ?_
                simp only [L16r9, go_sem, eq_self, Nat.reduceAdd, Nat.reduceLT, Nat.reduceEqDiff, decide_true, j3]
                refine ⟨j + 1, by omega, by omega, ?_⟩
                refine weak_of rfl ?_ ?_ ?_
                · (simp only [go_sem, eq_self, Nat.reduceEqDiff, Nat.add_assoc]; try rfl)
                · (simp only [go_sem, eq_self, Nat.reduceEqDiff, ← tb2]; try rfl)
                · (simp only [go_sem, eq_self, ← tb2]; try rfl)
            · have hj3 : j = 16 := by omega
              subst hj3
              refine Lwp.seq (Lwp.regI hT ?_)
              simp only [L16r8, go_sem, eq_self, Nat.reduceAdd, Nat.reduceSub, Nat.reduceLT, Nat.reduceEqDiff, Int.reduceGE, Int.reduceSub, Int.reduceNeg, decide_true, decide_false]
              refine Lwp.cond rfl (fun h => by cases h) (fun _ => Lwp.exit ?_)
              simp only [go_sem, eq_self, Int.reduceNeg]
              have t16 : (bytesBE 16 (8 * m)).take 16 = bytesBE 16 (8 * m) := List.take_of_length_le (by rw [bytesBE_len]; exact Nat.le_refl _)
              have pe : padZ (zN m) ++ bytesBE 16 (8 * m) = padL m := rfl
              have pl2 : (padL m).length = zN m + 1 + 16 := padL_len m
              refine Lwp.seq (Lwp.regI hT ?_)
              simp only [L16r14, go_sem, eq_self, Nat.reduceAdd, Nat.reduceLT, Nat.reduceEqDiff, Int.reduceNeg, decide_true]
              rw [pl2]
              refine Lwp.ret (post_val (v := .tup [.osl 8 0 (zN m + 1 + 16) 1, .nili]) ?_ ?_)
              · simp only [go_sem, eq_self, Nat.reduceEqDiff, Int.reduceNeg]
              · simp only [go_sem, eq_self, reduceCtorEq, t16, pe, pl2, Nat.le_refl]
        · have b1 : ((((m + (k + 1)) % 128 : Nat) : Int) != 112) = true := by
            have h2 : (m + (k + 1)) % 128 ≠ 112 := fun h => hkz (hs.1 h)
            simp only [bne_iff_ne, ne_eq]
            omega
          have a1 : (k + 1 + 1) * 1 ≤ 140737488355328 := by omega
          have a3 : k ≤ 140737488355326 := by omega
          have a2 := padZ_succ k
          refine Lwp.seq (Lwp.regI hT ?_)
          simp only [L16r4, go_sem, eq_self, Nat.reduceAdd, Nat.reduceLT, Nat.reduceEqDiff, Int.reduceEq, reduceCtorEq, decide_true, ty24, w1, w2, b1]
          refine Lwp.cond rfl (fun _ => Lwp.skip ?_) (fun h => by cases h)
          simp only [go_sem]
          refine Lwp.block ?_
          refine Lwp.regI hT ?_
          simp only [L16r5, go_sem, eq_self, Nat.reduceAdd, Nat.reduceLT, Nat.reduceLeDiff, Nat.reduceEqDiff, Nat.reduceBEq, Nat.reduceBNe, reduceCtorEq, decide_true, Bool.false_eq_true, ty5, ty24, pl, a3]
          refine ⟨k + 1, by omega, by omega, ?_⟩
          refine weak_of rfl ?_ ?_ ?_
          · (simp only [go_sem, eq_self, Nat.reduceEqDiff, reduceCtorEq]; try rfl)
          · (simp only [go_sem, eq_self, Nat.reduceEqDiff, a2]; try rfl)
          · (simp only [go_sem, eq_self]; try rfl)
end Eng

