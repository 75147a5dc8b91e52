/- Contracts of the program's functions, and laws over them. There is no further condition. -/
import Derived.Test.YtdkmdjmpkjmflaaDoorED
import Derived.Test.YtdkmdjmpkjmflaaDoorChecked
import Derived.KernelRfl
set_option linter.unusedVariables false
set_option linter.unusedSimpArgs false
set_option linter.unusedSectionVars false
set_option exponentiation.threshold 2000
namespace Eng
open Go Go.Proofs
theorem ty4 : tyOf Tryd.prog 4 = some ⟨.bool, 1, 1, [.bool false], false, true, true⟩ := by kernel_rfl
theorem ty22 : tyOf Tryd.prog 22 = some ⟨.int .u64, 1, 8, [.int .u64 0], false, true, true⟩ := by kernel_rfl
theorem ty23 : tyOf Tryd.prog 23 = some ⟨.array 6 22, 6, 48, ints .u64 (List.replicate 6 0), true, true, true⟩ := by kernel_rfl
theorem ty24 : tyOf Tryd.prog 24 = some ⟨.array 6 22, 6, 48, ints .u64 (List.replicate 6 0), true, true, true⟩ := by kernel_rfl
theorem ty27 : tyOf Tryd.prog 27 = some ⟨.struct #[⟨ "X", 24, 0, false, "", "", 0⟩, ⟨ "Y", 24, 6, false, "", "", 48⟩, ⟨ "None", 4, 12, false, "", "", 96⟩], 13, 104, [.int .u64 0, .int .u64 0, .int .u64 0, .int .u64 0, .int .u64 0, .int .u64 0, .int .u64 0, .int .u64 0, .int .u64 0, .int .u64 0, .int .u64 0, .int .u64 0, .bool false], true, true, true⟩ := by kernel_rfl
theorem ty30 : tyOf Tryd.prog 30 = some ⟨.slice 22, 1, 24, [.nils], false, true, false⟩ := by kernel_rfl
theorem ty31 : tyOf Tryd.prog 31 = some ⟨.slice 22, 1, 24, [.nils], false, true, false⟩ := by kernel_rfl
theorem ty33 : tyOf Tryd.prog 33 = some ⟨.struct #[⟨ "None", 4, 0, false, "", "", 0⟩, ⟨ "X", 31, 1, false, "", "", 8⟩, ⟨ "Y", 31, 2, false, "", "", 32⟩], 3, 56, [.bool false, .nils, .nils], true, true, false⟩ := by kernel_rfl
theorem ty39 : tyOf Tryd.prog 39 = some ⟨.interface #[("Error", 105)], 1, 16, [.nili], false, true, true⟩ := by kernel_rfl
theorem ty43 : tyOf Tryd.prog 43 = some ⟨.int .i64, 1, 8, [.int .i64 0], false, true, true⟩ := by kernel_rfl
theorem ty65 : tyOf Tryd.prog 65 = some ⟨.struct #[⟨ "X", 24, 0, false, "", "", 0⟩, ⟨ "Y", 24, 6, false, "", "", 48⟩, ⟨ "Z", 24, 12, false, "", "", 96⟩], 18, 144, ints .u64 (List.replicate 18 0), true, true, true⟩ := by kernel_rfl
theorem ty82 : tyOf Tryd.prog 82 = some ⟨.struct #[⟨ "M", 24, 0, false, "", "", 0⟩, ⟨ "Inv", 22, 6, false, "", "", 48⟩, ⟨ "Two", 24, 7, false, "", "", 56⟩], 13, 104, ints .u64 (List.replicate 13 0), true, true, true⟩ := by kernel_rfl
theorem ty93 : tyOf Tryd.prog 93 = some ⟨.array 12 22, 12, 96, ints .u64 (List.replicate 12 0), true, true, true⟩ := by kernel_rfl
end Eng

