/- Contracts of the program's functions, and laws over them. There is no further condition. -/
import Derived.Test.YtmpebojnnlghiaaDoorED
import Derived.Test.YtmpebojnnlghiaaDoorChecked
import Derived.KernelRfl
set_option linter.unusedVariables false
set_option linter.unusedSimpArgs false
set_option exponentiation.threshold 2000
namespace Eng
open Go Go.Proofs
theorem tsame : True := trivial
theorem ty2 : tyOf Tryd.prog 2 = some ⟨.int .i64, 1, 8, [.int .i64 0], false, true, true⟩ := by kernel_rfl
theorem ty3 : tyOf Tryd.prog 3 = some ⟨.int .i64, 1, 8, [.int .i64 0], false, true, true⟩ := by kernel_rfl
theorem ty4 : tyOf Tryd.prog 4 = some ⟨.bool, 1, 1, [.bool false], false, true, true⟩ := by kernel_rfl
theorem ty5 : tyOf Tryd.prog 5 = some ⟨.int .u8, 1, 1, [.int .u8 0], false, true, true⟩ := by kernel_rfl
theorem ty6 : tyOf Tryd.prog 6 = some ⟨.int .u8, 1, 1, [.int .u8 0], false, true, true⟩ := by kernel_rfl
theorem ty7 : tyOf Tryd.prog 7 = some ⟨.struct #[⟨ "x", 2, 0, false, "", "runtime", 0⟩, ⟨ "y", 3, 1, false, "", "runtime", 8⟩, ⟨ "signed", 4, 2, false, "", "runtime", 16⟩, ⟨ "code", 6, 3, false, "", "runtime", 17⟩], 4, 24, [.int .i64 0, .int .i64 0, .bool false, .int .u8 0], true, true, true⟩ := by kernel_rfl
theorem ty8 : tyOf Tryd.prog 8 = some ⟨.struct #[⟨ "x", 2, 0, false, "", "runtime", 0⟩, ⟨ "y", 3, 1, false, "", "runtime", 8⟩, ⟨ "signed", 4, 2, false, "", "runtime", 16⟩, ⟨ "code", 6, 3, false, "", "runtime", 17⟩], 4, 24, [.int .i64 0, .int .i64 0, .bool false, .int .u8 0], true, true, true⟩ := by kernel_rfl
theorem ty9 : tyOf Tryd.prog 9 = some ⟨.string, 1, 16, [.str ⟨#[]⟩], false, true, true⟩ := by kernel_rfl
theorem ty10 : tyOf Tryd.prog 10 = some ⟨.string, 1, 16, [.str ⟨#[]⟩], false, true, true⟩ := by kernel_rfl
theorem ty11 : tyOf Tryd.prog 11 = some ⟨.string, 1, 16, [.str ⟨#[]⟩], false, true, true⟩ := by kernel_rfl
theorem ty12 : tyOf Tryd.prog 12 = some ⟨.int .u64, 1, 8, [.int .u64 0], false, true, true⟩ := by kernel_rfl
theorem ty13 : tyOf Tryd.prog 13 = some ⟨.struct #[⟨ "msg", 9, 0, false, "", "runtime", 0⟩, ⟨ "addr", 12, 1, false, "", "runtime", 16⟩], 2, 24, [.str ⟨#[]⟩, .int .u64 0], true, true, true⟩ := by kernel_rfl
theorem ty14 : tyOf Tryd.prog 14 = some ⟨.struct #[⟨ "msg", 9, 0, false, "", "runtime", 0⟩, ⟨ "addr", 12, 1, false, "", "runtime", 16⟩], 2, 24, [.str ⟨#[]⟩, .int .u64 0], true, true, true⟩ := by kernel_rfl
theorem ty15 : tyOf Tryd.prog 15 = some ⟨.pointer 80, 1, 8, [.nilp], false, true, true⟩ := by kernel_rfl
theorem ty16 : tyOf Tryd.prog 16 = some ⟨.pointer 83, 1, 8, [.nilp], false, true, true⟩ := by kernel_rfl
theorem ty17 : tyOf Tryd.prog 17 = some ⟨.pointer 93, 1, 8, [.nilp], false, true, true⟩ := by kernel_rfl
theorem ty18 : tyOf Tryd.prog 18 = some ⟨.struct #[⟨ "typ", 17, 0, false, "", "internal/runtime/maps", 0⟩], 1, 8, [.nilp], true, true, true⟩ := by kernel_rfl
theorem ty19 : tyOf Tryd.prog 19 = some ⟨.struct #[⟨ "typ", 17, 0, false, "", "internal/runtime/maps", 0⟩], 1, 8, [.nilp], true, true, true⟩ := by kernel_rfl
theorem ty20 : tyOf Tryd.prog 20 = some ⟨.interface #[], 1, 16, [.nili], false, true, true⟩ := by kernel_rfl
theorem ty21 : tyOf Tryd.prog 21 = some ⟨.int .i32, 1, 4, [.int .i32 0], false, true, true⟩ := by kernel_rfl
theorem ty22 : tyOf Tryd.prog 22 = some ⟨.int .u64, 1, 8, [.int .u64 0], false, true, true⟩ := by kernel_rfl
theorem ty23 : tyOf Tryd.prog 23 = some ⟨.array 6 22, 6, 48, ints .u64 (List.replicate 6 0), true, true, true⟩ := by kernel_rfl
theorem ty24 : tyOf Tryd.prog 24 = some ⟨.array 6 22, 6, 48, ints .u64 (List.replicate 6 0), true, true, true⟩ := by kernel_rfl
theorem ty27 : tyOf Tryd.prog 27 = some ⟨.slice 22, 1, 24, [.nils], false, true, false⟩ := by kernel_rfl
theorem ty28 : tyOf Tryd.prog 28 = some ⟨.slice 22, 1, 24, [.nils], false, true, false⟩ := by kernel_rfl
theorem ty38 : tyOf Tryd.prog 38 = some ⟨.slice 5, 1, 24, [.nils], false, true, false⟩ := by kernel_rfl
theorem ty39 : tyOf Tryd.prog 39 = some ⟨.interface #[("Error", 78)], 1, 16, [.nili], false, true, true⟩ := by kernel_rfl
theorem ty40 : tyOf Tryd.prog 40 = some ⟨.interface #[("Error", 78)], 1, 16, [.nili], false, true, true⟩ := by kernel_rfl
theorem ty43 : tyOf Tryd.prog 43 = some ⟨.int .i64, 1, 8, [.int .i64 0], false, true, true⟩ := by kernel_rfl
theorem ty51 : tyOf Tryd.prog 51 = some ⟨.struct #[⟨ "M", 24, 0, false, "", "", 0⟩, ⟨ "Inv", 22, 6, false, "", "", 48⟩, ⟨ "Two", 24, 7, false, "", "", 56⟩], 13, 104, ints .u64 (List.replicate 13 0), true, true, true⟩ := by kernel_rfl
theorem ty52 : tyOf Tryd.prog 52 = some ⟨.struct #[⟨ "M", 24, 0, false, "", "", 0⟩, ⟨ "Inv", 22, 6, false, "", "", 48⟩, ⟨ "Two", 24, 7, false, "", "", 56⟩], 13, 104, ints .u64 (List.replicate 13 0), true, true, true⟩ := by kernel_rfl
theorem ty59 : tyOf Tryd.prog 59 = some ⟨.int .u64, 1, 8, [.int .u64 0], false, true, true⟩ := by kernel_rfl
theorem ty74 : tyOf Tryd.prog 74 = some ⟨.array 12 22, 12, 96, ints .u64 (List.replicate 12 0), true, true, true⟩ := by kernel_rfl
theorem ty75 : tyOf Tryd.prog 75 = some ⟨.array 12 22, 12, 96, ints .u64 (List.replicate 12 0), true, true, true⟩ := by kernel_rfl
theorem ty79 : tyOf Tryd.prog 79 = some ⟨.struct #[⟨ "_interface", 17, 0, false, "", "runtime", 0⟩, ⟨ "concrete", 17, 1, false, "", "runtime", 8⟩, ⟨ "asserted", 17, 2, false, "", "runtime", 16⟩, ⟨ "missingMethod", 9, 3, false, "", "runtime", 24⟩], 4, 40, [.nilp, .nilp, .nilp, .str ⟨#[]⟩], true, true, true⟩ := by kernel_rfl
theorem ty80 : tyOf Tryd.prog 80 = some ⟨.struct #[⟨ "_interface", 17, 0, false, "", "runtime", 0⟩, ⟨ "concrete", 17, 1, false, "", "runtime", 8⟩, ⟨ "asserted", 17, 2, false, "", "runtime", 16⟩, ⟨ "missingMethod", 9, 3, false, "", "runtime", 24⟩], 4, 40, [.nilp, .nilp, .nilp, .str ⟨#[]⟩], true, true, true⟩ := by kernel_rfl
theorem ty81 : tyOf Tryd.prog 81 = some ⟨.array 0 16, 0, 0, [], true, true, true⟩ := by kernel_rfl
theorem ty82 : tyOf Tryd.prog 82 = some ⟨.struct #[⟨ "_", 81, 0, false, "", "runtime", 0⟩], 0, 0, [], true, true, true⟩ := by kernel_rfl
theorem ty83 : tyOf Tryd.prog 83 = some ⟨.struct #[⟨ "_", 81, 0, false, "", "runtime", 0⟩], 0, 0, [], true, true, true⟩ := by kernel_rfl
theorem ty85 : tyOf Tryd.prog 85 = some ⟨.int .u32, 1, 4, [.int .u32 0], false, true, true⟩ := by kernel_rfl
theorem ty86 : tyOf Tryd.prog 86 = some ⟨.int .u8, 1, 1, [.int .u8 0], false, true, true⟩ := by kernel_rfl
theorem ty87 : tyOf Tryd.prog 87 = some ⟨.int .u8, 1, 1, [.int .u8 0], false, true, true⟩ := by kernel_rfl
theorem ty89 : tyOf Tryd.prog 89 = some ⟨.pointer 5, 1, 8, [.nilp], false, true, true⟩ := by kernel_rfl
theorem ty90 : tyOf Tryd.prog 90 = some ⟨.int .i32, 1, 4, [.int .i32 0], false, true, true⟩ := by kernel_rfl
theorem ty91 : tyOf Tryd.prog 91 = some ⟨.int .i32, 1, 4, [.int .i32 0], false, true, true⟩ := by kernel_rfl
theorem ty92 : tyOf Tryd.prog 92 = some ⟨.struct #[⟨ "Size_", 12, 0, false, "", "", 0⟩, ⟨ "PtrBytes", 12, 1, false, "", "", 8⟩, ⟨ "Hash", 85, 2, false, "", "", 16⟩, ⟨ "TFlag", 86, 3, false, "", "", 20⟩, ⟨ "Align_", 5, 4, false, "", "", 21⟩, ⟨ "FieldAlign_", 5, 5, false, "", "", 22⟩, ⟨ "Kind_", 87, 6, false, "", "", 23⟩, ⟨ "Equal", 88, 7, false, "", "", 24⟩, ⟨ "GCData", 89, 8, false, "", "", 32⟩, ⟨ "Str", 90, 9, false, "", "", 40⟩, ⟨ "PtrToThis", 91, 10, false, "", "", 44⟩], 11, 48, [.int .u64 0, .int .u64 0, .int .u32 0, .int .u8 0, .int .u8 0, .int .u8 0, .int .u8 0, .nilf, .nilp, .int .i32 0, .int .i32 0], true, true, false⟩ := by kernel_rfl
theorem ty93 : tyOf Tryd.prog 93 = some ⟨.struct #[⟨ "Size_", 12, 0, false, "", "", 0⟩, ⟨ "PtrBytes", 12, 1, false, "", "", 8⟩, ⟨ "Hash", 85, 2, false, "", "", 16⟩, ⟨ "TFlag", 86, 3, false, "", "", 20⟩, ⟨ "Align_", 5, 4, false, "", "", 21⟩, ⟨ "FieldAlign_", 5, 5, false, "", "", 22⟩, ⟨ "Kind_", 87, 6, false, "", "", 23⟩, ⟨ "Equal", 88, 7, false, "", "", 24⟩, ⟨ "GCData", 89, 8, false, "", "", 32⟩, ⟨ "Str", 90, 9, false, "", "", 40⟩, ⟨ "PtrToThis", 91, 10, false, "", "", 44⟩], 11, 48, [.int .u64 0, .int .u64 0, .int .u32 0, .int .u8 0, .int .u8 0, .int .u8 0, .int .u8 0, .nilf, .nilp, .int .i32 0, .int .i32 0], true, true, false⟩ := by kernel_rfl
theorem ty94 : tyOf Tryd.prog 94 = some ⟨.unsafePointer, 1, 8, [.nilp], false, true, true⟩ := by kernel_rfl
end Eng
