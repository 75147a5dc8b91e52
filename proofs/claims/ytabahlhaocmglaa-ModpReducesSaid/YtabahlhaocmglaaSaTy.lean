/- Contracts of the program's functions, and laws over them. There is no further condition. -/
import Derived.Test.YtabahlhaocmglaaEC
import Derived.Test.YtabahlhaocmglaaChecked
import Derived.KernelRfl
set_option linter.unusedVariables false
set_option linter.unusedSimpArgs false
set_option exponentiation.threshold 2000
namespace Eng
open Go Go.Proofs
theorem tsame : True := trivial
theorem ty2 : tyOf Try.prog 2 = some ⟨.int .i64, 1, 8, [.int .i64 0], false, true, true⟩ := by kernel_rfl
theorem ty3 : tyOf Try.prog 3 = some ⟨.int .i64, 1, 8, [.int .i64 0], false, true, true⟩ := by kernel_rfl
theorem ty4 : tyOf Try.prog 4 = some ⟨.bool, 1, 1, [.bool false], false, true, true⟩ := by kernel_rfl
theorem ty5 : tyOf Try.prog 5 = some ⟨.int .u8, 1, 1, [.int .u8 0], false, true, true⟩ := by kernel_rfl
theorem ty6 : tyOf Try.prog 6 = some ⟨.int .u8, 1, 1, [.int .u8 0], false, true, true⟩ := by kernel_rfl
theorem ty7 : tyOf Try.prog 7 = some ⟨.struct #[⟨ "x", 2, 0, false, "", "runtime", 0⟩, ⟨ "y", 3, 1, false, "", "runtime", 8⟩, ⟨ "signed", 4, 2, false, "", "runtime", 16⟩, ⟨ "code", 6, 3, false, "", "runtime", 17⟩], 4, 24, [.int .i64 0, .int .i64 0, .bool false, .int .u8 0], true, true, true⟩ := by kernel_rfl
theorem ty8 : tyOf Try.prog 8 = some ⟨.struct #[⟨ "x", 2, 0, false, "", "runtime", 0⟩, ⟨ "y", 3, 1, false, "", "runtime", 8⟩, ⟨ "signed", 4, 2, false, "", "runtime", 16⟩, ⟨ "code", 6, 3, false, "", "runtime", 17⟩], 4, 24, [.int .i64 0, .int .i64 0, .bool false, .int .u8 0], true, true, true⟩ := by kernel_rfl
theorem ty9 : tyOf Try.prog 9 = some ⟨.string, 1, 16, [.str ⟨#[]⟩], false, true, true⟩ := by kernel_rfl
theorem ty10 : tyOf Try.prog 10 = some ⟨.string, 1, 16, [.str ⟨#[]⟩], false, true, true⟩ := by kernel_rfl
theorem ty11 : tyOf Try.prog 11 = some ⟨.string, 1, 16, [.str ⟨#[]⟩], false, true, true⟩ := by kernel_rfl
theorem ty12 : tyOf Try.prog 12 = some ⟨.int .u64, 1, 8, [.int .u64 0], false, true, true⟩ := by kernel_rfl
theorem ty13 : tyOf Try.prog 13 = some ⟨.struct #[⟨ "msg", 9, 0, false, "", "runtime", 0⟩, ⟨ "addr", 12, 1, false, "", "runtime", 16⟩], 2, 24, [.str ⟨#[]⟩, .int .u64 0], true, true, true⟩ := by kernel_rfl
theorem ty14 : tyOf Try.prog 14 = some ⟨.struct #[⟨ "msg", 9, 0, false, "", "runtime", 0⟩, ⟨ "addr", 12, 1, false, "", "runtime", 16⟩], 2, 24, [.str ⟨#[]⟩, .int .u64 0], true, true, true⟩ := by kernel_rfl
theorem ty15 : tyOf Try.prog 15 = some ⟨.pointer 87, 1, 8, [.nilp], false, true, true⟩ := by kernel_rfl
theorem ty16 : tyOf Try.prog 16 = some ⟨.pointer 90, 1, 8, [.nilp], false, true, true⟩ := by kernel_rfl
theorem ty17 : tyOf Try.prog 17 = some ⟨.pointer 100, 1, 8, [.nilp], false, true, true⟩ := by kernel_rfl
theorem ty18 : tyOf Try.prog 18 = some ⟨.struct #[⟨ "typ", 17, 0, false, "", "internal/runtime/maps", 0⟩], 1, 8, [.nilp], true, true, true⟩ := by kernel_rfl
theorem ty19 : tyOf Try.prog 19 = some ⟨.struct #[⟨ "typ", 17, 0, false, "", "internal/runtime/maps", 0⟩], 1, 8, [.nilp], true, true, true⟩ := by kernel_rfl
theorem ty20 : tyOf Try.prog 20 = some ⟨.interface #[], 1, 16, [.nili], false, true, true⟩ := by kernel_rfl
theorem ty21 : tyOf Try.prog 21 = some ⟨.int .i32, 1, 4, [.int .i32 0], false, true, true⟩ := by kernel_rfl
theorem ty22 : tyOf Try.prog 22 = some ⟨.int .u64, 1, 8, [.int .u64 0], false, true, true⟩ := by kernel_rfl
theorem ty23 : tyOf Try.prog 23 = some ⟨.array 6 22, 6, 48, ints .u64 (List.replicate 6 0), true, true, true⟩ := by kernel_rfl
theorem ty24 : tyOf Try.prog 24 = some ⟨.array 6 22, 6, 48, ints .u64 (List.replicate 6 0), true, true, true⟩ := by kernel_rfl
theorem ty30 : tyOf Try.prog 30 = some ⟨.slice 5, 1, 24, [.nils], false, true, false⟩ := by kernel_rfl
theorem ty31 : tyOf Try.prog 31 = some ⟨.interface #[("Error", 85)], 1, 16, [.nili], false, true, true⟩ := by kernel_rfl
theorem ty32 : tyOf Try.prog 32 = some ⟨.interface #[("Error", 85)], 1, 16, [.nili], false, true, true⟩ := by kernel_rfl
theorem ty35 : tyOf Try.prog 35 = some ⟨.int .i64, 1, 8, [.int .i64 0], false, true, true⟩ := by kernel_rfl
theorem ty37 : tyOf Try.prog 37 = some ⟨.slice 22, 1, 24, [.nils], false, true, false⟩ := by kernel_rfl
theorem ty38 : tyOf Try.prog 38 = some ⟨.slice 22, 1, 24, [.nils], false, true, false⟩ := by kernel_rfl
theorem ty54 : tyOf Try.prog 54 = some ⟨.array 12 22, 12, 96, ints .u64 (List.replicate 12 0), true, true, true⟩ := by kernel_rfl
theorem ty55 : tyOf Try.prog 55 = some ⟨.array 12 22, 12, 96, ints .u64 (List.replicate 12 0), true, true, true⟩ := by kernel_rfl
theorem ty59 : tyOf Try.prog 59 = some ⟨.struct #[⟨ "M", 24, 0, false, "", "", 0⟩, ⟨ "Inv", 22, 6, false, "", "", 48⟩, ⟨ "Two", 24, 7, false, "", "", 56⟩], 13, 104, ints .u64 (List.replicate 13 0), true, true, true⟩ := by kernel_rfl
theorem ty60 : tyOf Try.prog 60 = some ⟨.struct #[⟨ "M", 24, 0, false, "", "", 0⟩, ⟨ "Inv", 22, 6, false, "", "", 48⟩, ⟨ "Two", 24, 7, false, "", "", 56⟩], 13, 104, ints .u64 (List.replicate 13 0), true, true, true⟩ := by kernel_rfl
theorem ty84 : tyOf Try.prog 84 = some ⟨.int .u64, 1, 8, [.int .u64 0], false, true, true⟩ := by kernel_rfl
theorem ty86 : tyOf Try.prog 86 = some ⟨.struct #[⟨ "_interface", 17, 0, false, "", "runtime", 0⟩, ⟨ "concrete", 17, 1, false, "", "runtime", 8⟩, ⟨ "asserted", 17, 2, false, "", "runtime", 16⟩, ⟨ "missingMethod", 9, 3, false, "", "runtime", 24⟩], 4, 40, [.nilp, .nilp, .nilp, .str ⟨#[]⟩], true, true, true⟩ := by kernel_rfl
theorem ty87 : tyOf Try.prog 87 = some ⟨.struct #[⟨ "_interface", 17, 0, false, "", "runtime", 0⟩, ⟨ "concrete", 17, 1, false, "", "runtime", 8⟩, ⟨ "asserted", 17, 2, false, "", "runtime", 16⟩, ⟨ "missingMethod", 9, 3, false, "", "runtime", 24⟩], 4, 40, [.nilp, .nilp, .nilp, .str ⟨#[]⟩], true, true, true⟩ := by kernel_rfl
theorem ty88 : tyOf Try.prog 88 = some ⟨.array 0 16, 0, 0, [], true, true, true⟩ := by kernel_rfl
theorem ty89 : tyOf Try.prog 89 = some ⟨.struct #[⟨ "_", 88, 0, false, "", "runtime", 0⟩], 0, 0, [], true, true, true⟩ := by kernel_rfl
theorem ty90 : tyOf Try.prog 90 = some ⟨.struct #[⟨ "_", 88, 0, false, "", "runtime", 0⟩], 0, 0, [], true, true, true⟩ := by kernel_rfl
theorem ty92 : tyOf Try.prog 92 = some ⟨.int .u32, 1, 4, [.int .u32 0], false, true, true⟩ := by kernel_rfl
theorem ty93 : tyOf Try.prog 93 = some ⟨.int .u8, 1, 1, [.int .u8 0], false, true, true⟩ := by kernel_rfl
theorem ty94 : tyOf Try.prog 94 = some ⟨.int .u8, 1, 1, [.int .u8 0], false, true, true⟩ := by kernel_rfl
theorem ty96 : tyOf Try.prog 96 = some ⟨.pointer 5, 1, 8, [.nilp], false, true, true⟩ := by kernel_rfl
theorem ty97 : tyOf Try.prog 97 = some ⟨.int .i32, 1, 4, [.int .i32 0], false, true, true⟩ := by kernel_rfl
theorem ty98 : tyOf Try.prog 98 = some ⟨.int .i32, 1, 4, [.int .i32 0], false, true, true⟩ := by kernel_rfl
theorem ty99 : tyOf Try.prog 99 = some ⟨.struct #[⟨ "Size_", 12, 0, false, "", "", 0⟩, ⟨ "PtrBytes", 12, 1, false, "", "", 8⟩, ⟨ "Hash", 92, 2, false, "", "", 16⟩, ⟨ "TFlag", 93, 3, false, "", "", 20⟩, ⟨ "Align_", 5, 4, false, "", "", 21⟩, ⟨ "FieldAlign_", 5, 5, false, "", "", 22⟩, ⟨ "Kind_", 94, 6, false, "", "", 23⟩, ⟨ "Equal", 95, 7, false, "", "", 24⟩, ⟨ "GCData", 96, 8, false, "", "", 32⟩, ⟨ "Str", 97, 9, false, "", "", 40⟩, ⟨ "PtrToThis", 98, 10, false, "", "", 44⟩], 11, 48, [.int .u64 0, .int .u64 0, .int .u32 0, .int .u8 0, .int .u8 0, .int .u8 0, .int .u8 0, .nilf, .nilp, .int .i32 0, .int .i32 0], true, true, false⟩ := by kernel_rfl
theorem ty100 : tyOf Try.prog 100 = some ⟨.struct #[⟨ "Size_", 12, 0, false, "", "", 0⟩, ⟨ "PtrBytes", 12, 1, false, "", "", 8⟩, ⟨ "Hash", 92, 2, false, "", "", 16⟩, ⟨ "TFlag", 93, 3, false, "", "", 20⟩, ⟨ "Align_", 5, 4, false, "", "", 21⟩, ⟨ "FieldAlign_", 5, 5, false, "", "", 22⟩, ⟨ "Kind_", 94, 6, false, "", "", 23⟩, ⟨ "Equal", 95, 7, false, "", "", 24⟩, ⟨ "GCData", 96, 8, false, "", "", 32⟩, ⟨ "Str", 97, 9, false, "", "", 40⟩, ⟨ "PtrToThis", 98, 10, false, "", "", 44⟩], 11, 48, [.int .u64 0, .int .u64 0, .int .u32 0, .int .u8 0, .int .u8 0, .int .u8 0, .int .u8 0, .nilf, .nilp, .int .i32 0, .int .i32 0], true, true, false⟩ := by kernel_rfl
theorem ty101 : tyOf Try.prog 101 = some ⟨.unsafePointer, 1, 8, [.nilp], false, true, true⟩ := by kernel_rfl
end Eng
