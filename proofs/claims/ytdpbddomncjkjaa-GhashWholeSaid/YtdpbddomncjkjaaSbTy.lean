/- Contracts of the program's functions, and laws over them. There is no further condition. -/
import Derived.Test.YtdpbddomncjkjaaEngW
import Derived.Test.YtdpbddomncjkjaaChecked
import Derived.KernelRfl
set_option linter.unusedVariables false
set_option linter.unusedSimpArgs false
set_option exponentiation.threshold 2000
namespace Eng
open Go Go.Proofs
theorem tsame : True := trivial
theorem ty2 : tyOf Try.prog 2 = some ⟨.int .i64, 1, 8, [.int .i64 0], false, true, true⟩ := by kernel_rfl
theorem ty3 : tyOf Try.prog 3 = some ⟨.int .i64, 1, 8, [.int .i64 0], false, true, true⟩ := by kernel_rfl
theorem ty4 : tyOf Try.prog 4 = some ⟨.bool, 1, 1, [.bool false], false, true, true⟩ := by kernel_rfl
theorem ty5 : tyOf Try.prog 5 = some ⟨.int .u8, 1, 1, [.int .u8 0], false, true, true⟩ := by kernel_rfl
theorem ty6 : tyOf Try.prog 6 = some ⟨.int .u8, 1, 1, [.int .u8 0], false, true, true⟩ := by kernel_rfl
theorem ty7 : tyOf Try.prog 7 = some ⟨.struct #[⟨ "x", 2, 0, false, "", "runtime", 0⟩, ⟨ "y", 3, 1, false, "", "runtime", 8⟩, ⟨ "signed", 4, 2, false, "", "runtime", 16⟩, ⟨ "code", 6, 3, false, "", "runtime", 17⟩], 4, 24, [.int .i64 0, .int .i64 0, .bool false, .int .u8 0], true, true, true⟩ := by kernel_rfl
theorem ty8 : tyOf Try.prog 8 = some ⟨.struct #[⟨ "x", 2, 0, false, "", "runtime", 0⟩, ⟨ "y", 3, 1, false, "", "runtime", 8⟩, ⟨ "signed", 4, 2, false, "", "runtime", 16⟩, ⟨ "code", 6, 3, false, "", "runtime", 17⟩], 4, 24, [.int .i64 0, .int .i64 0, .bool false, .int .u8 0], true, true, true⟩ := by kernel_rfl
theorem ty9 : tyOf Try.prog 9 = some ⟨.string, 1, 16, [.str ⟨#[]⟩], false, true, true⟩ := by kernel_rfl
theorem ty10 : tyOf Try.prog 10 = some ⟨.string, 1, 16, [.str ⟨#[]⟩], false, true, true⟩ := by kernel_rfl
theorem ty11 : tyOf Try.prog 11 = some ⟨.string, 1, 16, [.str ⟨#[]⟩], false, true, true⟩ := by kernel_rfl
theorem ty12 : tyOf Try.prog 12 = some ⟨.int .u64, 1, 8, [.int .u64 0], false, true, true⟩ := by kernel_rfl
theorem ty13 : tyOf Try.prog 13 = some ⟨.struct #[⟨ "msg", 9, 0, false, "", "runtime", 0⟩, ⟨ "addr", 12, 1, false, "", "runtime", 16⟩], 2, 24, [.str ⟨#[]⟩, .int .u64 0], true, true, true⟩ := by kernel_rfl
theorem ty14 : tyOf Try.prog 14 = some ⟨.struct #[⟨ "msg", 9, 0, false, "", "runtime", 0⟩, ⟨ "addr", 12, 1, false, "", "runtime", 16⟩], 2, 24, [.str ⟨#[]⟩, .int .u64 0], true, true, true⟩ := by kernel_rfl
theorem ty15 : tyOf Try.prog 15 = some ⟨.pointer 102, 1, 8, [.nilp], false, true, true⟩ := by kernel_rfl
theorem ty16 : tyOf Try.prog 16 = some ⟨.pointer 105, 1, 8, [.nilp], false, true, true⟩ := by kernel_rfl
theorem ty17 : tyOf Try.prog 17 = some ⟨.pointer 114, 1, 8, [.nilp], false, true, true⟩ := by kernel_rfl
theorem ty18 : tyOf Try.prog 18 = some ⟨.struct #[⟨ "typ", 17, 0, false, "", "internal/runtime/maps", 0⟩], 1, 8, [.nilp], true, true, true⟩ := by kernel_rfl
theorem ty19 : tyOf Try.prog 19 = some ⟨.struct #[⟨ "typ", 17, 0, false, "", "internal/runtime/maps", 0⟩], 1, 8, [.nilp], true, true, true⟩ := by kernel_rfl
theorem ty20 : tyOf Try.prog 20 = some ⟨.interface #[], 1, 16, [.nili], false, true, true⟩ := by kernel_rfl
theorem ty21 : tyOf Try.prog 21 = some ⟨.int .i32, 1, 4, [.int .i32 0], false, true, true⟩ := by kernel_rfl
theorem ty22 : tyOf Try.prog 22 = some ⟨.array 16 5, 16, 16, ints .u8 (List.replicate 16 0), true, true, true⟩ := by kernel_rfl
theorem ty27 : tyOf Try.prog 27 = some ⟨.slice 5, 1, 24, [.nils], false, true, false⟩ := by kernel_rfl
theorem ty29 : tyOf Try.prog 29 = some ⟨.int .u64, 1, 8, [.int .u64 0], false, true, true⟩ := by kernel_rfl
theorem ty30 : tyOf Try.prog 30 = some ⟨.array 8 29, 8, 64, ints .u64 (List.replicate 8 0), true, true, true⟩ := by kernel_rfl
theorem ty37 : tyOf Try.prog 37 = some ⟨.interface #[("Error", 100)], 1, 16, [.nili], false, true, true⟩ := by kernel_rfl
theorem ty38 : tyOf Try.prog 38 = some ⟨.interface #[("Error", 100)], 1, 16, [.nili], false, true, true⟩ := by kernel_rfl
theorem ty41 : tyOf Try.prog 41 = some ⟨.int .i64, 1, 8, [.int .i64 0], false, true, true⟩ := by kernel_rfl
theorem ty46 : tyOf Try.prog 46 = some ⟨.slice 29, 1, 24, [.nils], false, true, false⟩ := by kernel_rfl
theorem ty56 : tyOf Try.prog 56 = some ⟨.slice 22, 1, 24, [.nils], false, true, false⟩ := by kernel_rfl
theorem ty65 : tyOf Try.prog 65 = some ⟨.array 32 5, 32, 32, ints .u8 (List.replicate 32 0), true, true, true⟩ := by kernel_rfl
theorem ty74 : tyOf Try.prog 74 = some ⟨.array 12 5, 12, 12, ints .u8 (List.replicate 12 0), true, true, true⟩ := by kernel_rfl
theorem ty76 : tyOf Try.prog 76 = some ⟨.int .u64, 1, 8, [.int .u64 0], false, true, true⟩ := by kernel_rfl
theorem ty78 : tyOf Try.prog 78 = some ⟨.slice 3, 1, 24, [.nils], false, true, false⟩ := by kernel_rfl
theorem ty80 : tyOf Try.prog 80 = some ⟨.slice 29, 1, 24, [.nils], false, true, false⟩ := by kernel_rfl
theorem ty85 : tyOf Try.prog 85 = some ⟨.slice 27, 1, 24, [.nils], false, true, false⟩ := by kernel_rfl
theorem ty88 : tyOf Try.prog 88 = some ⟨.array 4 5, 4, 4, ints .u8 (List.replicate 4 0), true, true, true⟩ := by kernel_rfl
theorem ty89 : tyOf Try.prog 89 = some ⟨.array 60 88, 240, 240, ints .u8 (List.replicate 240 0), true, true, true⟩ := by kernel_rfl
theorem ty90 : tyOf Try.prog 90 = some ⟨.struct #[⟨ "key", 27, 0, false, "", "escutcheon/gcm", 0⟩, ⟨ "nonce", 27, 1, false, "", "escutcheon/gcm", 24⟩], 2, 48, [.nils, .nils], true, true, false⟩ := by kernel_rfl
theorem ty91 : tyOf Try.prog 91 = some ⟨.struct #[⟨ "key", 27, 0, false, "", "escutcheon/gcm", 0⟩, ⟨ "nonce", 27, 1, false, "", "escutcheon/gcm", 24⟩], 2, 48, [.nils, .nils], true, true, false⟩ := by kernel_rfl
theorem ty99 : tyOf Try.prog 99 = some ⟨.int .u32, 1, 4, [.int .u32 0], false, true, true⟩ := by kernel_rfl
theorem ty101 : tyOf Try.prog 101 = some ⟨.struct #[⟨ "_interface", 17, 0, false, "", "runtime", 0⟩, ⟨ "concrete", 17, 1, false, "", "runtime", 8⟩, ⟨ "asserted", 17, 2, false, "", "runtime", 16⟩, ⟨ "missingMethod", 9, 3, false, "", "runtime", 24⟩], 4, 40, [.nilp, .nilp, .nilp, .str ⟨#[]⟩], true, true, true⟩ := by kernel_rfl
theorem ty102 : tyOf Try.prog 102 = some ⟨.struct #[⟨ "_interface", 17, 0, false, "", "runtime", 0⟩, ⟨ "concrete", 17, 1, false, "", "runtime", 8⟩, ⟨ "asserted", 17, 2, false, "", "runtime", 16⟩, ⟨ "missingMethod", 9, 3, false, "", "runtime", 24⟩], 4, 40, [.nilp, .nilp, .nilp, .str ⟨#[]⟩], true, true, true⟩ := by kernel_rfl
theorem ty103 : tyOf Try.prog 103 = some ⟨.array 0 16, 0, 0, [], true, true, true⟩ := by kernel_rfl
theorem ty104 : tyOf Try.prog 104 = some ⟨.struct #[⟨ "_", 103, 0, false, "", "runtime", 0⟩], 0, 0, [], true, true, true⟩ := by kernel_rfl
theorem ty105 : tyOf Try.prog 105 = some ⟨.struct #[⟨ "_", 103, 0, false, "", "runtime", 0⟩], 0, 0, [], true, true, true⟩ := by kernel_rfl
theorem ty107 : tyOf Try.prog 107 = some ⟨.int .u8, 1, 1, [.int .u8 0], false, true, true⟩ := by kernel_rfl
theorem ty108 : tyOf Try.prog 108 = some ⟨.int .u8, 1, 1, [.int .u8 0], false, true, true⟩ := by kernel_rfl
theorem ty110 : tyOf Try.prog 110 = some ⟨.pointer 5, 1, 8, [.nilp], false, true, true⟩ := by kernel_rfl
theorem ty111 : tyOf Try.prog 111 = some ⟨.int .i32, 1, 4, [.int .i32 0], false, true, true⟩ := by kernel_rfl
theorem ty112 : tyOf Try.prog 112 = some ⟨.int .i32, 1, 4, [.int .i32 0], false, true, true⟩ := by kernel_rfl
theorem ty113 : tyOf Try.prog 113 = some ⟨.struct #[⟨ "Size_", 12, 0, false, "", "", 0⟩, ⟨ "PtrBytes", 12, 1, false, "", "", 8⟩, ⟨ "Hash", 99, 2, false, "", "", 16⟩, ⟨ "TFlag", 107, 3, false, "", "", 20⟩, ⟨ "Align_", 5, 4, false, "", "", 21⟩, ⟨ "FieldAlign_", 5, 5, false, "", "", 22⟩, ⟨ "Kind_", 108, 6, false, "", "", 23⟩, ⟨ "Equal", 109, 7, false, "", "", 24⟩, ⟨ "GCData", 110, 8, false, "", "", 32⟩, ⟨ "Str", 111, 9, false, "", "", 40⟩, ⟨ "PtrToThis", 112, 10, false, "", "", 44⟩], 11, 48, [.int .u64 0, .int .u64 0, .int .u32 0, .int .u8 0, .int .u8 0, .int .u8 0, .int .u8 0, .nilf, .nilp, .int .i32 0, .int .i32 0], true, true, false⟩ := by kernel_rfl
theorem ty114 : tyOf Try.prog 114 = some ⟨.struct #[⟨ "Size_", 12, 0, false, "", "", 0⟩, ⟨ "PtrBytes", 12, 1, false, "", "", 8⟩, ⟨ "Hash", 99, 2, false, "", "", 16⟩, ⟨ "TFlag", 107, 3, false, "", "", 20⟩, ⟨ "Align_", 5, 4, false, "", "", 21⟩, ⟨ "FieldAlign_", 5, 5, false, "", "", 22⟩, ⟨ "Kind_", 108, 6, false, "", "", 23⟩, ⟨ "Equal", 109, 7, false, "", "", 24⟩, ⟨ "GCData", 110, 8, false, "", "", 32⟩, ⟨ "Str", 111, 9, false, "", "", 40⟩, ⟨ "PtrToThis", 112, 10, false, "", "", 44⟩], 11, 48, [.int .u64 0, .int .u64 0, .int .u32 0, .int .u8 0, .int .u8 0, .int .u8 0, .int .u8 0, .nilf, .nilp, .int .i32 0, .int .i32 0], true, true, false⟩ := by kernel_rfl
theorem ty115 : tyOf Try.prog 115 = some ⟨.unsafePointer, 1, 8, [.nilp], false, true, true⟩ := by kernel_rfl
end Eng
