/-
  Facts about the types of this program, and the library's contracts laid at it.
-/
import Derived.Test.YtmhfcgpmmghakaaGreatDoorFc
import Derived.Test.YtmhfcgpmmghakaaGreatDoorProg
import Derived.Shelf.Small.Strs
import Derived.Shelf.Strings.Search1
import Derived.Shelf.Strings.Search2
import Derived.Shelf.Strings.Search3
import Derived.Shelf.SlSortCmp.NoneTotal
import Derived.Ground.SlsfProg
set_option linter.unusedSimpArgs false
set_option linter.unusedVariables false
namespace Go.Proofs.YtmhfcgpmmghakaaGreatDoor
open Go.AI Tryz
theorem ti2 : tiOf prog 2 = some ⟨1, 8, [.int .i64 0], .int .i64, false, some [.int], false⟩ := by kernel_rfl
theorem ti43 : tiOf prog 43 = some ⟨1, 8, [.int .i64 0], .int .i64, false, some [.int], false⟩ := by kernel_rfl
theorem ti54 : tiOf prog 54 = some ⟨4, 32, [.int .i64 0, .int .i64 0, .int .i64 0, .int .i64 0], .arr 4 43, false, some [.int, .int, .int, .int], true⟩ := by kernel_rfl
theorem qkh : tiOf prog 158 = some ⟨13, 144, [.int .i64 0, .int .i64 0, .string ⟨#[]⟩, .string ⟨#[]⟩, .int .i64 0, .int .i64 0, .int .i64 0, .int .i64 0, .string ⟨#[]⟩, .string ⟨#[]⟩, .int .i64 0, .string ⟨#[]⟩, .int .i64 0], .strct [(0, 3, false), (1, 156, false)], false, some [.int, .int, .str, .str, .int, .int, .int, .int, .str, .str, .int, .str, .int], true⟩ := by kernel_rfl
theorem qkg : tiOf prog 256 = some ⟨3, 40, [.int .i64 0, .int .i64 0, .slice none 0 0], .strct [(0, 3, false), (1, 3, false), (2, 22, false)], false, none, true⟩ := by kernel_rfl
@[simp] theorem tj0 : tiOf prog 1 = some ⟨1, 8, [.nilFunc], .func, false, none, false⟩ ∧ tiOf prog 3 = some ⟨1, 8, [.int .i64 0], .int .i64, false, some [.int], false⟩ ∧ szOf prog 3 = 1 ∧ tiOf prog 4 = some ⟨1, 1, [.bool false], .bool, false, some [.bool], false⟩ ∧ szOf prog 4 = 1 ∧ tiOf prog 5 = some ⟨1, 1, [.int .u8 0], .int .u8, false, some [.int], false⟩ ∧ tiOf prog 9 = some ⟨1, 16, [.string ⟨#[]⟩], .str, false, some [.str], false⟩ ∧ szOf prog 9 = 1 := by and_intros <;> kernel_rfl
@[simp] theorem tj1 : tiOf prog 20 = some ⟨1, 16, [.nilIface], .iface true, false, none, false⟩ ∧ tiOf prog 21 = some ⟨1, 4, [.int .i32 0], .int .i32, false, some [.int], false⟩ ∧ tiOf prog 22 = some ⟨1, 24, [.slice none 0 0], .slc 109, false, none, false⟩ ∧ szOf prog 22 = 1 ∧ tiOf prog 23 = some ⟨1, 24, [.slice none 0 0], .slc 203, false, none, false⟩ ∧ szOf prog 23 = 1 ∧ tiOf prog 24 = some ⟨5, 56, [.int .i64 0, .string ⟨#[]⟩, .string ⟨#[]⟩, .int .i64 0, .int .i64 0], .strct [(0, 3, false), (1, 9, false), (2, 9, false), (3, 3, false), (4, 3, false)], false, some [.int, .str, .str, .int, .int], true⟩ ∧ tiOf prog 25 = some ⟨5, 56, [.int .i64 0, .string ⟨#[]⟩, .string ⟨#[]⟩, .int .i64 0, .int .i64 0], .strct [(0, 3, false), (1, 9, false), (2, 9, false), (3, 3, false), (4, 3, false)], false, some [.int, .str, .str, .int, .int], true⟩ := by and_intros <;> kernel_rfl
@[simp] theorem tj2 : szOf prog 25 = 5 ∧ tiOf prog 26 = some ⟨11, 136, [.int .i64 0, .int .i64 0, .int .i64 0, .int .i64 0, .slice none 0 0, .slice none 0 0, .int .i64 0, .string ⟨#[]⟩, .string ⟨#[]⟩, .int .i64 0, .int .i64 0], .strct [(0, 3, false), (1, 3, false), (2, 3, false), (3, 3, false), (4, 22, false), (5, 23, false), (6, 25, false)], false, none, true⟩ ∧ tiOf prog 27 = some ⟨11, 136, [.int .i64 0, .int .i64 0, .int .i64 0, .int .i64 0, .slice none 0 0, .slice none 0 0, .int .i64 0, .string ⟨#[]⟩, .string ⟨#[]⟩, .int .i64 0, .int .i64 0], .strct [(0, 3, false), (1, 3, false), (2, 3, false), (3, 3, false), (4, 22, false), (5, 23, false), (6, 25, false)], false, none, true⟩ ∧ tiOf prog 28 = some ⟨1, 8, [.nilFunc], .func, false, none, false⟩ ∧ tiOf prog 29 = some ⟨1, 8, [.nilFunc], .func, false, none, false⟩ ∧ tiOf prog 30 = some ⟨1, 24, [.slice none 0 0], .slc 27, false, none, false⟩ ∧ tiOf prog 31 = some ⟨1, 8, [.pointer none], .ptr 39, false, none, false⟩ ∧ tiOf prog 32 = some ⟨4, 32, [.int .i64 0, .int .i64 0, .int .i64 0, .int .i64 0], .strct [(0, 3, false), (1, 3, false), (2, 3, false), (3, 3, false)], false, some [.int, .int, .int, .int], true⟩ := by and_intros <;> kernel_rfl
@[simp] theorem tj3 : tiOf prog 33 = some ⟨4, 32, [.int .i64 0, .int .i64 0, .int .i64 0, .int .i64 0], .strct [(0, 3, false), (1, 3, false), (2, 3, false), (3, 3, false)], false, some [.int, .int, .int, .int], true⟩ ∧ szOf prog 33 = 4 ∧ tiOf prog 34 = some ⟨1, 24, [.slice none 0 0], .slc 22, false, none, false⟩ ∧ szOf prog 34 = 1 ∧ tiOf prog 35 = some ⟨2, 32, [.int .i64 0, .slice none 0 0], .strct [(0, 3, false), (1, 34, false)], false, none, true⟩ ∧ tiOf prog 36 = some ⟨2, 32, [.int .i64 0, .slice none 0 0], .strct [(0, 3, false), (1, 34, false)], false, none, true⟩ ∧ szOf prog 36 = 2 ∧ tiOf prog 37 = some ⟨1, 24, [.slice none 0 0], .slc 96, false, none, false⟩ := by and_intros <;> kernel_rfl
@[simp] theorem tj4 : szOf prog 37 = 1 ∧ tiOf prog 38 = some ⟨8, 96, [.int .i64 0, .int .i64 0, .int .i64 0, .int .i64 0, .int .i64 0, .slice none 0 0, .slice none 0 0, .int .i64 0], .strct [(0, 33, false), (4, 36, false), (6, 37, false), (7, 3, false)], false, none, true⟩ ∧ tiOf prog 39 = some ⟨8, 96, [.int .i64 0, .int .i64 0, .int .i64 0, .int .i64 0, .int .i64 0, .slice none 0 0, .slice none 0 0, .int .i64 0], .strct [(0, 33, false), (4, 36, false), (6, 37, false), (7, 3, false)], false, none, true⟩ ∧ tiOf prog 40 = some ⟨1, 24, [.slice none 0 0], .slc 31, false, none, false⟩ ∧ tiOf prog 41 = some ⟨1, 24, [.slice none 0 0], .slc 50, false, none, false⟩ ∧ tiOf prog 42 = some ⟨1, 8, [.nilFunc], .func, false, none, false⟩ ∧ szOf prog 43 = 1 ∧ tiOf prog 44 = some ⟨3, 32, [.int .i64 0, .string ⟨#[]⟩, .int .i64 0], .strct [(0, 3, false), (1, 9, false), (2, 3, false)], false, some [.int, .str, .int], true⟩ := by and_intros <;> kernel_rfl
@[simp] theorem tj5 : tiOf prog 45 = some ⟨3, 32, [.int .i64 0, .string ⟨#[]⟩, .int .i64 0], .strct [(0, 3, false), (1, 9, false), (2, 3, false)], false, some [.int, .str, .int], true⟩ ∧ szOf prog 45 = 3 ∧ tiOf prog 46 = some ⟨1, 24, [.slice none 0 0], .slc 3, false, none, false⟩ ∧ szOf prog 46 = 1 ∧ tiOf prog 47 = some ⟨7, 96, [.int .i64 0, .int .i64 0, .int .i64 0, .string ⟨#[]⟩, .int .i64 0, .slice none 0 0, .slice none 0 0], .strct [(0, 43, false), (1, 3, false), (2, 45, false), (5, 46, false), (6, 23, false)], false, none, true⟩ ∧ tiOf prog 48 = some ⟨7, 96, [.int .i64 0, .int .i64 0, .int .i64 0, .string ⟨#[]⟩, .int .i64 0, .slice none 0 0, .slice none 0 0], .strct [(0, 43, false), (1, 3, false), (2, 45, false), (5, 46, false), (6, 23, false)], false, none, true⟩ ∧ tiOf prog 49 = some ⟨1, 8, [.nilFunc], .func, false, none, false⟩ ∧ tiOf prog 50 = some ⟨11, 136, [.int .i64 0, .int .i64 0, .int .i64 0, .int .i64 0, .slice none 0 0, .slice none 0 0, .int .i64 0, .string ⟨#[]⟩, .string ⟨#[]⟩, .int .i64 0, .int .i64 0], .strct [(0, 3, false), (1, 3, false), (2, 3, false), (3, 3, false), (4, 22, false), (5, 23, false), (6, 25, false)], false, none, true⟩ := by and_intros <;> kernel_rfl
@[simp] theorem tj6 : tiOf prog 51 = some ⟨4, 32, [.int .i64 0, .int .i64 0, .int .i64 0, .int .i64 0], .arr 4 3, false, some [.int, .int, .int, .int], true⟩ ∧ szOf prog 51 = 4 ∧ tiOf prog 52 = some ⟨5, 40, [.int .i64 0, .int .i64 0, .int .i64 0, .int .i64 0, .int .i64 0], .strct [(0, 51, false), (4, 3, false)], false, some [.int, .int, .int, .int, .int], true⟩ ∧ tiOf prog 53 = some ⟨5, 40, [.int .i64 0, .int .i64 0, .int .i64 0, .int .i64 0, .int .i64 0], .strct [(0, 51, false), (4, 3, false)], false, some [.int, .int, .int, .int, .int], true⟩ ∧ szOf prog 53 = 5 ∧ szOf prog 54 = 4 ∧ tiOf prog 55 = some ⟨2, 32, [.int .i64 0, .slice none 0 0], .strct [(0, 3, false), (1, 22, false)], false, none, true⟩ ∧ tiOf prog 56 = some ⟨2, 32, [.int .i64 0, .slice none 0 0], .strct [(0, 3, false), (1, 22, false)], false, none, true⟩ := by and_intros <;> kernel_rfl
@[simp] theorem tj7 : szOf prog 56 = 2 ∧ tiOf prog 57 = some ⟨4, 64, [.int .i64 0, .slice none 0 0, .bool false, .slice none 0 0], .strct [(0, 56, false), (2, 4, false), (3, 22, false)], false, none, true⟩ ∧ tiOf prog 58 = some ⟨4, 64, [.int .i64 0, .slice none 0 0, .bool false, .slice none 0 0], .strct [(0, 56, false), (2, 4, false), (3, 22, false)], false, none, true⟩ ∧ szOf prog 58 = 4 ∧ tiOf prog 59 = some ⟨1, 24, [.slice none 0 0], .slc 256, false, none, false⟩ ∧ szOf prog 59 = 1 ∧ tiOf prog 60 = some ⟨2, 32, [.int .i64 0, .slice none 0 0], .strct [(0, 3, false), (1, 59, false)], false, none, true⟩ ∧ tiOf prog 61 = some ⟨2, 32, [.int .i64 0, .slice none 0 0], .strct [(0, 3, false), (1, 59, false)], false, none, true⟩ := by and_intros <;> kernel_rfl
@[simp] theorem tj8 : szOf prog 61 = 2 ∧ tiOf prog 62 = some ⟨18, 192, [.int .i64 0, .int .i64 0, .bool false, .int .i64 0, .int .i64 0, .int .i64 0, .int .i64 0, .int .i64 0, .int .i64 0, .int .i64 0, .int .i64 0, .int .i64 0, .int .i64 0, .slice none 0 0, .bool false, .slice none 0 0, .int .i64 0, .slice none 0 0], .strct [(0, 3, false), (1, 3, false), (2, 4, false), (3, 53, false), (8, 54, false), (12, 58, false), (16, 61, false)], false, none, true⟩ ∧ tiOf prog 63 = some ⟨18, 192, [.int .i64 0, .int .i64 0, .bool false, .int .i64 0, .int .i64 0, .int .i64 0, .int .i64 0, .int .i64 0, .int .i64 0, .int .i64 0, .int .i64 0, .int .i64 0, .int .i64 0, .slice none 0 0, .bool false, .slice none 0 0, .int .i64 0, .slice none 0 0], .strct [(0, 3, false), (1, 3, false), (2, 4, false), (3, 53, false), (8, 54, false), (12, 58, false), (16, 61, false)], false, none, true⟩ ∧ szOf prog 63 = 18 ∧ tiOf prog 65 = some ⟨1, 8, [.nilFunc], .func, false, none, false⟩ ∧ tiOf prog 66 = some ⟨4, 4, [.bool false, .bool false, .bool false, .bool false], .arr 4 4, false, some [.bool, .bool, .bool, .bool], true⟩ ∧ szOf prog 66 = 4 ∧ tiOf prog 67 = some ⟨9, 48, [.int .i64 0, .int .i64 0, .int .i64 0, .int .i64 0, .bool false, .bool false, .bool false, .bool false, .int .i64 0], .strct [(0, 51, false), (4, 66, false), (8, 3, false)], false, some [.int, .int, .int, .int, .bool, .bool, .bool, .bool, .int], true⟩ := by and_intros <;> kernel_rfl
@[simp] theorem tj9 : tiOf prog 68 = some ⟨9, 48, [.int .i64 0, .int .i64 0, .int .i64 0, .int .i64 0, .bool false, .bool false, .bool false, .bool false, .int .i64 0], .strct [(0, 51, false), (4, 66, false), (8, 3, false)], false, some [.int, .int, .int, .int, .bool, .bool, .bool, .bool, .int], true⟩ ∧ szOf prog 68 = 9 ∧ tiOf prog 69 = some ⟨1, 24, [.slice none 0 0], .slc 291, false, none, false⟩ ∧ szOf prog 69 = 1 ∧ tiOf prog 70 = some ⟨10, 144, [.int .i64 0, .int .i64 0, .int .i64 0, .int .i64 0, .int .i64 0, .slice none 0 0, .slice none 0 0, .int .i64 0, .slice none 0 0, .slice none 0 0], .strct [(0, 3, false), (1, 3, false), (2, 3, false), (3, 3, false), (4, 3, false), (5, 22, false), (6, 23, false), (7, 43, false), (8, 69, false), (9, 23, false)], false, none, true⟩ ∧ tiOf prog 71 = some ⟨10, 144, [.int .i64 0, .int .i64 0, .int .i64 0, .int .i64 0, .int .i64 0, .slice none 0 0, .slice none 0 0, .int .i64 0, .slice none 0 0, .slice none 0 0], .strct [(0, 3, false), (1, 3, false), (2, 3, false), (3, 3, false), (4, 3, false), (5, 22, false), (6, 23, false), (7, 43, false), (8, 69, false), (9, 23, false)], false, none, true⟩ ∧ szOf prog 71 = 10 ∧ tiOf prog 72 = some ⟨14, 208, [.slice none 0 0, .slice none 0 0, .int .i64 0, .int .i64 0, .int .i64 0, .int .i64 0, .int .i64 0, .int .i64 0, .slice none 0 0, .slice none 0 0, .int .i64 0, .slice none 0 0, .slice none 0 0, .bool false], .strct [(0, 22, false), (1, 23, false), (2, 3, false), (3, 71, false), (13, 4, false)], false, none, true⟩ := by and_intros <;> kernel_rfl
@[simp] theorem tj10 : tiOf prog 73 = some ⟨14, 208, [.slice none 0 0, .slice none 0 0, .int .i64 0, .int .i64 0, .int .i64 0, .int .i64 0, .int .i64 0, .int .i64 0, .slice none 0 0, .slice none 0 0, .int .i64 0, .slice none 0 0, .slice none 0 0, .bool false], .strct [(0, 22, false), (1, 23, false), (2, 3, false), (3, 71, false), (13, 4, false)], false, none, true⟩ ∧ szOf prog 73 = 14 ∧ tiOf prog 74 = some ⟨27, 288, [.int .i64 0, .bool false, .int .i64 0, .int .i64 0, .int .i64 0, .int .i64 0, .bool false, .bool false, .bool false, .bool false, .int .i64 0, .slice none 0 0, .slice none 0 0, .int .i64 0, .int .i64 0, .int .i64 0, .int .i64 0, .int .i64 0, .int .i64 0, .slice none 0 0, .slice none 0 0, .int .i64 0, .slice none 0 0, .slice none 0 0, .bool false, .int .i64 0, .int .i64 0], .strct [(0, 3, false), (1, 4, false), (2, 68, false), (11, 73, false), (25, 43, false), (26, 3, false)], false, none, true⟩ ∧ tiOf prog 75 = some ⟨27, 288, [.int .i64 0, .bool false, .int .i64 0, .int .i64 0, .int .i64 0, .int .i64 0, .bool false, .bool false, .bool false, .bool false, .int .i64 0, .slice none 0 0, .slice none 0 0, .int .i64 0, .int .i64 0, .int .i64 0, .int .i64 0, .int .i64 0, .int .i64 0, .slice none 0 0, .slice none 0 0, .int .i64 0, .slice none 0 0, .slice none 0 0, .bool false, .int .i64 0, .int .i64 0], .strct [(0, 3, false), (1, 4, false), (2, 68, false), (11, 73, false), (25, 43, false), (26, 3, false)], false, none, true⟩ ∧ szOf prog 75 = 27 ∧ tiOf prog 77 = some ⟨1, 8, [.nilFunc], .func, false, none, false⟩ ∧ tiOf prog 78 = some ⟨1, 24, [.slice none 0 0], .slc 137, false, none, false⟩ ∧ szOf prog 78 = 1 := by and_intros <;> kernel_rfl
@[simp] theorem tj11 : tiOf prog 79 = some ⟨2, 32, [.int .i64 0, .slice none 0 0], .strct [(0, 3, false), (1, 78, false)], false, none, true⟩ ∧ tiOf prog 80 = some ⟨2, 32, [.int .i64 0, .slice none 0 0], .strct [(0, 3, false), (1, 78, false)], false, none, true⟩ ∧ tiOf prog 82 = some ⟨1, 8, [.nilFunc], .func, false, none, false⟩ ∧ tiOf prog 83 = some ⟨1, 24, [.slice none 0 0], .slc 158, false, none, false⟩ ∧ szOf prog 83 = 1 ∧ tiOf prog 84 = some ⟨3, 56, [.int .i64 0, .slice none 0 0, .slice none 0 0], .strct [(0, 3, false), (1, 83, false), (2, 83, false)], false, none, true⟩ ∧ tiOf prog 85 = some ⟨3, 56, [.int .i64 0, .slice none 0 0, .slice none 0 0], .strct [(0, 3, false), (1, 83, false), (2, 83, false)], false, none, true⟩ ∧ szOf prog 85 = 3 := by and_intros <;> kernel_rfl
@[simp] theorem tj12 : tiOf prog 87 = some ⟨1, 8, [.nilFunc], .func, false, none, false⟩ ∧ tiOf prog 88 = some ⟨1, 8, [.nilFunc], .func, false, none, false⟩ ∧ tiOf prog 89 = some ⟨1, 8, [.nilFunc], .func, false, none, false⟩ ∧ tiOf prog 90 = some ⟨1, 8, [.nilFunc], .func, false, none, false⟩ ∧ tiOf prog 91 = some ⟨1, 8, [.nilFunc], .func, false, none, false⟩ ∧ tiOf prog 92 = some ⟨1, 8, [.nilFunc], .func, false, none, false⟩ ∧ tiOf prog 93 = some ⟨1, 8, [.nilFunc], .func, false, none, false⟩ ∧ tiOf prog 94 = some ⟨1, 8, [.nilFunc], .func, false, none, false⟩ := by and_intros <;> kernel_rfl
@[simp] theorem tj13 : tiOf prog 95 = some ⟨1, 8, [.nilFunc], .func, false, none, false⟩ ∧ tiOf prog 96 = some ⟨1, 8, [.pointer none], .ptr 102, false, none, false⟩ ∧ tiOf prog 97 = some ⟨1, 8, [.nilFunc], .func, false, none, false⟩ ∧ tiOf prog 98 = some ⟨1, 8, [.nilFunc], .func, false, none, false⟩ ∧ tiOf prog 99 = some ⟨1, 8, [.nilFunc], .func, false, none, false⟩ ∧ tiOf prog 100 = some ⟨4, 64, [.int .i64 0, .slice none 0 0, .int .i64 0, .slice none 0 0], .arr 2 80, false, none, true⟩ ∧ szOf prog 100 = 4 ∧ tiOf prog 101 = some ⟨52, 600, [.int .i64 0, .int .i64 0, .bool false, .int .i64 0, .int .i64 0, .int .i64 0, .int .i64 0, .int .i64 0, .int .i64 0, .int .i64 0, .int .i64 0, .int .i64 0, .int .i64 0, .slice none 0 0, .bool false, .slice none 0 0, .int .i64 0, .slice none 0 0, .int .i64 0, .bool false, .int .i64 0, .int .i64 0, .int .i64 0, .int .i64 0, .bool false, .bool false, .bool false, .bool false, .int .i64 0, .slice none 0 0, .slice none 0 0, .int .i64 0, .int .i64 0, .int .i64 0, .int .i64 0, .int .i64 0, .int .i64 0, .slice none 0 0, .slice none 0 0, .int .i64 0, .slice none 0 0, .slice none 0 0, .bool false, .int .i64 0, .int .i64 0, .int .i64 0, .slice none 0 0, .int .i64 0, .slice none 0 0, .int .i64 0, .slice none 0 0, .slice none 0 0], .strct [(0, 63, false), (18, 75, false), (45, 100, false), (49, 85, false)], false, none, true⟩ := by and_intros <;> kernel_rfl
@[simp] theorem tj14 : tiOf prog 102 = some ⟨52, 600, [.int .i64 0, .int .i64 0, .bool false, .int .i64 0, .int .i64 0, .int .i64 0, .int .i64 0, .int .i64 0, .int .i64 0, .int .i64 0, .int .i64 0, .int .i64 0, .int .i64 0, .slice none 0 0, .bool false, .slice none 0 0, .int .i64 0, .slice none 0 0, .int .i64 0, .bool false, .int .i64 0, .int .i64 0, .int .i64 0, .int .i64 0, .bool false, .bool false, .bool false, .bool false, .int .i64 0, .slice none 0 0, .slice none 0 0, .int .i64 0, .int .i64 0, .int .i64 0, .int .i64 0, .int .i64 0, .int .i64 0, .slice none 0 0, .slice none 0 0, .int .i64 0, .slice none 0 0, .slice none 0 0, .bool false, .int .i64 0, .int .i64 0, .int .i64 0, .slice none 0 0, .int .i64 0, .slice none 0 0, .int .i64 0, .slice none 0 0, .slice none 0 0], .strct [(0, 63, false), (18, 75, false), (45, 100, false), (49, 85, false)], false, none, true⟩ ∧ tiOf prog 103 = some ⟨1, 8, [.nilFunc], .func, false, none, false⟩ ∧ tiOf prog 104 = some ⟨1, 8, [.nilFunc], .func, false, none, false⟩ ∧ tiOf prog 105 = some ⟨1, 8, [.nilFunc], .func, false, none, false⟩ ∧ tiOf prog 106 = some ⟨1, 8, [.nilFunc], .func, false, none, false⟩ ∧ tiOf prog 107 = some ⟨1, 24, [.slice none 0 0], .slc 114, false, none, false⟩ ∧ szOf prog 107 = 1 ∧ tiOf prog 108 = some ⟨7, 104, [.int .i64 0, .string ⟨#[]⟩, .int .i64 0, .int .i64 0, .string ⟨#[]⟩, .slice none 0 0, .slice none 0 0], .strct [(0, 3, false), (1, 9, false), (2, 3, false), (3, 3, false), (4, 9, false), (5, 107, false), (6, 46, false)], false, none, true⟩ := by and_intros <;> kernel_rfl
@[simp] theorem tj15 : tiOf prog 109 = some ⟨7, 104, [.int .i64 0, .string ⟨#[]⟩, .int .i64 0, .int .i64 0, .string ⟨#[]⟩, .slice none 0 0, .slice none 0 0], .strct [(0, 3, false), (1, 9, false), (2, 3, false), (3, 3, false), (4, 9, false), (5, 107, false), (6, 46, false)], false, none, true⟩ ∧ tiOf prog 110 = some ⟨2, 24, [.string ⟨#[]⟩, .int .i64 0], .strct [(0, 9, false), (1, 3, false)], false, some [.str, .int], true⟩ ∧ tiOf prog 111 = some ⟨2, 24, [.string ⟨#[]⟩, .int .i64 0], .strct [(0, 9, false), (1, 3, false)], false, some [.str, .int], true⟩ ∧ tiOf prog 112 = some ⟨1, 24, [.slice none 0 0], .slc 111, false, none, false⟩ ∧ szOf prog 112 = 1 ∧ tiOf prog 113 = some ⟨3, 56, [.string ⟨#[]⟩, .string ⟨#[]⟩, .slice none 0 0], .strct [(0, 9, false), (1, 9, false), (2, 112, false)], false, none, true⟩ ∧ tiOf prog 114 = some ⟨3, 56, [.string ⟨#[]⟩, .string ⟨#[]⟩, .slice none 0 0], .strct [(0, 9, false), (1, 9, false), (2, 112, false)], false, none, true⟩ ∧ tiOf prog 115 = some ⟨1, 8, [.nilFunc], .func, false, none, false⟩ := by and_intros <;> kernel_rfl
@[simp] theorem tj16 : tiOf prog 116 = some ⟨1, 8, [.nilFunc], .func, false, none, false⟩ ∧ tiOf prog 117 = some ⟨10, 160, [.string ⟨#[]⟩, .string ⟨#[]⟩, .string ⟨#[]⟩, .string ⟨#[]⟩, .string ⟨#[]⟩, .string ⟨#[]⟩, .string ⟨#[]⟩, .string ⟨#[]⟩, .string ⟨#[]⟩, .string ⟨#[]⟩], .arr 10 9, false, some [.str, .str, .str, .str, .str, .str, .str, .str, .str, .str], true⟩ ∧ tiOf prog 118 = some ⟨1, 8, [.nilFunc], .func, false, none, false⟩ ∧ tiOf prog 119 = some ⟨1, 8, [.nilFunc], .func, false, none, false⟩ ∧ tiOf prog 120 = some ⟨1, 8, [.nilFunc], .func, false, none, false⟩ ∧ tiOf prog 121 = some ⟨1, 8, [.nilFunc], .func, false, none, false⟩ ∧ tiOf prog 124 = some ⟨1, 8, [.nilFunc], .func, false, none, false⟩ ∧ tiOf prog 125 = some ⟨1, 8, [.nilFunc], .func, false, none, false⟩ := by and_intros <;> kernel_rfl
@[simp] theorem tj17 : tiOf prog 126 = some ⟨1, 8, [.nilFunc], .func, false, none, false⟩ ∧ tiOf prog 127 = some ⟨1, 8, [.nilFunc], .func, false, none, false⟩ ∧ tiOf prog 129 = some ⟨1, 8, [.nilFunc], .func, false, none, false⟩ ∧ tiOf prog 130 = some ⟨1, 8, [.nilFunc], .func, false, none, false⟩ ∧ tiOf prog 133 = some ⟨1, 8, [.nilFunc], .func, false, none, false⟩ ∧ tiOf prog 134 = some ⟨1, 24, [.slice none 0 0], .slc 71, false, none, false⟩ ∧ szOf prog 134 = 1 ∧ tiOf prog 135 = some ⟨1, 8, [.nilFunc], .func, false, none, false⟩ := by and_intros <;> kernel_rfl
@[simp] theorem tj18 : tiOf prog 136 = some ⟨1, 8, [.nilFunc], .func, false, none, false⟩ ∧ tiOf prog 137 = some ⟨1, 24, [.slice none 0 0], .slc 5, false, none, false⟩ ∧ szOf prog 137 = 1 ∧ tiOf prog 139 = some ⟨1, 8, [.nilFunc], .func, false, none, false⟩ ∧ tiOf prog 143 = some ⟨1, 8, [.nilFunc], .func, false, none, false⟩ ∧ tiOf prog 145 = some ⟨1, 8, [.nilFunc], .func, false, none, false⟩ ∧ tiOf prog 149 = some ⟨1, 8, [.nilFunc], .func, false, none, false⟩ ∧ tiOf prog 152 = some ⟨1, 8, [.nilFunc], .func, false, none, false⟩ := by and_intros <;> kernel_rfl
@[simp] theorem tj19 : tiOf prog 154 = some ⟨1, 8, [.nilFunc], .func, false, none, false⟩ ∧ tiOf prog 156 = some ⟨12, 136, [.int .i64 0, .string ⟨#[]⟩, .string ⟨#[]⟩, .int .i64 0, .int .i64 0, .int .i64 0, .int .i64 0, .string ⟨#[]⟩, .string ⟨#[]⟩, .int .i64 0, .string ⟨#[]⟩, .int .i64 0], .strct [(0, 25, false), (5, 3, false), (6, 3, false), (7, 9, false), (8, 9, false), (9, 45, false)], false, some [.int, .str, .str, .int, .int, .int, .int, .str, .str, .int, .str, .int], true⟩ ∧ szOf prog 156 = 12 ∧ tiOf prog 157 = some ⟨13, 144, [.int .i64 0, .int .i64 0, .string ⟨#[]⟩, .string ⟨#[]⟩, .int .i64 0, .int .i64 0, .int .i64 0, .int .i64 0, .string ⟨#[]⟩, .string ⟨#[]⟩, .int .i64 0, .string ⟨#[]⟩, .int .i64 0], .strct [(0, 3, false), (1, 156, false)], false, some [.int, .int, .str, .str, .int, .int, .int, .int, .str, .str, .int, .str, .int], true⟩ ∧ tiOf prog 160 = some ⟨1, 8, [.nilFunc], .func, false, none, false⟩ ∧ tiOf prog 161 = some ⟨1, 8, [.nilFunc], .func, false, none, false⟩ ∧ tiOf prog 166 = some ⟨1, 8, [.nilFunc], .func, false, none, false⟩ ∧ tiOf prog 167 = some ⟨1, 8, [.nilFunc], .func, false, none, false⟩ := by and_intros <;> kernel_rfl
@[simp] theorem tj20 : tiOf prog 169 = some ⟨1, 16, [.nilIface], .iface false, true, none, false⟩ ∧ tiOf prog 171 = some ⟨1, 8, [.nilFunc], .func, false, none, false⟩ ∧ tiOf prog 174 = some ⟨1, 8, [.nilFunc], .func, false, none, false⟩ ∧ tiOf prog 180 = some ⟨1, 8, [.nilFunc], .func, false, none, false⟩ ∧ tiOf prog 182 = some ⟨1, 8, [.nilFunc], .func, false, none, false⟩ ∧ tiOf prog 184 = some ⟨1, 8, [.nilFunc], .func, false, none, false⟩ ∧ tiOf prog 186 = some ⟨1, 8, [.nilFunc], .func, false, none, false⟩ ∧ tiOf prog 187 = some ⟨1, 8, [.nilFunc], .func, false, none, false⟩ := by and_intros <;> kernel_rfl
@[simp] theorem tj21 : tiOf prog 190 = some ⟨1, 8, [.nilFunc], .func, false, none, false⟩ ∧ tiOf prog 192 = some ⟨1, 8, [.nilFunc], .func, false, none, false⟩ ∧ tiOf prog 193 = some ⟨1, 8, [.nilFunc], .func, false, none, false⟩ ∧ tiOf prog 198 = some ⟨1, 8, [.nilFunc], .func, false, none, false⟩ ∧ tiOf prog 199 = some ⟨1, 8, [.nilFunc], .func, false, none, false⟩ ∧ tiOf prog 203 = some ⟨2, 24, [.int .i64 0, .string ⟨#[]⟩], .strct [(0, 3, false), (1, 9, false)], false, some [.int, .str], true⟩ ∧ szOf prog 203 = 2 ∧ tiOf prog 207 = some ⟨1, 8, [.nilFunc], .func, false, none, false⟩ := by and_intros <;> kernel_rfl
@[simp] theorem tj22 : tiOf prog 209 = some ⟨1, 8, [.nilFunc], .func, false, none, false⟩ ∧ tiOf prog 210 = some ⟨1, 8, [.pointer none], .ptr 214, false, none, false⟩ ∧ tiOf prog 212 = some ⟨1, 8, [.pointer none], .ptr 210, false, none, false⟩ ∧ tiOf prog 214 = some ⟨2, 16, [.int .i64 0, .int .i64 0], .strct [(0, 43, false), (1, 3, false)], false, some [.int, .int], true⟩ ∧ tiOf prog 216 = some ⟨3, 56, [.int .i64 0, .slice none 0 0, .slice none 0 0], .strct [(0, 3, false), (1, 22, false), (2, 23, false)], false, none, true⟩ ∧ tiOf prog 225 = some ⟨1, 24, [.slice none 0 0], .slc 78, false, none, false⟩ ∧ tiOf prog 227 = some ⟨1, 8, [.pointer none], .ptr 229, false, none, false⟩ ∧ tiOf prog 229 = some ⟨2, 32, [.slice none 0 0, .int .i64 0], .strct [(0, 137, false), (1, 43, false)], false, none, true⟩ := by and_intros <;> kernel_rfl
@[simp] theorem tj23 : tiOf prog 233 = some ⟨1, 8, [.nilFunc], .func, false, none, false⟩ ∧ tiOf prog 235 = some ⟨1, 8, [.nilFunc], .func, false, none, false⟩ ∧ tiOf prog 236 = some ⟨1, 8, [.nilFunc], .func, false, none, false⟩ ∧ tiOf prog 243 = some ⟨1, 8, [.nilFunc], .func, false, none, false⟩ ∧ tiOf prog 246 = some ⟨1, 8, [.nilFunc], .func, false, none, false⟩ ∧ tiOf prog 247 = some ⟨1, 8, [.nilFunc], .func, false, none, false⟩ ∧ tiOf prog 248 = some ⟨1, 8, [.nilFunc], .func, false, none, false⟩ ∧ tiOf prog 249 = some ⟨1, 8, [.pointer none], .ptr 252, false, none, false⟩ := by and_intros <;> kernel_rfl
@[simp] theorem tj24 : tiOf prog 252 = some ⟨31, 352, [.int .i64 0, .string ⟨#[]⟩, .string ⟨#[]⟩, .int .i64 0, .int .i64 0, .int .i64 0, .int .i64 0, .string ⟨#[]⟩, .string ⟨#[]⟩, .int .i64 0, .string ⟨#[]⟩, .int .i64 0, .int .i64 0, .int .i64 0, .bool false, .int .i64 0, .int .i64 0, .int .i64 0, .int .i64 0, .int .i64 0, .int .i64 0, .int .i64 0, .int .i64 0, .int .i64 0, .int .i64 0, .slice none 0 0, .bool false, .slice none 0 0, .int .i64 0, .slice none 0 0, .slice none 0 0], .strct [(0, 156, false), (12, 63, false), (30, 134, false)], false, none, true⟩ ∧ tiOf prog 253 = some ⟨1, 8, [.nilFunc], .func, false, none, false⟩ ∧ tiOf prog 254 = some ⟨1, 8, [.nilFunc], .func, false, none, false⟩ ∧ tiOf prog 255 = some ⟨3, 40, [.int .i64 0, .int .i64 0, .slice none 0 0], .strct [(0, 3, false), (1, 3, false), (2, 22, false)], false, none, true⟩ ∧ tiOf prog 260 = some ⟨1, 8, [.nilFunc], .func, false, none, false⟩ ∧ tiOf prog 263 = some ⟨1, 8, [.nilFunc], .func, false, none, false⟩ ∧ tiOf prog 281 = some ⟨1, 24, [.slice none 0 0], .slc 287, false, none, false⟩ ∧ tiOf prog 282 = some ⟨1, 8, [.pointer none], .ptr 373, false, none, false⟩ := by and_intros <;> kernel_rfl
@[simp] theorem tj25 : tiOf prog 284 = some ⟨1, 8, [.nilFunc], .func, false, none, false⟩ ∧ tiOf prog 285 = some ⟨1, 8, [.nilFunc], .func, false, none, false⟩ ∧ szOf prog 285 = 1 ∧ tiOf prog 287 = some ⟨2, 32, [.slice none 0 0, .nilFunc], .strct [(0, 46, false), (1, 285, false)], false, none, true⟩ ∧ tiOf prog 289 = some ⟨1, 8, [.nilFunc], .func, false, none, false⟩ ∧ tiOf prog 291 = some ⟨3, 32, [.int .i64 0, .string ⟨#[]⟩, .int .i64 0], .strct [(0, 203, false), (2, 3, false)], false, some [.int, .str, .int], true⟩ ∧ tiOf prog 292 = some ⟨1, 8, [.nilFunc], .func, false, none, false⟩ ∧ tiOf prog 293 = some ⟨1, 8, [.nilFunc], .func, false, none, false⟩ := by and_intros <;> kernel_rfl
@[simp] theorem tj26 : tiOf prog 296 = some ⟨1, 8, [.nilFunc], .func, false, none, false⟩ ∧ tiOf prog 297 = some ⟨1, 8, [.nilFunc], .func, false, none, false⟩ ∧ tiOf prog 298 = some ⟨1, 8, [.nilFunc], .func, false, none, false⟩ ∧ tiOf prog 300 = some ⟨1, 8, [.nilFunc], .func, false, none, false⟩ ∧ tiOf prog 303 = some ⟨1, 24, [.slice none 0 0], .slc 43, false, none, false⟩ ∧ tiOf prog 304 = some ⟨1, 8, [.nilFunc], .func, false, none, false⟩ ∧ tiOf prog 307 = some ⟨5, 72, [.int .i64 0, .slice none 0 0, .bool false, .slice none 0 0, .bool false], .strct [(0, 58, false), (4, 4, false)], false, none, true⟩ ∧ tiOf prog 308 = some ⟨5, 72, [.int .i64 0, .slice none 0 0, .bool false, .slice none 0 0, .bool false], .strct [(0, 58, false), (4, 4, false)], false, none, true⟩ := by and_intros <;> kernel_rfl
@[simp] theorem tj27 : tiOf prog 311 = some ⟨1, 8, [.nilFunc], .func, false, none, false⟩ ∧ tiOf prog 312 = some ⟨1, 8, [.nilFunc], .func, false, none, false⟩ ∧ tiOf prog 314 = some ⟨1, 8, [.nilFunc], .func, false, none, false⟩ ∧ tiOf prog 317 = some ⟨1, 8, [.nilFunc], .func, false, none, false⟩ ∧ tiOf prog 319 = some ⟨1, 8, [.nilFunc], .func, false, none, false⟩ ∧ tiOf prog 321 = some ⟨1, 8, [.nilFunc], .func, false, none, false⟩ ∧ tiOf prog 328 = some ⟨1, 8, [.nilFunc], .func, false, none, false⟩ ∧ tiOf prog 330 = some ⟨1, 8, [.map none], .map 3 4, false, none, false⟩ := by and_intros <;> kernel_rfl
@[simp] theorem tj28 : tiOf prog 332 = some ⟨1, 8, [.nilFunc], .func, false, none, false⟩ ∧ tiOf prog 334 = some ⟨1, 8, [.nilFunc], .func, false, none, false⟩ ∧ tiOf prog 335 = some ⟨1, 8, [.nilFunc], .func, false, none, false⟩ ∧ tiOf prog 339 = some ⟨1, 8, [.nilFunc], .func, false, none, false⟩ ∧ tiOf prog 347 = some ⟨1, 8, [.nilFunc], .func, false, none, false⟩ ∧ tiOf prog 348 = some ⟨1, 8, [.nilFunc], .func, false, none, false⟩ ∧ tiOf prog 349 = some ⟨1, 8, [.nilFunc], .func, false, none, false⟩ ∧ tiOf prog 350 = some ⟨1, 8, [.nilFunc], .func, false, none, false⟩ := by and_intros <;> kernel_rfl
@[simp] theorem tj29 : tiOf prog 351 = some ⟨1, 8, [.nilFunc], .func, false, none, false⟩ ∧ tiOf prog 352 = some ⟨1, 8, [.map none], .map 203 4, false, none, false⟩ ∧ szOf prog 352 = 1 ∧ tiOf prog 353 = some ⟨1, 8, [.map none], .map 203 4, false, none, false⟩ ∧ tiOf prog 373 = some ⟨5, 104, [.slice none 0 0, .slice none 0 0, .map none, .slice none 0 0, .slice none 0 0], .strct [(0, 22, false), (1, 23, false), (2, 352, false), (3, 22, false), (4, 23, false)], false, none, true⟩ ∧ tiOf prog 376 = some ⟨1, 8, [.int .u64 0], .int .u64, false, some [.int], false⟩ ∧ tiOf prog 381 = some ⟨1, 8, [.nilFunc], .func, false, none, false⟩ ∧ tiOf prog 384 = some ⟨1, 8, [.nilFunc], .func, false, none, false⟩ := by and_intros <;> kernel_rfl
@[simp] theorem tj30 : tiOf prog 386 = some ⟨1, 8, [.nilFunc], .func, false, none, false⟩ ∧ tiOf prog 390 = some ⟨1, 8, [.nilFunc], .func, false, none, false⟩ ∧ tiOf prog 393 = some ⟨1, 8, [.nilFunc], .func, false, none, false⟩ ∧ tiOf prog 394 = some ⟨1, 8, [.pointer none], .ptr 308, false, none, false⟩ ∧ tiOf prog 400 = some ⟨1, 8, [.nilFunc], .func, false, none, false⟩ ∧ tiOf prog 401 = some ⟨1, 8, [.nilFunc], .func, false, none, false⟩ ∧ tiOf prog 404 = some ⟨3, 24, [.int .i64 0, .int .i64 0, .int .i64 0], .strct [(0, 3, false), (1, 3, false), (2, 3, false)], false, some [.int, .int, .int], true⟩ ∧ tiOf prog 411 = some ⟨1, 8, [.nilFunc], .func, false, none, false⟩ := by and_intros <;> kernel_rfl
@[simp] theorem tj31 : tiOf prog 421 = some ⟨1, 8, [.map none], .map 203 109, false, none, false⟩ ∧ tiOf prog 426 = some ⟨1, 8, [.nilFunc], .func, false, none, false⟩ ∧ tiOf prog 429 = some ⟨1, 8, [.nilFunc], .func, false, none, false⟩ ∧ tiOf prog 431 = some ⟨1, 8, [.int .i64 0], .strct [(0, 43, false)], false, some [.int], true⟩ ∧ tiOf prog 434 = some ⟨1, 8, [.nilFunc], .func, false, none, false⟩ ∧ tiOf prog 436 = some ⟨4, 4, [.bool false, .bool false, .bool false, .bool false], .strct [(0, 4, false), (1, 4, false), (2, 4, false), (3, 4, false)], false, some [.bool, .bool, .bool, .bool], true⟩ ∧ tiOf prog 437 = some ⟨1, 8, [.nilFunc], .func, false, none, false⟩ ∧ tiOf prog 445 = some ⟨1, 8, [.int .i64 0], .int .i64, false, some [.int], false⟩ := by and_intros <;> kernel_rfl
@[simp] theorem tj32 : tiOf prog 452 = some ⟨1, 4, [.int .u32 0], .int .u32, false, some [.int], false⟩ ∧ tiOf prog 454 = some ⟨1, 8, [.int .u64 0], .int .u64, false, some [.int], false⟩ ∧ tiOf prog 455 = some ⟨1, 8, [.map none], .map 203 23, false, none, false⟩ ∧ tiOf prog 457 = some ⟨1, 8, [.nilFunc], .func, false, none, false⟩ ∧ tiOf prog 458 = some ⟨1, 8, [.nilFunc], .func, false, none, false⟩ ∧ tiOf prog 459 = some ⟨1, 8, [.nilFunc], .func, false, none, false⟩ ∧ tiOf prog 463 = some ⟨1, 8, [.nilFunc], .func, false, none, false⟩ ∧ tiOf prog 470 = some ⟨1, 8, [.int .u64 0], .int .u64, false, some [.int], false⟩ := by and_intros <;> kernel_rfl
@[simp] theorem tj33 : tiOf prog 472 = some ⟨1, 8, [.nilFunc], .func, false, none, false⟩ ∧ tiOf prog 474 = some ⟨1, 8, [.pointer none], .ptr 3, false, none, false⟩ ∧ tiOf prog 476 = some ⟨1, 8, [.nilFunc], .func, false, none, false⟩ ∧ tiOf prog 477 = some ⟨1, 8, [.nilFunc], .func, false, none, false⟩ ∧ tiOf prog 478 = some ⟨1, 8, [.nilFunc], .func, false, none, false⟩ ∧ tiOf prog 480 = some ⟨1, 8, [.pointer none], .ptr 470, false, none, false⟩ ∧ tiOf prog 507 = some ⟨1, 8, [.nilFunc], .func, false, none, false⟩ ∧ miOf prog 330 = some ⟨3, 4, false, [.int], ⟨1, 1, [.bool false], .bool, false, some [.bool], false⟩⟩ := by and_intros <;> kernel_rfl
@[simp] theorem tj34 : miOf prog 352 = some ⟨203, 4, true, [.int, .str], ⟨1, 1, [.bool false], .bool, false, some [.bool], false⟩⟩ ∧ miOf prog 353 = some ⟨203, 4, true, [.int, .str], ⟨1, 1, [.bool false], .bool, false, some [.bool], false⟩⟩ ∧ miOf prog 421 = some ⟨203, 109, true, [.int, .str], ⟨7, 104, [.int .i64 0, .string ⟨#[]⟩, .int .i64 0, .int .i64 0, .string ⟨#[]⟩, .slice none 0 0, .slice none 0 0], .strct [(0, 3, false), (1, 9, false), (2, 3, false), (3, 3, false), (4, 9, false), (5, 107, false), (6, 46, false)], false, none, true⟩⟩ ∧ miOf prog 455 = some ⟨203, 23, true, [.int, .str], ⟨1, 24, [.slice none 0 0], .slc 203, false, none, false⟩⟩ := by and_intros <;> kernel_rfl
attribute [simp] ti2 ti43 ti54 qkh qkg
end Go.Proofs.YtmhfcgpmmghakaaGreatDoor
namespace Go.Proofs
open Go.Shelf
def Tryz.lays106_ren : Go.Shelf.Ren := ⟨fun | 106 => 356 | 213 => 386 | 265 => 395 | n => n, fun | 9 => 9 | 3 => 3 | n => n, fun | n => n⟩
theorem Tryz.lays106 : Go.Proofs.Lays.n106 Tryz.prog Tryz.lays106_ren := {
 mixed := by kernel_rfl
 f106 := Tryz.func356.trans (congrArg some (by kernel_rfl))
 f213 := Tryz.func386.trans (congrArg some (by kernel_rfl))
 f265 := Tryz.func395.trans (congrArg some (by kernel_rfl))
 t3 := Tryz.underlying3
 a3 := Tryz.isAgg3
 z3 := Tryz.sizeOf3
 v3 := Tryz.zeroValue3
 t9 := Tryz.underlying9
 a9 := Tryz.isAgg9
 z9 := Tryz.sizeOf9
 v9 := Tryz.zeroValue9 }
open Go.RowKit in
theorem Tryz.strings_Compare (a b : ByteArray) (w : World) :
  Calls Tryz.prog 356 #[.string a, .string b] w fun e w' => e = .returned (.int .i64 (Lib.compareBytes a.data.toList b.data.toList)) ∧ w' = w := Any.strings_Compare Tryz.lays106 a b w
def Tryz.lays143_ren : Go.Shelf.Ren := ⟨fun | 143 => 400 | 219 => 402 | 217 => 403 | 225 => 404 | 224 => 405 | 267 => 406 | 266 => 407 | 314 => 408 | n => n, fun | 9 => 9 | 3 => 3 | 4 => 4 | 5 => 5 | 46 => 376 | 146 => 491 | 51 => 452 | n => n, fun | 1 => 1 | n => n⟩
theorem Tryz.lays143 : Go.Proofs.Lays.n143 Tryz.prog Tryz.lays143_ren := {
 mixed := by kernel_rfl
 f143 := Tryz.func400.trans (congrArg some (by kernel_rfl))
 f217 := Tryz.func403.trans (congrArg some (by kernel_rfl))
 f219 := Tryz.func402.trans (congrArg some (by kernel_rfl))
 f224 := Tryz.func405.trans (congrArg some (by kernel_rfl))
 f225 := Tryz.func404.trans (congrArg some (by kernel_rfl))
 f266 := Tryz.func407.trans (congrArg some (by kernel_rfl))
 f267 := Tryz.func406.trans (congrArg some (by kernel_rfl))
 f314 := Tryz.func408.trans (congrArg some (by kernel_rfl))
 t3 := Tryz.underlying3
 a3 := Tryz.isAgg3
 z3 := Tryz.sizeOf3
 v3 := Tryz.zeroValue3
 t4 := Tryz.underlying4
 a4 := Tryz.isAgg4
 z4 := Tryz.sizeOf4
 v4 := Tryz.zeroValue4
 t5 := Tryz.underlying5
 a5 := Tryz.isAgg5
 z5 := Tryz.sizeOf5
 v5 := Tryz.zeroValue5
 t9 := Tryz.underlying9
 a9 := Tryz.isAgg9
 z9 := Tryz.sizeOf9
 v9 := Tryz.zeroValue9
 t46 := Tryz.underlying376
 a46 := Tryz.isAgg376
 z46 := Tryz.sizeOf376
 v46 := Tryz.zeroValue376
 t51 := Tryz.underlying452
 a51 := Tryz.isAgg452
 z51 := Tryz.sizeOf452
 v51 := Tryz.zeroValue452
 t146 := Tryz.underlying491
 a146 := Tryz.isAgg491
 z146 := Tryz.sizeOf491
 v146 := Tryz.zeroValue491
 g1 := by kernel_rfl }
open Go.RowKit Go.Lib in
theorem Tryz.strings_Index_one (s : ByteArray) (c : UInt8) (w : World) :
  Calls Tryz.prog 400 #[.string s, .string ⟨#[c]⟩] w fun e w' => e = .returned (.int .i64 (Lib.indexByte s.data.toList c)) ∧ w' = w := Any.strings_Index_one Tryz.lays143 s c w
def Tryz.sortKeys_ren : Go.Shelf.Ren := ⟨fun | 6 => 241 | 15 => 309 | 14 => 308 | 28 => 365 | 29 => 366 | 20 => 357 | 21 => 358 | 22 => 359 | 23 => 360 | 24 => 361 | 25 => 362 | 26 => 363 | 27 => 364 | 46 => 387 | 47 => 388 | 48 => 389 | 49 => 390 | 50 => 391 | 57 => 396 | n => n, fun | 22 => 23 | 24 => 203 | 25 => 348 | 3 => 3 | 39 => 376 | 0 => 0 | 53 => 452 | 55 => 454 | 4 => 4 | 46 => 446 | 45 => 445 | 50 => 148 | 5 => 5 | 9 => 9 | 66 => 470 | 70 => 474 | 76 => 480 | 77 => 481 | n => n, fun | n => n⟩
theorem Tryz.sortKeys : Go.Proofs.SlLaysF0.n6 Tryz.prog Tryz.sortKeys_ren := {
 mixed := by kernel_rfl
 f6 := ⟨Tryz.f241.name, by decide, Tryz.func241.trans (congrArg some (by kernel_rfl))⟩
 f14 := ⟨Tryz.f308.name, by decide, Tryz.func308.trans (congrArg some (by kernel_rfl))⟩
 f15 := Tryz.func309.trans (congrArg some (by kernel_rfl))
 f20 := ⟨Tryz.f357.name, by decide, Tryz.func357.trans (congrArg some (by kernel_rfl))⟩
 f21 := ⟨Tryz.f358.name, by decide, Tryz.func358.trans (congrArg some (by kernel_rfl))⟩
 f22 := ⟨Tryz.f359.name, by decide, Tryz.func359.trans (congrArg some (by kernel_rfl))⟩
 f23 := ⟨Tryz.f360.name, by decide, Tryz.func360.trans (congrArg some (by kernel_rfl))⟩
 f24 := ⟨Tryz.f361.name, by decide, Tryz.func361.trans (congrArg some (by kernel_rfl))⟩
 f25 := ⟨Tryz.f362.name, by decide, Tryz.func362.trans (congrArg some (by kernel_rfl))⟩
 f26 := ⟨Tryz.f363.name, by decide, Tryz.func363.trans (congrArg some (by kernel_rfl))⟩
 f27 := ⟨Tryz.f364.name, by decide, Tryz.func364.trans (congrArg some (by kernel_rfl))⟩
 f28 := Tryz.func365.trans (congrArg some (by kernel_rfl))
 f29 := Tryz.func366.trans (congrArg some (by kernel_rfl))
 f46 := ⟨Tryz.f387.name, by decide, Tryz.func387.trans (congrArg some (by kernel_rfl))⟩
 f47 := Tryz.func388.trans (congrArg some (by kernel_rfl))
 f48 := Tryz.func389.trans (congrArg some (by kernel_rfl))
 f49 := ⟨Tryz.f390.name, by decide, Tryz.func390.trans (congrArg some (by kernel_rfl))⟩
 f50 := ⟨Tryz.f391.name, by decide, Tryz.func391.trans (congrArg some (by kernel_rfl))⟩
 f57 := ⟨Tryz.f396.name, by decide, Tryz.func396.trans (congrArg some (by kernel_rfl))⟩
 t0 := Tryz.underlying0
 a0 := Tryz.isAgg0
 z0 := Tryz.sizeOf0
 v0 := Tryz.zeroValue0
 t3 := Tryz.underlying3
 a3 := Tryz.isAgg3
 z3 := Tryz.sizeOf3
 v3 := Tryz.zeroValue3
 t4 := Tryz.underlying4
 a4 := Tryz.isAgg4
 z4 := Tryz.sizeOf4
 v4 := Tryz.zeroValue4
 t5 := Tryz.underlying5
 a5 := Tryz.isAgg5
 z5 := Tryz.sizeOf5
 v5 := Tryz.zeroValue5
 t9 := Tryz.underlying9
 a9 := Tryz.isAgg9
 z9 := Tryz.sizeOf9
 v9 := Tryz.zeroValue9
 t22 := Tryz.underlying23
 a22 := Tryz.isAgg23
 z22 := Tryz.sizeOf23
 v22 := Tryz.zeroValue23
 t25 := Tryz.underlying348
 a25 := Tryz.isAgg348
 z25 := Tryz.sizeOf348
 v25 := Tryz.zeroValue348
 t39 := Tryz.underlying376
 a39 := Tryz.isAgg376
 z39 := Tryz.sizeOf376
 v39 := Tryz.zeroValue376
 t45 := Tryz.underlying445
 a45 := Tryz.isAgg445
 z45 := Tryz.sizeOf445
 v45 := Tryz.zeroValue445
 t46 := Tryz.underlying446
 a46 := Tryz.isAgg446
 z46 := Tryz.sizeOf446
 v46 := Tryz.zeroValue446
 t50 := Tryz.underlying148
 a50 := Tryz.isAgg148
 z50 := Tryz.sizeOf148
 v50 := Tryz.zeroValue148
 t53 := Tryz.underlying452
 a53 := Tryz.isAgg452
 z53 := Tryz.sizeOf452
 v53 := Tryz.zeroValue452
 t55 := Tryz.underlying454
 a55 := Tryz.isAgg454
 z55 := Tryz.sizeOf454
 v55 := Tryz.zeroValue454
 t66 := Tryz.underlying470
 a66 := Tryz.isAgg470
 z66 := Tryz.sizeOf470
 v66 := Tryz.zeroValue470
 t70 := Tryz.underlying474
 a70 := Tryz.isAgg474
 z70 := Tryz.sizeOf474
 v70 := Tryz.zeroValue474
 t76 := Tryz.underlying480
 a76 := Tryz.isAgg480
 z76 := Tryz.sizeOf480
 v76 := Tryz.zeroValue480
 t77 := Tryz.underlying481
 a77 := Tryz.isAgg481
 z77 := Tryz.sizeOf481
 v77 := Tryz.zeroValue481 }
end Go.Proofs
