/-
  LAYER 13: facts about the types of this program.
-/
import Derived.Test.YtipkcdjpaneimaaAi2
import Derived.Test.YtipkcdjpaneimaaNPlain
import Derived.Test.YtipkcdjpaneimaaChecked
set_option linter.unusedSimpArgs false
set_option linter.unusedVariables false
namespace Go.Proofs.Ytipkcdjpaneimaa
open Go.AI
-- int64
theorem ti2 : tiOf Try.prog 2 = some { sz := 1, bytes := 8, zero := [.int .i64 0], k := .int .i64, eg := false, fl := some [.int] } := by kernel_rfl
theorem sz2 : szOf Try.prog 2 = 1 := by kernel_rfl
-- int
theorem ti3 : tiOf Try.prog 3 = some { sz := 1, bytes := 8, zero := [.int .i64 0], k := .int .i64, eg := false, fl := some [.int] } := by kernel_rfl
theorem sz3 : szOf Try.prog 3 = 1 := by kernel_rfl
-- bool
theorem ti4 : tiOf Try.prog 4 = some { sz := 1, bytes := 1, zero := [.bool false], k := .bool, eg := false, fl := some [.bool] } := by kernel_rfl
theorem sz4 : szOf Try.prog 4 = 1 := by kernel_rfl
-- uint8
theorem ti5 : tiOf Try.prog 5 = some { sz := 1, bytes := 1, zero := [.int .u8 0], k := .int .u8, eg := false, fl := some [.int] } := by kernel_rfl
theorem sz5 : szOf Try.prog 5 = 1 := by kernel_rfl
-- string
theorem ti9 : tiOf Try.prog 9 = some { sz := 1, bytes := 16, zero := [.string ⟨#[]⟩], k := .str, eg := false, fl := some [.str] } := by kernel_rfl
theorem sz9 : szOf Try.prog 9 = 1 := by kernel_rfl
-- uintptr
theorem ti12 : tiOf Try.prog 12 = some { sz := 1, bytes := 8, zero := [.int .u64 0], k := .int .u64, eg := false, fl := some [.int] } := by kernel_rfl
theorem sz12 : szOf Try.prog 12 = 1 := by kernel_rfl
-- interface ()
theorem ti20 : tiOf Try.prog 20 = some { sz := 1, bytes := 16, zero := [.nilIface], k := .iface true, eg := false, fl := none } := by kernel_rfl
theorem sz20 : szOf Try.prog 20 = 1 := by kernel_rfl
-- int32
theorem ti21 : tiOf Try.prog 21 = some { sz := 1, bytes := 4, zero := [.int .i32 0], k := .int .i32, eg := false, fl := some [.int] } := by kernel_rfl
theorem sz21 : szOf Try.prog 21 = 1 := by kernel_rfl
-- [4]int
theorem ti22 : tiOf Try.prog 22 = some { sz := 4, bytes := 32, zero := [.int .i64 0, .int .i64 0, .int .i64 0, .int .i64 0], k := .arr 4 3, eg := false, fl := some [.int, .int, .int, .int] } := by kernel_rfl
theorem sz22 : szOf Try.prog 22 = 4 := by kernel_rfl
-- [4]bool
theorem ti23 : tiOf Try.prog 23 = some { sz := 4, bytes := 4, zero := [.bool false, .bool false, .bool false, .bool false], k := .arr 4 4, eg := false, fl := some [.bool, .bool, .bool, .bool] } := by kernel_rfl
theorem sz23 : szOf Try.prog 23 = 4 := by kernel_rfl
-- struct ( Last [4]int; Open [4]bool; Max int )
theorem ti24 : tiOf Try.prog 24 = some { sz := 9, bytes := 48, zero := [.int .i64 0, .int .i64 0, .int .i64 0, .int .i64 0, .bool false, .bool false, .bool false, .bool false, .int .i64 0], k := .strct [(0, 22, false), (4, 23, false), (8, 3, false)], eg := false, fl := some [.int, .int, .int, .int, .bool, .bool, .bool, .bool, .int] } := by kernel_rfl
theorem sz24 : szOf Try.prog 24 = 9 := by kernel_rfl
-- groyneref13.Out
theorem ti25 : tiOf Try.prog 25 = some { sz := 9, bytes := 48, zero := [.int .i64 0, .int .i64 0, .int .i64 0, .int .i64 0, .bool false, .bool false, .bool false, .bool false, .int .i64 0], k := .strct [(0, 22, false), (4, 23, false), (8, 3, false)], eg := false, fl := some [.int, .int, .int, .int, .bool, .bool, .bool, .bool, .int] } := by kernel_rfl
theorem sz25 : szOf Try.prog 25 = 9 := by kernel_rfl
-- struct ( Last [4]int; Max int )
theorem ti26 : tiOf Try.prog 26 = some { sz := 5, bytes := 40, zero := [.int .i64 0, .int .i64 0, .int .i64 0, .int .i64 0, .int .i64 0], k := .strct [(0, 22, false), (4, 3, false)], eg := false, fl := some [.int, .int, .int, .int, .int] } := by kernel_rfl
theorem sz26 : szOf Try.prog 26 = 5 := by kernel_rfl
-- groyneref13.In
theorem ti27 : tiOf Try.prog 27 = some { sz := 5, bytes := 40, zero := [.int .i64 0, .int .i64 0, .int .i64 0, .int .i64 0, .int .i64 0], k := .strct [(0, 22, false), (4, 3, false)], eg := false, fl := some [.int, .int, .int, .int, .int] } := by kernel_rfl
theorem sz27 : szOf Try.prog 27 = 5 := by kernel_rfl
-- nonce.Out
theorem ti29 : tiOf Try.prog 29 = some { sz := 9, bytes := 48, zero := [.int .i64 0, .int .i64 0, .int .i64 0, .int .i64 0, .bool false, .bool false, .bool false, .bool false, .int .i64 0], k := .strct [(0, 22, false), (4, 23, false), (8, 3, false)], eg := false, fl := some [.int, .int, .int, .int, .bool, .bool, .bool, .bool, .int] } := by kernel_rfl
theorem sz29 : szOf Try.prog 29 = 9 := by kernel_rfl
-- api.Errno
theorem ti30 : tiOf Try.prog 30 = some { sz := 1, bytes := 8, zero := [.int .i64 0], k := .int .i64, eg := false, fl := some [.int] } := by kernel_rfl
theorem sz30 : szOf Try.prog 30 = 1 := by kernel_rfl
-- nonce.In
theorem ti40 : tiOf Try.prog 40 = some { sz := 5, bytes := 40, zero := [.int .i64 0, .int .i64 0, .int .i64 0, .int .i64 0, .int .i64 0], k := .strct [(0, 22, false), (4, 3, false)], eg := false, fl := some [.int, .int, .int, .int, .int] } := by kernel_rfl
theorem sz40 : szOf Try.prog 40 = 5 := by kernel_rfl
-- []groynelaw13.Act
theorem ti55 : tiOf Try.prog 55 = some { sz := 1, bytes := 24, zero := [.slice none 0 0], k := .slc 57, eg := false, fl := none } := by kernel_rfl
theorem sz55 : szOf Try.prog 55 = 1 := by kernel_rfl
-- struct ( What int; Kind int; N int )
theorem ti56 : tiOf Try.prog 56 = some { sz := 3, bytes := 24, zero := [.int .i64 0, .int .i64 0, .int .i64 0], k := .strct [(0, 3, false), (1, 3, false), (2, 3, false)], eg := false, fl := some [.int, .int, .int] } := by kernel_rfl
theorem sz56 : szOf Try.prog 56 = 3 := by kernel_rfl
-- groynelaw13.Act
theorem ti57 : tiOf Try.prog 57 = some { sz := 3, bytes := 24, zero := [.int .i64 0, .int .i64 0, .int .i64 0], k := .strct [(0, 3, false), (1, 3, false), (2, 3, false)], eg := false, fl := some [.int, .int, .int] } := by kernel_rfl
theorem sz57 : szOf Try.prog 57 = 3 := by kernel_rfl
-- uint32
theorem ti75 : tiOf Try.prog 75 = some { sz := 1, bytes := 4, zero := [.int .u32 0], k := .int .u32, eg := false, fl := some [.int] } := by kernel_rfl
theorem sz75 : szOf Try.prog 75 = 1 := by kernel_rfl
-- *uint8
theorem ti79 : tiOf Try.prog 79 = some { sz := 1, bytes := 8, zero := [.pointer none], k := .ptr 5, eg := false, fl := none } := by kernel_rfl
theorem sz79 : szOf Try.prog 79 = 1 := by kernel_rfl
attribute [simp] ti2 sz2 ti3 sz3 ti4 sz4 ti5 sz5 ti9 sz9 ti12 sz12 ti20 sz20 ti21 sz21 ti22 sz22 ti23 sz23 ti24 sz24 ti25 sz25 ti26 sz26 ti27 sz27 ti29 sz29 ti30 sz30 ti40 sz40 ti55 sz55 ti56 sz56 ti57 sz57 ti75 sz75 ti79 sz79
end Go.Proofs.Ytipkcdjpaneimaa
