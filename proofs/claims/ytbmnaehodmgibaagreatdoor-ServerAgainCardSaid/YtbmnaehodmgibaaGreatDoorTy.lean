/-
  Facts about the types of this program, and the library's contracts laid at it.
-/
import Derived.Test.YtbmnaehodmgibaaGreatDoorFc
import Derived.Test.YtbmnaehodmgibaaGreatDoorProg
import Derived.Shelf.Small.Strs
import Derived.Shelf.Strings.Search1
import Derived.Shelf.Strings.Search2
import Derived.Shelf.Strings.Search3
import Derived.Shelf.SlSortCmp.NoneTotal
import Derived.Ground.SlsfProg
set_option linter.unusedSimpArgs false
set_option linter.unusedVariables false
section
namespace Go.Proofs.YtbmnaehodmgibaaGreatDoor
open Go.AI
theorem ti1 : tiOf Tryz.prog 1 = some { sz := 1, bytes := 8, zero := [.nilFunc], k := .func, eg := false, fl := none, za := false } := by kernel_rfl
theorem sz1 : szOf Tryz.prog 1 = 1 := by kernel_rfl
theorem ti2 : tiOf Tryz.prog 2 = some { sz := 1, bytes := 8, zero := [.int .i64 0], k := .int .i64, eg := false, fl := some [.int], za := false } := by kernel_rfl
theorem sz2 : szOf Tryz.prog 2 = 1 := by kernel_rfl
theorem ti3 : tiOf Tryz.prog 3 = some { sz := 1, bytes := 8, zero := [.int .i64 0], k := .int .i64, eg := false, fl := some [.int], za := false } := by kernel_rfl
theorem sz3 : szOf Tryz.prog 3 = 1 := by kernel_rfl
theorem ti4 : tiOf Tryz.prog 4 = some { sz := 1, bytes := 1, zero := [.bool false], k := .bool, eg := false, fl := some [.bool], za := false } := by kernel_rfl
theorem sz4 : szOf Tryz.prog 4 = 1 := by kernel_rfl
theorem ti5 : tiOf Tryz.prog 5 = some { sz := 1, bytes := 1, zero := [.int .u8 0], k := .int .u8, eg := false, fl := some [.int], za := false } := by kernel_rfl
theorem sz5 : szOf Tryz.prog 5 = 1 := by kernel_rfl
theorem ti9 : tiOf Tryz.prog 9 = some { sz := 1, bytes := 16, zero := [.string ⟨#[]⟩], k := .str, eg := false, fl := some [.str], za := false } := by kernel_rfl
theorem sz9 : szOf Tryz.prog 9 = 1 := by kernel_rfl
theorem ti12 : tiOf Tryz.prog 12 = some { sz := 1, bytes := 8, zero := [.int .u64 0], k := .int .u64, eg := false, fl := some [.int], za := false } := by kernel_rfl
theorem sz12 : szOf Tryz.prog 12 = 1 := by kernel_rfl
theorem ti20 : tiOf Tryz.prog 20 = some { sz := 1, bytes := 16, zero := [.nilIface], k := .iface true, eg := false, fl := none, za := false } := by kernel_rfl
theorem sz20 : szOf Tryz.prog 20 = 1 := by kernel_rfl
theorem ti21 : tiOf Tryz.prog 21 = some { sz := 1, bytes := 4, zero := [.int .i32 0], k := .int .i32, eg := false, fl := some [.int], za := false } := by kernel_rfl
theorem sz21 : szOf Tryz.prog 21 = 1 := by kernel_rfl
theorem ti22 : tiOf Tryz.prog 22 = some { sz := 4, bytes := 32, zero := [.int .i64 0, .int .i64 0, .int .i64 0, .int .i64 0], k := .arr 4 3, eg := false, fl := some [.int, .int, .int, .int], za := true } := by kernel_rfl
theorem sz22 : szOf Tryz.prog 22 = 4 := by kernel_rfl
theorem ti23 : tiOf Tryz.prog 23 = some { sz := 4, bytes := 4, zero := [.bool false, .bool false, .bool false, .bool false], k := .arr 4 4, eg := false, fl := some [.bool, .bool, .bool, .bool], za := true } := by kernel_rfl
theorem sz23 : szOf Tryz.prog 23 = 4 := by kernel_rfl
theorem ti24 : tiOf Tryz.prog 24 = some { sz := 9, bytes := 48, zero := [.int .i64 0, .int .i64 0, .int .i64 0, .int .i64 0, .bool false, .bool false, .bool false, .bool false, .int .i64 0], k := .strct [(0, 22, false), (4, 23, false), (8, 3, false)], eg := false, fl := some [.int, .int, .int, .int, .bool, .bool, .bool, .bool, .int], za := true } := by kernel_rfl
theorem sz24 : szOf Tryz.prog 24 = 9 := by kernel_rfl
theorem ti25 : tiOf Tryz.prog 25 = some { sz := 9, bytes := 48, zero := [.int .i64 0, .int .i64 0, .int .i64 0, .int .i64 0, .bool false, .bool false, .bool false, .bool false, .int .i64 0], k := .strct [(0, 22, false), (4, 23, false), (8, 3, false)], eg := false, fl := some [.int, .int, .int, .int, .bool, .bool, .bool, .bool, .int], za := true } := by kernel_rfl
theorem sz25 : szOf Tryz.prog 25 = 9 := by kernel_rfl
theorem ti26 : tiOf Tryz.prog 26 = some { sz := 1, bytes := 24, zero := [.slice none 0 0], k := .slc 85, eg := false, fl := none, za := false } := by kernel_rfl
theorem sz26 : szOf Tryz.prog 26 = 1 := by kernel_rfl
theorem ti27 : tiOf Tryz.prog 27 = some { sz := 1, bytes := 24, zero := [.slice none 0 0], k := .slc 89, eg := false, fl := none, za := false } := by kernel_rfl
theorem sz27 : szOf Tryz.prog 27 = 1 := by kernel_rfl
theorem ti28 : tiOf Tryz.prog 28 = some { sz := 1, bytes := 8, zero := [.int .i64 0], k := .int .i64, eg := false, fl := some [.int], za := false } := by kernel_rfl
theorem sz28 : szOf Tryz.prog 28 = 1 := by kernel_rfl
theorem ti29 : tiOf Tryz.prog 29 = some { sz := 1, bytes := 24, zero := [.slice none 0 0], k := .slc 122, eg := false, fl := none, za := false } := by kernel_rfl
theorem sz29 : szOf Tryz.prog 29 = 1 := by kernel_rfl
theorem ti30 : tiOf Tryz.prog 30 = some { sz := 10, bytes := 144, zero := [.int .i64 0, .int .i64 0, .int .i64 0, .int .i64 0, .int .i64 0, .slice none 0 0, .slice none 0 0, .int .i64 0, .slice none 0 0, .slice none 0 0], k := .strct [(0, 3, false), (1, 3, false), (2, 3, false), (3, 3, false), (4, 3, false), (5, 26, false), (6, 27, false), (7, 28, false), (8, 29, false), (9, 27, false)], eg := false, fl := none, za := true } := by kernel_rfl
theorem sz30 : szOf Tryz.prog 30 = 10 := by kernel_rfl
theorem ti31 : tiOf Tryz.prog 31 = some { sz := 10, bytes := 144, zero := [.int .i64 0, .int .i64 0, .int .i64 0, .int .i64 0, .int .i64 0, .slice none 0 0, .slice none 0 0, .int .i64 0, .slice none 0 0, .slice none 0 0], k := .strct [(0, 3, false), (1, 3, false), (2, 3, false), (3, 3, false), (4, 3, false), (5, 26, false), (6, 27, false), (7, 28, false), (8, 29, false), (9, 27, false)], eg := false, fl := none, za := true } := by kernel_rfl
theorem sz31 : szOf Tryz.prog 31 = 10 := by kernel_rfl
theorem ti32 : tiOf Tryz.prog 32 = some { sz := 14, bytes := 208, zero := [.slice none 0 0, .slice none 0 0, .int .i64 0, .int .i64 0, .int .i64 0, .int .i64 0, .int .i64 0, .int .i64 0, .slice none 0 0, .slice none 0 0, .int .i64 0, .slice none 0 0, .slice none 0 0, .bool false], k := .strct [(0, 26, false), (1, 27, false), (2, 3, false), (3, 31, false), (13, 4, false)], eg := false, fl := none, za := true } := by kernel_rfl
theorem sz32 : szOf Tryz.prog 32 = 14 := by kernel_rfl
theorem ti33 : tiOf Tryz.prog 33 = some { sz := 14, bytes := 208, zero := [.slice none 0 0, .slice none 0 0, .int .i64 0, .int .i64 0, .int .i64 0, .int .i64 0, .int .i64 0, .int .i64 0, .slice none 0 0, .slice none 0 0, .int .i64 0, .slice none 0 0, .slice none 0 0, .bool false], k := .strct [(0, 26, false), (1, 27, false), (2, 3, false), (3, 31, false), (13, 4, false)], eg := false, fl := none, za := true } := by kernel_rfl
theorem sz33 : szOf Tryz.prog 33 = 14 := by kernel_rfl
theorem ti34 : tiOf Tryz.prog 34 = some { sz := 27, bytes := 288, zero := [.int .i64 0, .bool false, .int .i64 0, .int .i64 0, .int .i64 0, .int .i64 0, .bool false, .bool false, .bool false, .bool false, .int .i64 0, .slice none 0 0, .slice none 0 0, .int .i64 0, .int .i64 0, .int .i64 0, .int .i64 0, .int .i64 0, .int .i64 0, .slice none 0 0, .slice none 0 0, .int .i64 0, .slice none 0 0, .slice none 0 0, .bool false, .int .i64 0, .int .i64 0], k := .strct [(0, 3, false), (1, 4, false), (2, 25, false), (11, 33, false), (25, 28, false), (26, 3, false)], eg := false, fl := none, za := true } := by kernel_rfl
theorem sz34 : szOf Tryz.prog 34 = 27 := by kernel_rfl
theorem ti35 : tiOf Tryz.prog 35 = some { sz := 27, bytes := 288, zero := [.int .i64 0, .bool false, .int .i64 0, .int .i64 0, .int .i64 0, .int .i64 0, .bool false, .bool false, .bool false, .bool false, .int .i64 0, .slice none 0 0, .slice none 0 0, .int .i64 0, .int .i64 0, .int .i64 0, .int .i64 0, .int .i64 0, .int .i64 0, .slice none 0 0, .slice none 0 0, .int .i64 0, .slice none 0 0, .slice none 0 0, .bool false, .int .i64 0, .int .i64 0], k := .strct [(0, 3, false), (1, 4, false), (2, 25, false), (11, 33, false), (25, 28, false), (26, 3, false)], eg := false, fl := none, za := true } := by kernel_rfl
theorem sz35 : szOf Tryz.prog 35 = 27 := by kernel_rfl
theorem ti36 : tiOf Tryz.prog 36 = some { sz := 1, bytes := 24, zero := [.slice none 0 0], k := .slc 26, eg := false, fl := none, za := false } := by kernel_rfl
theorem sz36 : szOf Tryz.prog 36 = 1 := by kernel_rfl
theorem ti37 : tiOf Tryz.prog 37 = some { sz := 2, bytes := 32, zero := [.int .i64 0, .slice none 0 0], k := .strct [(0, 3, false), (1, 36, false)], eg := false, fl := none, za := true } := by kernel_rfl
theorem sz37 : szOf Tryz.prog 37 = 2 := by kernel_rfl
theorem ti38 : tiOf Tryz.prog 38 = some { sz := 2, bytes := 32, zero := [.int .i64 0, .slice none 0 0], k := .strct [(0, 3, false), (1, 36, false)], eg := false, fl := none, za := true } := by kernel_rfl
theorem sz38 : szOf Tryz.prog 38 = 2 := by kernel_rfl
theorem ti39 : tiOf Tryz.prog 39 = some { sz := 1, bytes := 8, zero := [.nilFunc], k := .func, eg := false, fl := none, za := false } := by kernel_rfl
theorem sz39 : szOf Tryz.prog 39 = 1 := by kernel_rfl
theorem ti40 : tiOf Tryz.prog 40 = some { sz := 1, bytes := 8, zero := [.nilFunc], k := .func, eg := false, fl := none, za := false } := by kernel_rfl
theorem sz40 : szOf Tryz.prog 40 = 1 := by kernel_rfl
theorem ti41 : tiOf Tryz.prog 41 = some { sz := 1, bytes := 8, zero := [.nilFunc], k := .func, eg := false, fl := none, za := false } := by kernel_rfl
theorem sz41 : szOf Tryz.prog 41 = 1 := by kernel_rfl
theorem ti42 : tiOf Tryz.prog 42 = some { sz := 1, bytes := 8, zero := [.nilFunc], k := .func, eg := false, fl := none, za := false } := by kernel_rfl
theorem sz42 : szOf Tryz.prog 42 = 1 := by kernel_rfl
theorem ti43 : tiOf Tryz.prog 43 = some { sz := 9, bytes := 48, zero := [.int .i64 0, .int .i64 0, .int .i64 0, .int .i64 0, .bool false, .bool false, .bool false, .bool false, .int .i64 0], k := .strct [(0, 22, false), (4, 23, false), (8, 3, false)], eg := false, fl := some [.int, .int, .int, .int, .bool, .bool, .bool, .bool, .int], za := true } := by kernel_rfl
theorem sz43 : szOf Tryz.prog 43 = 9 := by kernel_rfl
theorem ti44 : tiOf Tryz.prog 44 = some { sz := 1, bytes := 24, zero := [.slice none 0 0], k := .slc 128, eg := false, fl := none, za := false } := by kernel_rfl
theorem sz44 : szOf Tryz.prog 44 = 1 := by kernel_rfl
theorem ti45 : tiOf Tryz.prog 45 = some { sz := 10, bytes := 144, zero := [.int .i64 0, .int .i64 0, .int .i64 0, .int .i64 0, .int .i64 0, .slice none 0 0, .slice none 0 0, .int .i64 0, .slice none 0 0, .slice none 0 0], k := .strct [(0, 3, false), (1, 3, false), (2, 3, false), (3, 3, false), (4, 3, false), (5, 26, false), (6, 27, false), (7, 28, false), (8, 44, false), (9, 27, false)], eg := false, fl := none, za := true } := by kernel_rfl
theorem sz45 : szOf Tryz.prog 45 = 10 := by kernel_rfl
theorem ti46 : tiOf Tryz.prog 46 = some { sz := 10, bytes := 144, zero := [.int .i64 0, .int .i64 0, .int .i64 0, .int .i64 0, .int .i64 0, .slice none 0 0, .slice none 0 0, .int .i64 0, .slice none 0 0, .slice none 0 0], k := .strct [(0, 3, false), (1, 3, false), (2, 3, false), (3, 3, false), (4, 3, false), (5, 26, false), (6, 27, false), (7, 28, false), (8, 44, false), (9, 27, false)], eg := false, fl := none, za := true } := by kernel_rfl
theorem sz46 : szOf Tryz.prog 46 = 10 := by kernel_rfl
theorem ti47 : tiOf Tryz.prog 47 = some { sz := 14, bytes := 208, zero := [.slice none 0 0, .slice none 0 0, .int .i64 0, .int .i64 0, .int .i64 0, .int .i64 0, .int .i64 0, .int .i64 0, .slice none 0 0, .slice none 0 0, .int .i64 0, .slice none 0 0, .slice none 0 0, .bool false], k := .strct [(0, 26, false), (1, 27, false), (2, 3, false), (3, 46, false), (13, 4, false)], eg := false, fl := none, za := true } := by kernel_rfl
theorem sz47 : szOf Tryz.prog 47 = 14 := by kernel_rfl
theorem ti48 : tiOf Tryz.prog 48 = some { sz := 14, bytes := 208, zero := [.slice none 0 0, .slice none 0 0, .int .i64 0, .int .i64 0, .int .i64 0, .int .i64 0, .int .i64 0, .int .i64 0, .slice none 0 0, .slice none 0 0, .int .i64 0, .slice none 0 0, .slice none 0 0, .bool false], k := .strct [(0, 26, false), (1, 27, false), (2, 3, false), (3, 46, false), (13, 4, false)], eg := false, fl := none, za := true } := by kernel_rfl
theorem sz48 : szOf Tryz.prog 48 = 14 := by kernel_rfl
theorem ti49 : tiOf Tryz.prog 49 = some { sz := 27, bytes := 288, zero := [.int .i64 0, .bool false, .int .i64 0, .int .i64 0, .int .i64 0, .int .i64 0, .bool false, .bool false, .bool false, .bool false, .int .i64 0, .slice none 0 0, .slice none 0 0, .int .i64 0, .int .i64 0, .int .i64 0, .int .i64 0, .int .i64 0, .int .i64 0, .slice none 0 0, .slice none 0 0, .int .i64 0, .slice none 0 0, .slice none 0 0, .bool false, .int .i64 0, .int .i64 0], k := .strct [(0, 3, false), (1, 4, false), (2, 43, false), (11, 48, false), (25, 28, false), (26, 3, false)], eg := false, fl := none, za := true } := by kernel_rfl
theorem sz49 : szOf Tryz.prog 49 = 27 := by kernel_rfl
theorem ti50 : tiOf Tryz.prog 50 = some { sz := 27, bytes := 288, zero := [.int .i64 0, .bool false, .int .i64 0, .int .i64 0, .int .i64 0, .int .i64 0, .bool false, .bool false, .bool false, .bool false, .int .i64 0, .slice none 0 0, .slice none 0 0, .int .i64 0, .int .i64 0, .int .i64 0, .int .i64 0, .int .i64 0, .int .i64 0, .slice none 0 0, .slice none 0 0, .int .i64 0, .slice none 0 0, .slice none 0 0, .bool false, .int .i64 0, .int .i64 0], k := .strct [(0, 3, false), (1, 4, false), (2, 43, false), (11, 48, false), (25, 28, false), (26, 3, false)], eg := false, fl := none, za := true } := by kernel_rfl
theorem sz50 : szOf Tryz.prog 50 = 27 := by kernel_rfl
theorem ti51 : tiOf Tryz.prog 51 = some { sz := 1, bytes := 8, zero := [.nilFunc], k := .func, eg := false, fl := none, za := false } := by kernel_rfl
theorem sz51 : szOf Tryz.prog 51 = 1 := by kernel_rfl
theorem ti53 : tiOf Tryz.prog 53 = some { sz := 1, bytes := 8, zero := [.nilFunc], k := .func, eg := false, fl := none, za := false } := by kernel_rfl
theorem sz53 : szOf Tryz.prog 53 = 1 := by kernel_rfl
theorem ti54 : tiOf Tryz.prog 54 = some { sz := 2, bytes := 32, zero := [.int .i64 0, .slice none 0 0], k := .strct [(0, 3, false), (1, 36, false)], eg := false, fl := none, za := true } := by kernel_rfl
theorem sz54 : szOf Tryz.prog 54 = 2 := by kernel_rfl
theorem ti55 : tiOf Tryz.prog 55 = some { sz := 1, bytes := 8, zero := [.nilFunc], k := .func, eg := false, fl := none, za := false } := by kernel_rfl
theorem sz55 : szOf Tryz.prog 55 = 1 := by kernel_rfl
theorem ti56 : tiOf Tryz.prog 56 = some { sz := 1, bytes := 8, zero := [.nilFunc], k := .func, eg := false, fl := none, za := false } := by kernel_rfl
theorem sz56 : szOf Tryz.prog 56 = 1 := by kernel_rfl
theorem ti57 : tiOf Tryz.prog 57 = some { sz := 1, bytes := 8, zero := [.nilFunc], k := .func, eg := false, fl := none, za := false } := by kernel_rfl
theorem sz57 : szOf Tryz.prog 57 = 1 := by kernel_rfl
theorem ti58 : tiOf Tryz.prog 58 = some { sz := 1, bytes := 8, zero := [.nilFunc], k := .func, eg := false, fl := none, za := false } := by kernel_rfl
theorem sz58 : szOf Tryz.prog 58 = 1 := by kernel_rfl
theorem ti59 : tiOf Tryz.prog 59 = some { sz := 1, bytes := 8, zero := [.nilFunc], k := .func, eg := false, fl := none, za := false } := by kernel_rfl
theorem sz59 : szOf Tryz.prog 59 = 1 := by kernel_rfl
theorem ti60 : tiOf Tryz.prog 60 = some { sz := 1, bytes := 8, zero := [.nilFunc], k := .func, eg := false, fl := none, za := false } := by kernel_rfl
theorem sz60 : szOf Tryz.prog 60 = 1 := by kernel_rfl
theorem ti61 : tiOf Tryz.prog 61 = some { sz := 1, bytes := 8, zero := [.nilFunc], k := .func, eg := false, fl := none, za := false } := by kernel_rfl
theorem sz61 : szOf Tryz.prog 61 = 1 := by kernel_rfl
theorem ti62 : tiOf Tryz.prog 62 = some { sz := 1, bytes := 24, zero := [.slice none 0 0], k := .slc 46, eg := false, fl := none, za := false } := by kernel_rfl
theorem sz62 : szOf Tryz.prog 62 = 1 := by kernel_rfl
theorem ti64 : tiOf Tryz.prog 64 = some { sz := 1, bytes := 8, zero := [.nilFunc], k := .func, eg := false, fl := none, za := false } := by kernel_rfl
theorem sz64 : szOf Tryz.prog 64 = 1 := by kernel_rfl
theorem ti65 : tiOf Tryz.prog 65 = some { sz := 1, bytes := 8, zero := [.nilFunc], k := .func, eg := false, fl := none, za := false } := by kernel_rfl
theorem sz65 : szOf Tryz.prog 65 = 1 := by kernel_rfl
theorem ti66 : tiOf Tryz.prog 66 = some { sz := 1, bytes := 8, zero := [.nilFunc], k := .func, eg := false, fl := none, za := false } := by kernel_rfl
theorem sz66 : szOf Tryz.prog 66 = 1 := by kernel_rfl
theorem ti68 : tiOf Tryz.prog 68 = some { sz := 1, bytes := 8, zero := [.nilFunc], k := .func, eg := false, fl := none, za := false } := by kernel_rfl
theorem sz68 : szOf Tryz.prog 68 = 1 := by kernel_rfl
theorem ti69 : tiOf Tryz.prog 69 = some { sz := 1, bytes := 24, zero := [.slice none 0 0], k := .slc 31, eg := false, fl := none, za := false } := by kernel_rfl
theorem sz69 : szOf Tryz.prog 69 = 1 := by kernel_rfl
theorem ti71 : tiOf Tryz.prog 71 = some { sz := 1, bytes := 8, zero := [.nilFunc], k := .func, eg := false, fl := none, za := false } := by kernel_rfl
theorem sz71 : szOf Tryz.prog 71 = 1 := by kernel_rfl
theorem ti72 : tiOf Tryz.prog 72 = some { sz := 1, bytes := 8, zero := [.nilFunc], k := .func, eg := false, fl := none, za := false } := by kernel_rfl
theorem sz72 : szOf Tryz.prog 72 = 1 := by kernel_rfl
theorem ti73 : tiOf Tryz.prog 73 = some { sz := 1, bytes := 8, zero := [.nilFunc], k := .func, eg := false, fl := none, za := false } := by kernel_rfl
theorem sz73 : szOf Tryz.prog 73 = 1 := by kernel_rfl
theorem ti74 : tiOf Tryz.prog 74 = some { sz := 1, bytes := 8, zero := [.nilFunc], k := .func, eg := false, fl := none, za := false } := by kernel_rfl
theorem sz74 : szOf Tryz.prog 74 = 1 := by kernel_rfl
theorem ti75 : tiOf Tryz.prog 75 = some { sz := 1, bytes := 8, zero := [.nilFunc], k := .func, eg := false, fl := none, za := false } := by kernel_rfl
theorem sz75 : szOf Tryz.prog 75 = 1 := by kernel_rfl
theorem ti76 : tiOf Tryz.prog 76 = some { sz := 1, bytes := 8, zero := [.nilFunc], k := .func, eg := false, fl := none, za := false } := by kernel_rfl
theorem sz76 : szOf Tryz.prog 76 = 1 := by kernel_rfl
theorem ti77 : tiOf Tryz.prog 77 = some { sz := 1, bytes := 8, zero := [.nilFunc], k := .func, eg := false, fl := none, za := false } := by kernel_rfl
theorem sz77 : szOf Tryz.prog 77 = 1 := by kernel_rfl
theorem ti78 : tiOf Tryz.prog 78 = some { sz := 1, bytes := 8, zero := [.nilFunc], k := .func, eg := false, fl := none, za := false } := by kernel_rfl
theorem sz78 : szOf Tryz.prog 78 = 1 := by kernel_rfl
theorem ti79 : tiOf Tryz.prog 79 = some { sz := 1, bytes := 8, zero := [.nilFunc], k := .func, eg := false, fl := none, za := false } := by kernel_rfl
theorem sz79 : szOf Tryz.prog 79 = 1 := by kernel_rfl
theorem ti81 : tiOf Tryz.prog 81 = some { sz := 1, bytes := 8, zero := [.nilFunc], k := .func, eg := false, fl := none, za := false } := by kernel_rfl
theorem sz81 : szOf Tryz.prog 81 = 1 := by kernel_rfl
theorem ti82 : tiOf Tryz.prog 82 = some { sz := 1, bytes := 24, zero := [.slice none 0 0], k := .slc 240, eg := false, fl := none, za := false } := by kernel_rfl
theorem sz82 : szOf Tryz.prog 82 = 1 := by kernel_rfl
theorem ti83 : tiOf Tryz.prog 83 = some { sz := 1, bytes := 24, zero := [.slice none 0 0], k := .slc 3, eg := false, fl := none, za := false } := by kernel_rfl
theorem sz83 : szOf Tryz.prog 83 = 1 := by kernel_rfl
theorem ti84 : tiOf Tryz.prog 84 = some { sz := 7, bytes := 104, zero := [.int .i64 0, .string ⟨#[]⟩, .int .i64 0, .int .i64 0, .string ⟨#[]⟩, .slice none 0 0, .slice none 0 0], k := .strct [(0, 3, false), (1, 9, false), (2, 3, false), (3, 3, false), (4, 9, false), (5, 82, false), (6, 83, false)], eg := false, fl := none, za := true } := by kernel_rfl
theorem sz84 : szOf Tryz.prog 84 = 7 := by kernel_rfl
theorem ti85 : tiOf Tryz.prog 85 = some { sz := 7, bytes := 104, zero := [.int .i64 0, .string ⟨#[]⟩, .int .i64 0, .int .i64 0, .string ⟨#[]⟩, .slice none 0 0, .slice none 0 0], k := .strct [(0, 3, false), (1, 9, false), (2, 3, false), (3, 3, false), (4, 9, false), (5, 82, false), (6, 83, false)], eg := false, fl := none, za := true } := by kernel_rfl
theorem sz85 : szOf Tryz.prog 85 = 7 := by kernel_rfl
theorem ti87 : tiOf Tryz.prog 87 = some { sz := 1, bytes := 8, zero := [.nilFunc], k := .func, eg := false, fl := none, za := false } := by kernel_rfl
theorem sz87 : szOf Tryz.prog 87 = 1 := by kernel_rfl
theorem ti88 : tiOf Tryz.prog 88 = some { sz := 2, bytes := 24, zero := [.int .i64 0, .string ⟨#[]⟩], k := .strct [(0, 3, false), (1, 9, false)], eg := false, fl := some [.int, .str], za := true } := by kernel_rfl
theorem sz88 : szOf Tryz.prog 88 = 2 := by kernel_rfl
theorem ti89 : tiOf Tryz.prog 89 = some { sz := 2, bytes := 24, zero := [.int .i64 0, .string ⟨#[]⟩], k := .strct [(0, 3, false), (1, 9, false)], eg := false, fl := some [.int, .str], za := true } := by kernel_rfl
theorem sz89 : szOf Tryz.prog 89 = 2 := by kernel_rfl
theorem ti90 : tiOf Tryz.prog 90 = some { sz := 1, bytes := 8, zero := [.nilFunc], k := .func, eg := false, fl := none, za := false } := by kernel_rfl
theorem sz90 : szOf Tryz.prog 90 = 1 := by kernel_rfl
theorem ti91 : tiOf Tryz.prog 91 = some { sz := 1, bytes := 8, zero := [.nilFunc], k := .func, eg := false, fl := none, za := false } := by kernel_rfl
theorem sz91 : szOf Tryz.prog 91 = 1 := by kernel_rfl
theorem ti92 : tiOf Tryz.prog 92 = some { sz := 5, bytes := 40, zero := [.int .i64 0, .int .i64 0, .int .i64 0, .int .i64 0, .int .i64 0], k := .strct [(0, 22, false), (4, 3, false)], eg := false, fl := some [.int, .int, .int, .int, .int], za := true } := by kernel_rfl
theorem sz92 : szOf Tryz.prog 92 = 5 := by kernel_rfl
theorem ti93 : tiOf Tryz.prog 93 = some { sz := 5, bytes := 40, zero := [.int .i64 0, .int .i64 0, .int .i64 0, .int .i64 0, .int .i64 0], k := .strct [(0, 22, false), (4, 3, false)], eg := false, fl := some [.int, .int, .int, .int, .int], za := true } := by kernel_rfl
theorem sz93 : szOf Tryz.prog 93 = 5 := by kernel_rfl
theorem ti94 : tiOf Tryz.prog 94 = some { sz := 4, bytes := 32, zero := [.int .i64 0, .int .i64 0, .int .i64 0, .int .i64 0], k := .arr 4 28, eg := false, fl := some [.int, .int, .int, .int], za := true } := by kernel_rfl
theorem sz94 : szOf Tryz.prog 94 = 4 := by kernel_rfl
theorem ti95 : tiOf Tryz.prog 95 = some { sz := 2, bytes := 32, zero := [.int .i64 0, .slice none 0 0], k := .strct [(0, 3, false), (1, 26, false)], eg := false, fl := none, za := true } := by kernel_rfl
theorem sz95 : szOf Tryz.prog 95 = 2 := by kernel_rfl
theorem ti96 : tiOf Tryz.prog 96 = some { sz := 2, bytes := 32, zero := [.int .i64 0, .slice none 0 0], k := .strct [(0, 3, false), (1, 26, false)], eg := false, fl := none, za := true } := by kernel_rfl
theorem sz96 : szOf Tryz.prog 96 = 2 := by kernel_rfl
theorem ti97 : tiOf Tryz.prog 97 = some { sz := 4, bytes := 64, zero := [.int .i64 0, .slice none 0 0, .bool false, .slice none 0 0], k := .strct [(0, 96, false), (2, 4, false), (3, 26, false)], eg := false, fl := none, za := true } := by kernel_rfl
theorem sz97 : szOf Tryz.prog 97 = 4 := by kernel_rfl
theorem ti98 : tiOf Tryz.prog 98 = some { sz := 4, bytes := 64, zero := [.int .i64 0, .slice none 0 0, .bool false, .slice none 0 0], k := .strct [(0, 96, false), (2, 4, false), (3, 26, false)], eg := false, fl := none, za := true } := by kernel_rfl
theorem sz98 : szOf Tryz.prog 98 = 4 := by kernel_rfl
theorem ti99 : tiOf Tryz.prog 99 = some { sz := 1, bytes := 24, zero := [.slice none 0 0], k := .slc 258, eg := false, fl := none, za := false } := by kernel_rfl
theorem sz99 : szOf Tryz.prog 99 = 1 := by kernel_rfl
theorem qse : tiOf Tryz.prog 100 = some { sz := 2, bytes := 32, zero := [.int .i64 0, .slice none 0 0], k := .strct [(0, 3, false), (1, 99, false)], eg := false, fl := none, za := true } := by kernel_rfl
theorem qzw : szOf Tryz.prog 100 = 2 := by kernel_rfl
theorem qsd : tiOf Tryz.prog 101 = some { sz := 2, bytes := 32, zero := [.int .i64 0, .slice none 0 0], k := .strct [(0, 3, false), (1, 99, false)], eg := false, fl := none, za := true } := by kernel_rfl
theorem qzv : szOf Tryz.prog 101 = 2 := by kernel_rfl
theorem qsc : tiOf Tryz.prog 102 = some { sz := 18, bytes := 192, zero := [.int .i64 0, .int .i64 0, .bool false, .int .i64 0, .int .i64 0, .int .i64 0, .int .i64 0, .int .i64 0, .int .i64 0, .int .i64 0, .int .i64 0, .int .i64 0, .int .i64 0, .slice none 0 0, .bool false, .slice none 0 0, .int .i64 0, .slice none 0 0], k := .strct [(0, 3, false), (1, 3, false), (2, 4, false), (3, 93, false), (8, 94, false), (12, 98, false), (16, 101, false)], eg := false, fl := none, za := true } := by kernel_rfl
theorem qzu : szOf Tryz.prog 102 = 18 := by kernel_rfl
theorem qsb : tiOf Tryz.prog 103 = some { sz := 18, bytes := 192, zero := [.int .i64 0, .int .i64 0, .bool false, .int .i64 0, .int .i64 0, .int .i64 0, .int .i64 0, .int .i64 0, .int .i64 0, .int .i64 0, .int .i64 0, .int .i64 0, .int .i64 0, .slice none 0 0, .bool false, .slice none 0 0, .int .i64 0, .slice none 0 0], k := .strct [(0, 3, false), (1, 3, false), (2, 4, false), (3, 93, false), (8, 94, false), (12, 98, false), (16, 101, false)], eg := false, fl := none, za := true } := by kernel_rfl
theorem qzt : szOf Tryz.prog 103 = 18 := by kernel_rfl
theorem qsa : tiOf Tryz.prog 105 = some { sz := 1, bytes := 8, zero := [.nilFunc], k := .func, eg := false, fl := none, za := false } := by kernel_rfl
theorem qzs : szOf Tryz.prog 105 = 1 := by kernel_rfl
theorem qr9 : tiOf Tryz.prog 106 = some { sz := 1, bytes := 8, zero := [.nilFunc], k := .func, eg := false, fl := none, za := false } := by kernel_rfl
theorem qzr : szOf Tryz.prog 106 = 1 := by kernel_rfl
theorem qr8 : tiOf Tryz.prog 107 = some { sz := 1, bytes := 8, zero := [.nilFunc], k := .func, eg := false, fl := none, za := false } := by kernel_rfl
theorem qzq : szOf Tryz.prog 107 = 1 := by kernel_rfl
theorem qr7 : tiOf Tryz.prog 108 = some { sz := 1, bytes := 8, zero := [.nilFunc], k := .func, eg := false, fl := none, za := false } := by kernel_rfl
theorem qzp : szOf Tryz.prog 108 = 1 := by kernel_rfl
theorem qr6 : tiOf Tryz.prog 110 = some { sz := 1, bytes := 8, zero := [.nilFunc], k := .func, eg := false, fl := none, za := false } := by kernel_rfl
theorem qzo : szOf Tryz.prog 110 = 1 := by kernel_rfl
theorem qr5 : tiOf Tryz.prog 112 = some { sz := 1, bytes := 8, zero := [.nilFunc], k := .func, eg := false, fl := none, za := false } := by kernel_rfl
theorem qzn : szOf Tryz.prog 112 = 1 := by kernel_rfl
theorem qr4 : tiOf Tryz.prog 113 = some { sz := 1, bytes := 8, zero := [.nilFunc], k := .func, eg := false, fl := none, za := false } := by kernel_rfl
theorem qzm : szOf Tryz.prog 113 = 1 := by kernel_rfl
theorem qr3 : tiOf Tryz.prog 114 = some { sz := 1, bytes := 8, zero := [.nilFunc], k := .func, eg := false, fl := none, za := false } := by kernel_rfl
theorem qzl : szOf Tryz.prog 114 = 1 := by kernel_rfl
theorem qr2 : tiOf Tryz.prog 115 = some { sz := 1, bytes := 8, zero := [.nilFunc], k := .func, eg := false, fl := none, za := false } := by kernel_rfl
theorem qzk : szOf Tryz.prog 115 = 1 := by kernel_rfl
theorem qr1 : tiOf Tryz.prog 117 = some { sz := 1, bytes := 8, zero := [.nilFunc], k := .func, eg := false, fl := none, za := false } := by kernel_rfl
theorem qzj : szOf Tryz.prog 117 = 1 := by kernel_rfl
theorem qr0 : tiOf Tryz.prog 118 = some { sz := 1, bytes := 8, zero := [.nilFunc], k := .func, eg := false, fl := none, za := false } := by kernel_rfl
theorem qzi : szOf Tryz.prog 118 = 1 := by kernel_rfl
theorem qrz : tiOf Tryz.prog 119 = some { sz := 1, bytes := 8, zero := [.nilFunc], k := .func, eg := false, fl := none, za := false } := by kernel_rfl
theorem qzh : szOf Tryz.prog 119 = 1 := by kernel_rfl
theorem qry : tiOf Tryz.prog 120 = some { sz := 1, bytes := 8, zero := [.nilFunc], k := .func, eg := false, fl := none, za := false } := by kernel_rfl
theorem qzg : szOf Tryz.prog 120 = 1 := by kernel_rfl
theorem qrx : tiOf Tryz.prog 121 = some { sz := 3, bytes := 32, zero := [.int .i64 0, .string ⟨#[]⟩, .int .i64 0], k := .strct [(0, 89, false), (2, 3, false)], eg := false, fl := some [.int, .str, .int], za := true } := by kernel_rfl
theorem qzf : szOf Tryz.prog 121 = 3 := by kernel_rfl
theorem qrw : tiOf Tryz.prog 122 = some { sz := 3, bytes := 32, zero := [.int .i64 0, .string ⟨#[]⟩, .int .i64 0], k := .strct [(0, 89, false), (2, 3, false)], eg := false, fl := some [.int, .str, .int], za := true } := by kernel_rfl
theorem qze : szOf Tryz.prog 122 = 3 := by kernel_rfl
theorem qrv : tiOf Tryz.prog 123 = some { sz := 1, bytes := 8, zero := [.nilFunc], k := .func, eg := false, fl := none, za := false } := by kernel_rfl
theorem qzd : szOf Tryz.prog 123 = 1 := by kernel_rfl
theorem qru : tiOf Tryz.prog 124 = some { sz := 1, bytes := 8, zero := [.nilFunc], k := .func, eg := false, fl := none, za := false } := by kernel_rfl
theorem qzc : szOf Tryz.prog 124 = 1 := by kernel_rfl
theorem qrt : tiOf Tryz.prog 125 = some { sz := 1, bytes := 8, zero := [.nilFunc], k := .func, eg := false, fl := none, za := false } := by kernel_rfl
theorem qzb : szOf Tryz.prog 125 = 1 := by kernel_rfl
theorem qrs : tiOf Tryz.prog 126 = some { sz := 1, bytes := 8, zero := [.nilFunc], k := .func, eg := false, fl := none, za := false } := by kernel_rfl
theorem qza : szOf Tryz.prog 126 = 1 := by kernel_rfl
theorem qrr : tiOf Tryz.prog 127 = some { sz := 1, bytes := 8, zero := [.nilFunc], k := .func, eg := false, fl := none, za := false } := by kernel_rfl
theorem qy9 : szOf Tryz.prog 127 = 1 := by kernel_rfl
theorem qrq : tiOf Tryz.prog 128 = some { sz := 3, bytes := 32, zero := [.int .i64 0, .string ⟨#[]⟩, .int .i64 0], k := .strct [(0, 89, false), (2, 3, false)], eg := false, fl := some [.int, .str, .int], za := true } := by kernel_rfl
theorem qy8 : szOf Tryz.prog 128 = 3 := by kernel_rfl
theorem qrp : tiOf Tryz.prog 129 = some { sz := 1, bytes := 8, zero := [.nilFunc], k := .func, eg := false, fl := none, za := false } := by kernel_rfl
theorem qy7 : szOf Tryz.prog 129 = 1 := by kernel_rfl
theorem qro : tiOf Tryz.prog 130 = some { sz := 1, bytes := 8, zero := [.nilFunc], k := .func, eg := false, fl := none, za := false } := by kernel_rfl
theorem qy6 : szOf Tryz.prog 130 = 1 := by kernel_rfl
theorem qrn : tiOf Tryz.prog 131 = some { sz := 1, bytes := 8, zero := [.nilFunc], k := .func, eg := false, fl := none, za := false } := by kernel_rfl
theorem qy5 : szOf Tryz.prog 131 = 1 := by kernel_rfl
theorem qrm : tiOf Tryz.prog 133 = some { sz := 1, bytes := 8, zero := [.nilFunc], k := .func, eg := false, fl := none, za := false } := by kernel_rfl
theorem qy4 : szOf Tryz.prog 133 = 1 := by kernel_rfl
theorem qrl : tiOf Tryz.prog 134 = some { sz := 3, bytes := 56, zero := [.int .i64 0, .slice none 0 0, .slice none 0 0], k := .strct [(0, 3, false), (1, 26, false), (2, 27, false)], eg := false, fl := none, za := true } := by kernel_rfl
theorem qy3 : szOf Tryz.prog 134 = 3 := by kernel_rfl
theorem qrk : tiOf Tryz.prog 135 = some { sz := 3, bytes := 56, zero := [.int .i64 0, .slice none 0 0, .slice none 0 0], k := .strct [(0, 3, false), (1, 26, false), (2, 27, false)], eg := false, fl := none, za := true } := by kernel_rfl
theorem qy2 : szOf Tryz.prog 135 = 3 := by kernel_rfl
theorem qrj : tiOf Tryz.prog 137 = some { sz := 1, bytes := 8, zero := [.nilFunc], k := .func, eg := false, fl := none, za := false } := by kernel_rfl
theorem qy1 : szOf Tryz.prog 137 = 1 := by kernel_rfl
theorem qri : tiOf Tryz.prog 139 = some { sz := 1, bytes := 8, zero := [.nilFunc], k := .func, eg := false, fl := none, za := false } := by kernel_rfl
theorem qy0 : szOf Tryz.prog 139 = 1 := by kernel_rfl
theorem qrh : tiOf Tryz.prog 140 = some { sz := 1, bytes := 8, zero := [.nilFunc], k := .func, eg := false, fl := none, za := false } := by kernel_rfl
theorem qyz : szOf Tryz.prog 140 = 1 := by kernel_rfl
theorem qrg : tiOf Tryz.prog 141 = some { sz := 1, bytes := 8, zero := [.nilFunc], k := .func, eg := false, fl := none, za := false } := by kernel_rfl
theorem qyy : szOf Tryz.prog 141 = 1 := by kernel_rfl
theorem qrf : tiOf Tryz.prog 142 = some { sz := 1, bytes := 8, zero := [.nilFunc], k := .func, eg := false, fl := none, za := false } := by kernel_rfl
theorem qyx : szOf Tryz.prog 142 = 1 := by kernel_rfl
theorem qre : tiOf Tryz.prog 143 = some { sz := 1, bytes := 8, zero := [.nilFunc], k := .func, eg := false, fl := none, za := false } := by kernel_rfl
theorem qyw : szOf Tryz.prog 143 = 1 := by kernel_rfl
theorem qrd : tiOf Tryz.prog 144 = some { sz := 1, bytes := 8, zero := [.nilFunc], k := .func, eg := false, fl := none, za := false } := by kernel_rfl
theorem qyv : szOf Tryz.prog 144 = 1 := by kernel_rfl
theorem qrc : tiOf Tryz.prog 145 = some { sz := 1, bytes := 8, zero := [.nilFunc], k := .func, eg := false, fl := none, za := false } := by kernel_rfl
theorem qyu : szOf Tryz.prog 145 = 1 := by kernel_rfl
theorem qrb : tiOf Tryz.prog 146 = some { sz := 1, bytes := 8, zero := [.nilFunc], k := .func, eg := false, fl := none, za := false } := by kernel_rfl
theorem qyt : szOf Tryz.prog 146 = 1 := by kernel_rfl
theorem qra : tiOf Tryz.prog 147 = some { sz := 1, bytes := 8, zero := [.nilFunc], k := .func, eg := false, fl := none, za := false } := by kernel_rfl
theorem qys : szOf Tryz.prog 147 = 1 := by kernel_rfl
theorem qq9 : tiOf Tryz.prog 148 = some { sz := 1, bytes := 8, zero := [.nilFunc], k := .func, eg := false, fl := none, za := false } := by kernel_rfl
theorem qyr : szOf Tryz.prog 148 = 1 := by kernel_rfl
theorem qq8 : tiOf Tryz.prog 149 = some { sz := 1, bytes := 8, zero := [.nilFunc], k := .func, eg := false, fl := none, za := false } := by kernel_rfl
theorem qyq : szOf Tryz.prog 149 = 1 := by kernel_rfl
theorem qq7 : tiOf Tryz.prog 150 = some { sz := 1, bytes := 8, zero := [.nilFunc], k := .func, eg := false, fl := none, za := false } := by kernel_rfl
theorem qyp : szOf Tryz.prog 150 = 1 := by kernel_rfl
theorem qq6 : tiOf Tryz.prog 151 = some { sz := 3, bytes := 56, zero := [.int .i64 0, .slice none 0 0, .slice none 0 0], k := .strct [(0, 3, false), (1, 26, false), (2, 27, false)], eg := false, fl := none, za := true } := by kernel_rfl
theorem qyo : szOf Tryz.prog 151 = 3 := by kernel_rfl
theorem qq5 : tiOf Tryz.prog 153 = some { sz := 1, bytes := 8, zero := [.nilFunc], k := .func, eg := false, fl := none, za := false } := by kernel_rfl
theorem qyn : szOf Tryz.prog 153 = 1 := by kernel_rfl
theorem qq4 : tiOf Tryz.prog 155 = some { sz := 1, bytes := 8, zero := [.nilFunc], k := .func, eg := false, fl := none, za := false } := by kernel_rfl
theorem qym : szOf Tryz.prog 155 = 1 := by kernel_rfl
theorem qq3 : tiOf Tryz.prog 156 = some { sz := 1, bytes := 8, zero := [.nilFunc], k := .func, eg := false, fl := none, za := false } := by kernel_rfl
theorem qyl : szOf Tryz.prog 156 = 1 := by kernel_rfl
theorem qq2 : tiOf Tryz.prog 157 = some { sz := 1, bytes := 8, zero := [.nilFunc], k := .func, eg := false, fl := none, za := false } := by kernel_rfl
theorem qyk : szOf Tryz.prog 157 = 1 := by kernel_rfl
theorem qq1 : tiOf Tryz.prog 158 = some { sz := 1, bytes := 8, zero := [.nilFunc], k := .func, eg := false, fl := none, za := false } := by kernel_rfl
theorem qyj : szOf Tryz.prog 158 = 1 := by kernel_rfl
theorem qq0 : tiOf Tryz.prog 159 = some { sz := 1, bytes := 8, zero := [.nilFunc], k := .func, eg := false, fl := none, za := false } := by kernel_rfl
theorem qyi : szOf Tryz.prog 159 = 1 := by kernel_rfl
theorem qqz : tiOf Tryz.prog 160 = some { sz := 5, bytes := 40, zero := [.int .i64 0, .int .i64 0, .int .i64 0, .int .i64 0, .int .i64 0], k := .strct [(0, 22, false), (4, 3, false)], eg := false, fl := some [.int, .int, .int, .int, .int], za := true } := by kernel_rfl
theorem qyh : szOf Tryz.prog 160 = 5 := by kernel_rfl
theorem qqy : tiOf Tryz.prog 162 = some { sz := 1, bytes := 8, zero := [.nilFunc], k := .func, eg := false, fl := none, za := false } := by kernel_rfl
theorem qyg : szOf Tryz.prog 162 = 1 := by kernel_rfl
theorem qqx : tiOf Tryz.prog 163 = some { sz := 1, bytes := 8, zero := [.nilFunc], k := .func, eg := false, fl := none, za := false } := by kernel_rfl
theorem qyf : szOf Tryz.prog 163 = 1 := by kernel_rfl
theorem qqw : tiOf Tryz.prog 164 = some { sz := 1, bytes := 16, zero := [.nilIface], k := .iface false, eg := true, fl := none, za := false } := by kernel_rfl
theorem qye : szOf Tryz.prog 164 = 1 := by kernel_rfl
theorem qqv : tiOf Tryz.prog 165 = some { sz := 1, bytes := 16, zero := [.nilIface], k := .iface false, eg := true, fl := none, za := false } := by kernel_rfl
theorem qyd : szOf Tryz.prog 165 = 1 := by kernel_rfl
theorem qqu : tiOf Tryz.prog 167 = some { sz := 1, bytes := 8, zero := [.nilFunc], k := .func, eg := false, fl := none, za := false } := by kernel_rfl
theorem qyc : szOf Tryz.prog 167 = 1 := by kernel_rfl
theorem qqt : tiOf Tryz.prog 169 = some { sz := 1, bytes := 8, zero := [.nilFunc], k := .func, eg := false, fl := none, za := false } := by kernel_rfl
theorem qyb : szOf Tryz.prog 169 = 1 := by kernel_rfl
theorem qqs : tiOf Tryz.prog 170 = some { sz := 1, bytes := 8, zero := [.nilFunc], k := .func, eg := false, fl := none, za := false } := by kernel_rfl
theorem qya : szOf Tryz.prog 170 = 1 := by kernel_rfl
theorem qqr : tiOf Tryz.prog 171 = some { sz := 1, bytes := 8, zero := [.nilFunc], k := .func, eg := false, fl := none, za := false } := by kernel_rfl
theorem qx9 : szOf Tryz.prog 171 = 1 := by kernel_rfl
theorem qqq : tiOf Tryz.prog 172 = some { sz := 1, bytes := 8, zero := [.nilFunc], k := .func, eg := false, fl := none, za := false } := by kernel_rfl
theorem qx8 : szOf Tryz.prog 172 = 1 := by kernel_rfl
theorem qqp : tiOf Tryz.prog 173 = some { sz := 1, bytes := 8, zero := [.nilFunc], k := .func, eg := false, fl := none, za := false } := by kernel_rfl
theorem qx7 : szOf Tryz.prog 173 = 1 := by kernel_rfl
theorem qqo : tiOf Tryz.prog 174 = some { sz := 1, bytes := 8, zero := [.nilFunc], k := .func, eg := false, fl := none, za := false } := by kernel_rfl
theorem qx6 : szOf Tryz.prog 174 = 1 := by kernel_rfl
theorem qqn : tiOf Tryz.prog 175 = some { sz := 1, bytes := 8, zero := [.nilFunc], k := .func, eg := false, fl := none, za := false } := by kernel_rfl
theorem qx5 : szOf Tryz.prog 175 = 1 := by kernel_rfl
theorem qqm : tiOf Tryz.prog 176 = some { sz := 1, bytes := 8, zero := [.nilFunc], k := .func, eg := false, fl := none, za := false } := by kernel_rfl
theorem qx4 : szOf Tryz.prog 176 = 1 := by kernel_rfl
theorem qql : tiOf Tryz.prog 177 = some { sz := 1, bytes := 8, zero := [.nilFunc], k := .func, eg := false, fl := none, za := false } := by kernel_rfl
theorem qx3 : szOf Tryz.prog 177 = 1 := by kernel_rfl
theorem qqk : tiOf Tryz.prog 178 = some { sz := 1, bytes := 8, zero := [.nilFunc], k := .func, eg := false, fl := none, za := false } := by kernel_rfl
theorem qx2 : szOf Tryz.prog 178 = 1 := by kernel_rfl
theorem qqj : tiOf Tryz.prog 179 = some { sz := 1, bytes := 8, zero := [.nilFunc], k := .func, eg := false, fl := none, za := false } := by kernel_rfl
theorem qx1 : szOf Tryz.prog 179 = 1 := by kernel_rfl
theorem qqi : tiOf Tryz.prog 181 = some { sz := 1, bytes := 8, zero := [.nilFunc], k := .func, eg := false, fl := none, za := false } := by kernel_rfl
theorem qx0 : szOf Tryz.prog 181 = 1 := by kernel_rfl
theorem qqh : tiOf Tryz.prog 182 = some { sz := 1, bytes := 8, zero := [.nilFunc], k := .func, eg := false, fl := none, za := false } := by kernel_rfl
theorem qxz : szOf Tryz.prog 182 = 1 := by kernel_rfl
theorem qqg : tiOf Tryz.prog 184 = some { sz := 1, bytes := 8, zero := [.nilFunc], k := .func, eg := false, fl := none, za := false } := by kernel_rfl
theorem qxy : szOf Tryz.prog 184 = 1 := by kernel_rfl
theorem qqf : tiOf Tryz.prog 186 = some { sz := 1, bytes := 8, zero := [.nilFunc], k := .func, eg := false, fl := none, za := false } := by kernel_rfl
theorem qxx : szOf Tryz.prog 186 = 1 := by kernel_rfl
theorem qqe : tiOf Tryz.prog 188 = some { sz := 1, bytes := 8, zero := [.nilFunc], k := .func, eg := false, fl := none, za := false } := by kernel_rfl
theorem qxw : szOf Tryz.prog 188 = 1 := by kernel_rfl
theorem qqd : tiOf Tryz.prog 189 = some { sz := 1, bytes := 8, zero := [.nilFunc], k := .func, eg := false, fl := none, za := false } := by kernel_rfl
theorem qxv : szOf Tryz.prog 189 = 1 := by kernel_rfl
theorem qqc : tiOf Tryz.prog 190 = some { sz := 1, bytes := 8, zero := [.nilFunc], k := .func, eg := false, fl := none, za := false } := by kernel_rfl
theorem qxu : szOf Tryz.prog 190 = 1 := by kernel_rfl
theorem qqb : tiOf Tryz.prog 192 = some { sz := 1, bytes := 8, zero := [.nilFunc], k := .func, eg := false, fl := none, za := false } := by kernel_rfl
theorem qxt : szOf Tryz.prog 192 = 1 := by kernel_rfl
theorem qqa : tiOf Tryz.prog 193 = some { sz := 1, bytes := 8, zero := [.map none], k := .map 89 4, eg := false, fl := none, za := false } := by kernel_rfl
theorem qxs : szOf Tryz.prog 193 = 1 := by kernel_rfl
theorem qp9 : tiOf Tryz.prog 194 = some { sz := 1, bytes := 8, zero := [.map none], k := .map 89 4, eg := false, fl := none, za := false } := by kernel_rfl
theorem qxr : szOf Tryz.prog 194 = 1 := by kernel_rfl
theorem qp8 : tiOf Tryz.prog 195 = some { sz := 1, bytes := 8, zero := [.nilFunc], k := .func, eg := false, fl := none, za := false } := by kernel_rfl
theorem qxq : szOf Tryz.prog 195 = 1 := by kernel_rfl
theorem qp7 : tiOf Tryz.prog 196 = some { sz := 1, bytes := 8, zero := [.nilFunc], k := .func, eg := false, fl := none, za := false } := by kernel_rfl
theorem qxp : szOf Tryz.prog 196 = 1 := by kernel_rfl
theorem qp6 : tiOf Tryz.prog 197 = some { sz := 1, bytes := 8, zero := [.nilFunc], k := .func, eg := false, fl := none, za := false } := by kernel_rfl
theorem qxo : szOf Tryz.prog 197 = 1 := by kernel_rfl
theorem qp5 : tiOf Tryz.prog 198 = some { sz := 1, bytes := 8, zero := [.nilFunc], k := .func, eg := false, fl := none, za := false } := by kernel_rfl
theorem qxn : szOf Tryz.prog 198 = 1 := by kernel_rfl
theorem qp4 : tiOf Tryz.prog 199 = some { sz := 1, bytes := 8, zero := [.nilFunc], k := .func, eg := false, fl := none, za := false } := by kernel_rfl
theorem qxm : szOf Tryz.prog 199 = 1 := by kernel_rfl
theorem qp3 : tiOf Tryz.prog 200 = some { sz := 1, bytes := 8, zero := [.nilFunc], k := .func, eg := false, fl := none, za := false } := by kernel_rfl
theorem qxl : szOf Tryz.prog 200 = 1 := by kernel_rfl
theorem qp2 : tiOf Tryz.prog 201 = some { sz := 1, bytes := 24, zero := [.slice none 0 0], k := .slc 207, eg := false, fl := none, za := false } := by kernel_rfl
theorem qxk : szOf Tryz.prog 201 = 1 := by kernel_rfl
theorem qp1 : tiOf Tryz.prog 202 = some { sz := 1, bytes := 8, zero := [.pointer none], k := .ptr 274, eg := false, fl := none, za := false } := by kernel_rfl
theorem qxj : szOf Tryz.prog 202 = 1 := by kernel_rfl
theorem qp0 : tiOf Tryz.prog 203 = some { sz := 1, bytes := 8, zero := [.nilFunc], k := .func, eg := false, fl := none, za := false } := by kernel_rfl
theorem qxi : szOf Tryz.prog 203 = 1 := by kernel_rfl
theorem qpz : tiOf Tryz.prog 204 = some { sz := 1, bytes := 8, zero := [.nilFunc], k := .func, eg := false, fl := none, za := false } := by kernel_rfl
theorem qxh : szOf Tryz.prog 204 = 1 := by kernel_rfl
theorem qpy : tiOf Tryz.prog 205 = some { sz := 1, bytes := 8, zero := [.nilFunc], k := .func, eg := false, fl := none, za := false } := by kernel_rfl
theorem qxg : szOf Tryz.prog 205 = 1 := by kernel_rfl
theorem qpx : tiOf Tryz.prog 206 = some { sz := 2, bytes := 32, zero := [.slice none 0 0, .nilFunc], k := .strct [(0, 83, false), (1, 205, false)], eg := false, fl := none, za := true } := by kernel_rfl
theorem qxf : szOf Tryz.prog 206 = 2 := by kernel_rfl
theorem qpw : tiOf Tryz.prog 207 = some { sz := 2, bytes := 32, zero := [.slice none 0 0, .nilFunc], k := .strct [(0, 83, false), (1, 205, false)], eg := false, fl := none, za := true } := by kernel_rfl
theorem qxe : szOf Tryz.prog 207 = 2 := by kernel_rfl
theorem qpv : tiOf Tryz.prog 208 = some { sz := 1, bytes := 8, zero := [.nilFunc], k := .func, eg := false, fl := none, za := false } := by kernel_rfl
theorem qxd : szOf Tryz.prog 208 = 1 := by kernel_rfl
theorem qpu : tiOf Tryz.prog 209 = some { sz := 1, bytes := 8, zero := [.nilFunc], k := .func, eg := false, fl := none, za := false } := by kernel_rfl
theorem qxc : szOf Tryz.prog 209 = 1 := by kernel_rfl
theorem qpt : tiOf Tryz.prog 210 = some { sz := 1, bytes := 24, zero := [.slice none 0 0], k := .slc 28, eg := false, fl := none, za := false } := by kernel_rfl
theorem qxb : szOf Tryz.prog 210 = 1 := by kernel_rfl
theorem qps : tiOf Tryz.prog 211 = some { sz := 1, bytes := 8, zero := [.nilFunc], k := .func, eg := false, fl := none, za := false } := by kernel_rfl
theorem qxa : szOf Tryz.prog 211 = 1 := by kernel_rfl
theorem qpr : tiOf Tryz.prog 212 = some { sz := 1, bytes := 8, zero := [.nilFunc], k := .func, eg := false, fl := none, za := false } := by kernel_rfl
theorem qw9 : szOf Tryz.prog 212 = 1 := by kernel_rfl
theorem qpq : tiOf Tryz.prog 213 = some { sz := 1, bytes := 8, zero := [.nilFunc], k := .func, eg := false, fl := none, za := false } := by kernel_rfl
theorem qw8 : szOf Tryz.prog 213 = 1 := by kernel_rfl
theorem qpp : tiOf Tryz.prog 214 = some { sz := 1, bytes := 8, zero := [.nilFunc], k := .func, eg := false, fl := none, za := false } := by kernel_rfl
theorem qw7 : szOf Tryz.prog 214 = 1 := by kernel_rfl
theorem qpo : tiOf Tryz.prog 215 = some { sz := 1, bytes := 8, zero := [.nilFunc], k := .func, eg := false, fl := none, za := false } := by kernel_rfl
theorem qw6 : szOf Tryz.prog 215 = 1 := by kernel_rfl
theorem qpn : tiOf Tryz.prog 216 = some { sz := 1, bytes := 8, zero := [.nilFunc], k := .func, eg := false, fl := none, za := false } := by kernel_rfl
theorem qw5 : szOf Tryz.prog 216 = 1 := by kernel_rfl
theorem qpm : tiOf Tryz.prog 217 = some { sz := 1, bytes := 8, zero := [.nilFunc], k := .func, eg := false, fl := none, za := false } := by kernel_rfl
theorem qw4 : szOf Tryz.prog 217 = 1 := by kernel_rfl
theorem qpl : tiOf Tryz.prog 218 = some { sz := 1, bytes := 8, zero := [.nilFunc], k := .func, eg := false, fl := none, za := false } := by kernel_rfl
theorem qw3 : szOf Tryz.prog 218 = 1 := by kernel_rfl
theorem qpk : tiOf Tryz.prog 219 = some { sz := 1, bytes := 8, zero := [.nilFunc], k := .func, eg := false, fl := none, za := false } := by kernel_rfl
theorem qw2 : szOf Tryz.prog 219 = 1 := by kernel_rfl
theorem qpj : tiOf Tryz.prog 220 = some { sz := 1, bytes := 8, zero := [.nilFunc], k := .func, eg := false, fl := none, za := false } := by kernel_rfl
theorem qw1 : szOf Tryz.prog 220 = 1 := by kernel_rfl
theorem qpi : tiOf Tryz.prog 221 = some { sz := 1, bytes := 8, zero := [.nilFunc], k := .func, eg := false, fl := none, za := false } := by kernel_rfl
theorem qw0 : szOf Tryz.prog 221 = 1 := by kernel_rfl
theorem qph : tiOf Tryz.prog 223 = some { sz := 1, bytes := 8, zero := [.nilFunc], k := .func, eg := false, fl := none, za := false } := by kernel_rfl
theorem qwz : szOf Tryz.prog 223 = 1 := by kernel_rfl
theorem qpg : tiOf Tryz.prog 225 = some { sz := 1, bytes := 8, zero := [.nilFunc], k := .func, eg := false, fl := none, za := false } := by kernel_rfl
theorem qwy : szOf Tryz.prog 225 = 1 := by kernel_rfl
theorem qpf : tiOf Tryz.prog 226 = some { sz := 1, bytes := 8, zero := [.nilFunc], k := .func, eg := false, fl := none, za := false } := by kernel_rfl
theorem qwx : szOf Tryz.prog 226 = 1 := by kernel_rfl
theorem qpe : tiOf Tryz.prog 227 = some { sz := 1, bytes := 8, zero := [.nilFunc], k := .func, eg := false, fl := none, za := false } := by kernel_rfl
theorem qww : szOf Tryz.prog 227 = 1 := by kernel_rfl
theorem qpd : tiOf Tryz.prog 228 = some { sz := 1, bytes := 8, zero := [.nilFunc], k := .func, eg := false, fl := none, za := false } := by kernel_rfl
theorem qwv : szOf Tryz.prog 228 = 1 := by kernel_rfl
theorem qpc : tiOf Tryz.prog 229 = some { sz := 1, bytes := 8, zero := [.nilFunc], k := .func, eg := false, fl := none, za := false } := by kernel_rfl
theorem qwu : szOf Tryz.prog 229 = 1 := by kernel_rfl
theorem qpb : tiOf Tryz.prog 230 = some { sz := 1, bytes := 8, zero := [.nilFunc], k := .func, eg := false, fl := none, za := false } := by kernel_rfl
theorem qwt : szOf Tryz.prog 230 = 1 := by kernel_rfl
theorem qpa : tiOf Tryz.prog 231 = some { sz := 1, bytes := 8, zero := [.nilFunc], k := .func, eg := false, fl := none, za := false } := by kernel_rfl
theorem qws : szOf Tryz.prog 231 = 1 := by kernel_rfl
theorem qo9 : tiOf Tryz.prog 232 = some { sz := 1, bytes := 8, zero := [.nilFunc], k := .func, eg := false, fl := none, za := false } := by kernel_rfl
theorem qwr : szOf Tryz.prog 232 = 1 := by kernel_rfl
theorem qo8 : tiOf Tryz.prog 233 = some { sz := 1, bytes := 8, zero := [.nilFunc], k := .func, eg := false, fl := none, za := false } := by kernel_rfl
theorem qwq : szOf Tryz.prog 233 = 1 := by kernel_rfl
theorem qo7 : tiOf Tryz.prog 234 = some { sz := 1, bytes := 8, zero := [.map none], k := .map 89 85, eg := false, fl := none, za := false } := by kernel_rfl
theorem qwp : szOf Tryz.prog 234 = 1 := by kernel_rfl
theorem qo6 : tiOf Tryz.prog 235 = some { sz := 1, bytes := 8, zero := [.nilFunc], k := .func, eg := false, fl := none, za := false } := by kernel_rfl
theorem qwo : szOf Tryz.prog 235 = 1 := by kernel_rfl
theorem qo5 : tiOf Tryz.prog 236 = some { sz := 1, bytes := 8, zero := [.nilFunc], k := .func, eg := false, fl := none, za := false } := by kernel_rfl
theorem qwn : szOf Tryz.prog 236 = 1 := by kernel_rfl
theorem qo4 : tiOf Tryz.prog 237 = some { sz := 1, bytes := 8, zero := [.nilFunc], k := .func, eg := false, fl := none, za := false } := by kernel_rfl
theorem qwm : szOf Tryz.prog 237 = 1 := by kernel_rfl
theorem qo3 : tiOf Tryz.prog 238 = some { sz := 1, bytes := 24, zero := [.slice none 0 0], k := .slc 242, eg := false, fl := none, za := false } := by kernel_rfl
theorem qwl : szOf Tryz.prog 238 = 1 := by kernel_rfl
theorem qo2 : tiOf Tryz.prog 239 = some { sz := 3, bytes := 56, zero := [.string ⟨#[]⟩, .string ⟨#[]⟩, .slice none 0 0], k := .strct [(0, 9, false), (1, 9, false), (2, 238, false)], eg := false, fl := none, za := true } := by kernel_rfl
theorem qwk : szOf Tryz.prog 239 = 3 := by kernel_rfl
theorem qo1 : tiOf Tryz.prog 240 = some { sz := 3, bytes := 56, zero := [.string ⟨#[]⟩, .string ⟨#[]⟩, .slice none 0 0], k := .strct [(0, 9, false), (1, 9, false), (2, 238, false)], eg := false, fl := none, za := true } := by kernel_rfl
theorem qwj : szOf Tryz.prog 240 = 3 := by kernel_rfl
theorem qo0 : tiOf Tryz.prog 241 = some { sz := 2, bytes := 24, zero := [.string ⟨#[]⟩, .int .i64 0], k := .strct [(0, 9, false), (1, 3, false)], eg := false, fl := some [.str, .int], za := true } := by kernel_rfl
theorem qwi : szOf Tryz.prog 241 = 2 := by kernel_rfl
theorem qoz : tiOf Tryz.prog 242 = some { sz := 2, bytes := 24, zero := [.string ⟨#[]⟩, .int .i64 0], k := .strct [(0, 9, false), (1, 3, false)], eg := false, fl := some [.str, .int], za := true } := by kernel_rfl
theorem qwh : szOf Tryz.prog 242 = 2 := by kernel_rfl
theorem qoy : tiOf Tryz.prog 243 = some { sz := 1, bytes := 8, zero := [.nilFunc], k := .func, eg := false, fl := none, za := false } := by kernel_rfl
theorem qwg : szOf Tryz.prog 243 = 1 := by kernel_rfl
theorem qox : tiOf Tryz.prog 244 = some { sz := 1, bytes := 8, zero := [.nilFunc], k := .func, eg := false, fl := none, za := false } := by kernel_rfl
theorem qwf : szOf Tryz.prog 244 = 1 := by kernel_rfl
theorem qow : tiOf Tryz.prog 245 = some { sz := 1, bytes := 8, zero := [.nilFunc], k := .func, eg := false, fl := none, za := false } := by kernel_rfl
theorem qwe : szOf Tryz.prog 245 = 1 := by kernel_rfl
theorem qov : tiOf Tryz.prog 246 = some { sz := 1, bytes := 8, zero := [.nilFunc], k := .func, eg := false, fl := none, za := false } := by kernel_rfl
theorem qwd : szOf Tryz.prog 246 = 1 := by kernel_rfl
theorem qou : tiOf Tryz.prog 247 = some { sz := 1, bytes := 8, zero := [.nilFunc], k := .func, eg := false, fl := none, za := false } := by kernel_rfl
theorem qwc : szOf Tryz.prog 247 = 1 := by kernel_rfl
theorem qot : tiOf Tryz.prog 248 = some { sz := 1, bytes := 8, zero := [.nilFunc], k := .func, eg := false, fl := none, za := false } := by kernel_rfl
theorem qwb : szOf Tryz.prog 248 = 1 := by kernel_rfl
theorem qos : tiOf Tryz.prog 249 = some { sz := 1, bytes := 8, zero := [.nilFunc], k := .func, eg := false, fl := none, za := false } := by kernel_rfl
theorem qwa : szOf Tryz.prog 249 = 1 := by kernel_rfl
theorem qor : tiOf Tryz.prog 251 = some { sz := 1, bytes := 8, zero := [.nilFunc], k := .func, eg := false, fl := none, za := false } := by kernel_rfl
theorem qv9 : szOf Tryz.prog 251 = 1 := by kernel_rfl
theorem qoq : tiOf Tryz.prog 253 = some { sz := 1, bytes := 8, zero := [.nilFunc], k := .func, eg := false, fl := none, za := false } := by kernel_rfl
theorem qv8 : szOf Tryz.prog 253 = 1 := by kernel_rfl
theorem qop : tiOf Tryz.prog 254 = some { sz := 1, bytes := 8, zero := [.nilFunc], k := .func, eg := false, fl := none, za := false } := by kernel_rfl
theorem qv7 : szOf Tryz.prog 254 = 1 := by kernel_rfl
theorem qoo : tiOf Tryz.prog 255 = some { sz := 1, bytes := 8, zero := [.nilFunc], k := .func, eg := false, fl := none, za := false } := by kernel_rfl
theorem qv6 : szOf Tryz.prog 255 = 1 := by kernel_rfl
theorem qon : tiOf Tryz.prog 256 = some { sz := 1, bytes := 8, zero := [.nilFunc], k := .func, eg := false, fl := none, za := false } := by kernel_rfl
theorem qv5 : szOf Tryz.prog 256 = 1 := by kernel_rfl
theorem qom : tiOf Tryz.prog 257 = some { sz := 3, bytes := 40, zero := [.int .i64 0, .int .i64 0, .slice none 0 0], k := .strct [(0, 3, false), (1, 3, false), (2, 26, false)], eg := false, fl := none, za := true } := by kernel_rfl
theorem qv4 : szOf Tryz.prog 257 = 3 := by kernel_rfl
theorem qol : tiOf Tryz.prog 258 = some { sz := 3, bytes := 40, zero := [.int .i64 0, .int .i64 0, .slice none 0 0], k := .strct [(0, 3, false), (1, 3, false), (2, 26, false)], eg := false, fl := none, za := true } := by kernel_rfl
theorem qv3 : szOf Tryz.prog 258 = 3 := by kernel_rfl
theorem qok : tiOf Tryz.prog 259 = some { sz := 1, bytes := 8, zero := [.map none], k := .map 89 27, eg := false, fl := none, za := false } := by kernel_rfl
theorem qv2 : szOf Tryz.prog 259 = 1 := by kernel_rfl
theorem qoj : tiOf Tryz.prog 260 = some { sz := 1, bytes := 8, zero := [.nilFunc], k := .func, eg := false, fl := none, za := false } := by kernel_rfl
theorem qv1 : szOf Tryz.prog 260 = 1 := by kernel_rfl
theorem qoi : tiOf Tryz.prog 261 = some { sz := 1, bytes := 8, zero := [.nilFunc], k := .func, eg := false, fl := none, za := false } := by kernel_rfl
theorem qv0 : szOf Tryz.prog 261 = 1 := by kernel_rfl
theorem qoh : tiOf Tryz.prog 262 = some { sz := 1, bytes := 8, zero := [.pointer none], k := .ptr 266, eg := false, fl := none, za := false } := by kernel_rfl
theorem qvz : szOf Tryz.prog 262 = 1 := by kernel_rfl
theorem qog : tiOf Tryz.prog 263 = some { sz := 1, bytes := 8, zero := [.nilFunc], k := .func, eg := false, fl := none, za := false } := by kernel_rfl
theorem qvy : szOf Tryz.prog 263 = 1 := by kernel_rfl
theorem qof : tiOf Tryz.prog 264 = some { sz := 1, bytes := 8, zero := [.pointer none], k := .ptr 262, eg := false, fl := none, za := false } := by kernel_rfl
theorem qvx : szOf Tryz.prog 264 = 1 := by kernel_rfl
theorem qoe : tiOf Tryz.prog 265 = some { sz := 2, bytes := 16, zero := [.int .i64 0, .int .i64 0], k := .strct [(0, 28, false), (1, 3, false)], eg := false, fl := some [.int, .int], za := true } := by kernel_rfl
theorem qvw : szOf Tryz.prog 265 = 2 := by kernel_rfl
theorem qod : tiOf Tryz.prog 266 = some { sz := 2, bytes := 16, zero := [.int .i64 0, .int .i64 0], k := .strct [(0, 28, false), (1, 3, false)], eg := false, fl := some [.int, .int], za := true } := by kernel_rfl
theorem qvv : szOf Tryz.prog 266 = 2 := by kernel_rfl
theorem qoc : tiOf Tryz.prog 267 = some { sz := 1, bytes := 8, zero := [.nilFunc], k := .func, eg := false, fl := none, za := false } := by kernel_rfl
theorem qvu : szOf Tryz.prog 267 = 1 := by kernel_rfl
theorem qob : tiOf Tryz.prog 269 = some { sz := 1, bytes := 8, zero := [.nilFunc], k := .func, eg := false, fl := none, za := false } := by kernel_rfl
theorem qvt : szOf Tryz.prog 269 = 1 := by kernel_rfl
theorem qoa : tiOf Tryz.prog 271 = some { sz := 1, bytes := 8, zero := [.nilFunc], k := .func, eg := false, fl := none, za := false } := by kernel_rfl
theorem qvs : szOf Tryz.prog 271 = 1 := by kernel_rfl
theorem qn9 : tiOf Tryz.prog 272 = some { sz := 1, bytes := 8, zero := [.nilFunc], k := .func, eg := false, fl := none, za := false } := by kernel_rfl
theorem qvr : szOf Tryz.prog 272 = 1 := by kernel_rfl
theorem qn8 : tiOf Tryz.prog 273 = some { sz := 5, bytes := 104, zero := [.slice none 0 0, .slice none 0 0, .map none, .slice none 0 0, .slice none 0 0], k := .strct [(0, 26, false), (1, 27, false), (2, 193, false), (3, 26, false), (4, 27, false)], eg := false, fl := none, za := true } := by kernel_rfl
theorem qvq : szOf Tryz.prog 273 = 5 := by kernel_rfl
theorem qn7 : tiOf Tryz.prog 274 = some { sz := 5, bytes := 104, zero := [.slice none 0 0, .slice none 0 0, .map none, .slice none 0 0, .slice none 0 0], k := .strct [(0, 26, false), (1, 27, false), (2, 193, false), (3, 26, false), (4, 27, false)], eg := false, fl := none, za := true } := by kernel_rfl
theorem qvp : szOf Tryz.prog 274 = 5 := by kernel_rfl
theorem qn6 : tiOf Tryz.prog 275 = some { sz := 1, bytes := 8, zero := [.nilFunc], k := .func, eg := false, fl := none, za := false } := by kernel_rfl
theorem qvo : szOf Tryz.prog 275 = 1 := by kernel_rfl
theorem qn5 : tiOf Tryz.prog 276 = some { sz := 1, bytes := 8, zero := [.nilFunc], k := .func, eg := false, fl := none, za := false } := by kernel_rfl
theorem qvn : szOf Tryz.prog 276 = 1 := by kernel_rfl
theorem qn4 : tiOf Tryz.prog 277 = some { sz := 1, bytes := 8, zero := [.nilFunc], k := .func, eg := false, fl := none, za := false } := by kernel_rfl
theorem qvm : szOf Tryz.prog 277 = 1 := by kernel_rfl
theorem qn3 : tiOf Tryz.prog 278 = some { sz := 1, bytes := 8, zero := [.nilFunc], k := .func, eg := false, fl := none, za := false } := by kernel_rfl
theorem qvl : szOf Tryz.prog 278 = 1 := by kernel_rfl
theorem qn2 : tiOf Tryz.prog 279 = some { sz := 1, bytes := 8, zero := [.nilFunc], k := .func, eg := false, fl := none, za := false } := by kernel_rfl
theorem qvk : szOf Tryz.prog 279 = 1 := by kernel_rfl
theorem qn1 : tiOf Tryz.prog 280 = some { sz := 1, bytes := 8, zero := [.nilFunc], k := .func, eg := false, fl := none, za := false } := by kernel_rfl
theorem qvj : szOf Tryz.prog 280 = 1 := by kernel_rfl
theorem qn0 : tiOf Tryz.prog 281 = some { sz := 1, bytes := 8, zero := [.nilFunc], k := .func, eg := false, fl := none, za := false } := by kernel_rfl
theorem qvi : szOf Tryz.prog 281 = 1 := by kernel_rfl
theorem qnz : tiOf Tryz.prog 282 = some { sz := 1, bytes := 8, zero := [.nilFunc], k := .func, eg := false, fl := none, za := false } := by kernel_rfl
theorem qvh : szOf Tryz.prog 282 = 1 := by kernel_rfl
theorem qny : tiOf Tryz.prog 283 = some { sz := 1, bytes := 8, zero := [.nilFunc], k := .func, eg := false, fl := none, za := false } := by kernel_rfl
theorem qvg : szOf Tryz.prog 283 = 1 := by kernel_rfl
theorem qnx : tiOf Tryz.prog 284 = some { sz := 1, bytes := 8, zero := [.nilFunc], k := .func, eg := false, fl := none, za := false } := by kernel_rfl
theorem qvf : szOf Tryz.prog 284 = 1 := by kernel_rfl
theorem qnw : tiOf Tryz.prog 285 = some { sz := 1, bytes := 8, zero := [.nilFunc], k := .func, eg := false, fl := none, za := false } := by kernel_rfl
theorem qve : szOf Tryz.prog 285 = 1 := by kernel_rfl
theorem qnv : tiOf Tryz.prog 286 = some { sz := 1, bytes := 8, zero := [.nilFunc], k := .func, eg := false, fl := none, za := false } := by kernel_rfl
theorem qvd : szOf Tryz.prog 286 = 1 := by kernel_rfl
theorem qnu : tiOf Tryz.prog 287 = some { sz := 1, bytes := 8, zero := [.nilFunc], k := .func, eg := false, fl := none, za := false } := by kernel_rfl
theorem qvc : szOf Tryz.prog 287 = 1 := by kernel_rfl
theorem qnt : tiOf Tryz.prog 288 = some { sz := 1, bytes := 8, zero := [.nilFunc], k := .func, eg := false, fl := none, za := false } := by kernel_rfl
theorem qvb : szOf Tryz.prog 288 = 1 := by kernel_rfl
theorem qns : tiOf Tryz.prog 289 = some { sz := 1, bytes := 8, zero := [.int .u64 0], k := .int .u64, eg := false, fl := some [.int], za := false } := by kernel_rfl
theorem qva : szOf Tryz.prog 289 = 1 := by kernel_rfl
theorem qnr : tiOf Tryz.prog 290 = some { sz := 1, bytes := 8, zero := [.nilFunc], k := .func, eg := false, fl := none, za := false } := by kernel_rfl
theorem qu9 : szOf Tryz.prog 290 = 1 := by kernel_rfl
theorem qnq : tiOf Tryz.prog 291 = some { sz := 1, bytes := 8, zero := [.nilFunc], k := .func, eg := false, fl := none, za := false } := by kernel_rfl
theorem qu8 : szOf Tryz.prog 291 = 1 := by kernel_rfl
theorem qnp : tiOf Tryz.prog 292 = some { sz := 1, bytes := 8, zero := [.nilFunc], k := .func, eg := false, fl := none, za := false } := by kernel_rfl
theorem qu7 : szOf Tryz.prog 292 = 1 := by kernel_rfl
theorem qno : tiOf Tryz.prog 293 = some { sz := 1, bytes := 8, zero := [.nilFunc], k := .func, eg := false, fl := none, za := false } := by kernel_rfl
theorem qu6 : szOf Tryz.prog 293 = 1 := by kernel_rfl
theorem qnn : tiOf Tryz.prog 294 = some { sz := 1, bytes := 8, zero := [.nilFunc], k := .func, eg := false, fl := none, za := false } := by kernel_rfl
theorem qu5 : szOf Tryz.prog 294 = 1 := by kernel_rfl
theorem qnm : tiOf Tryz.prog 295 = some { sz := 1, bytes := 8, zero := [.nilFunc], k := .func, eg := false, fl := none, za := false } := by kernel_rfl
theorem qu4 : szOf Tryz.prog 295 = 1 := by kernel_rfl
theorem qnl : tiOf Tryz.prog 296 = some { sz := 1, bytes := 8, zero := [.nilFunc], k := .func, eg := false, fl := none, za := false } := by kernel_rfl
theorem qu3 : szOf Tryz.prog 296 = 1 := by kernel_rfl
theorem qnk : tiOf Tryz.prog 297 = some { sz := 5, bytes := 72, zero := [.int .i64 0, .slice none 0 0, .bool false, .slice none 0 0, .bool false], k := .strct [(0, 98, false), (4, 4, false)], eg := false, fl := none, za := true } := by kernel_rfl
theorem qu2 : szOf Tryz.prog 297 = 5 := by kernel_rfl
theorem qnj : tiOf Tryz.prog 298 = some { sz := 5, bytes := 72, zero := [.int .i64 0, .slice none 0 0, .bool false, .slice none 0 0, .bool false], k := .strct [(0, 98, false), (4, 4, false)], eg := false, fl := none, za := true } := by kernel_rfl
theorem qu1 : szOf Tryz.prog 298 = 5 := by kernel_rfl
theorem qni : tiOf Tryz.prog 300 = some { sz := 1, bytes := 8, zero := [.nilFunc], k := .func, eg := false, fl := none, za := false } := by kernel_rfl
theorem qu0 : szOf Tryz.prog 300 = 1 := by kernel_rfl
theorem qnh : tiOf Tryz.prog 301 = some { sz := 1, bytes := 8, zero := [.nilFunc], k := .func, eg := false, fl := none, za := false } := by kernel_rfl
theorem quz : szOf Tryz.prog 301 = 1 := by kernel_rfl
theorem qng : tiOf Tryz.prog 302 = some { sz := 1, bytes := 8, zero := [.nilFunc], k := .func, eg := false, fl := none, za := false } := by kernel_rfl
theorem quy : szOf Tryz.prog 302 = 1 := by kernel_rfl
theorem qnf : tiOf Tryz.prog 303 = some { sz := 1, bytes := 8, zero := [.nilFunc], k := .func, eg := false, fl := none, za := false } := by kernel_rfl
theorem qux : szOf Tryz.prog 303 = 1 := by kernel_rfl
theorem qne : tiOf Tryz.prog 304 = some { sz := 1, bytes := 8, zero := [.nilFunc], k := .func, eg := false, fl := none, za := false } := by kernel_rfl
theorem quw : szOf Tryz.prog 304 = 1 := by kernel_rfl
theorem qnd : tiOf Tryz.prog 305 = some { sz := 1, bytes := 8, zero := [.nilFunc], k := .func, eg := false, fl := none, za := false } := by kernel_rfl
theorem quv : szOf Tryz.prog 305 = 1 := by kernel_rfl
theorem qnc : tiOf Tryz.prog 306 = some { sz := 1, bytes := 8, zero := [.nilFunc], k := .func, eg := false, fl := none, za := false } := by kernel_rfl
theorem quu : szOf Tryz.prog 306 = 1 := by kernel_rfl
theorem qnb : tiOf Tryz.prog 307 = some { sz := 1, bytes := 8, zero := [.nilFunc], k := .func, eg := false, fl := none, za := false } := by kernel_rfl
theorem qut : szOf Tryz.prog 307 = 1 := by kernel_rfl
theorem qna : tiOf Tryz.prog 308 = some { sz := 1, bytes := 8, zero := [.nilFunc], k := .func, eg := false, fl := none, za := false } := by kernel_rfl
theorem qus : szOf Tryz.prog 308 = 1 := by kernel_rfl
theorem qm9 : tiOf Tryz.prog 309 = some { sz := 1, bytes := 8, zero := [.nilFunc], k := .func, eg := false, fl := none, za := false } := by kernel_rfl
theorem qur : szOf Tryz.prog 309 = 1 := by kernel_rfl
theorem qm8 : tiOf Tryz.prog 322 = some { sz := 1, bytes := 8, zero := [.nilFunc], k := .func, eg := false, fl := none, za := false } := by kernel_rfl
theorem quq : szOf Tryz.prog 322 = 1 := by kernel_rfl
theorem qm7 : tiOf Tryz.prog 323 = some { sz := 1, bytes := 8, zero := [.nilFunc], k := .func, eg := false, fl := none, za := false } := by kernel_rfl
theorem qup : szOf Tryz.prog 323 = 1 := by kernel_rfl
theorem qm6 : tiOf Tryz.prog 324 = some { sz := 3, bytes := 24, zero := [.int .i64 0, .int .i64 0, .int .i64 0], k := .strct [(0, 3, false), (1, 3, false), (2, 3, false)], eg := false, fl := some [.int, .int, .int], za := true } := by kernel_rfl
theorem qun : szOf Tryz.prog 324 = 3 := by kernel_rfl
theorem qm5 : tiOf Tryz.prog 325 = some { sz := 3, bytes := 24, zero := [.int .i64 0, .int .i64 0, .int .i64 0], k := .strct [(0, 3, false), (1, 3, false), (2, 3, false)], eg := false, fl := some [.int, .int, .int], za := true } := by kernel_rfl
theorem qum : szOf Tryz.prog 325 = 3 := by kernel_rfl
theorem qm4 : tiOf Tryz.prog 326 = some { sz := 1, bytes := 8, zero := [.nilFunc], k := .func, eg := false, fl := none, za := false } := by kernel_rfl
theorem qul : szOf Tryz.prog 326 = 1 := by kernel_rfl
theorem qm3 : tiOf Tryz.prog 327 = some { sz := 1, bytes := 8, zero := [.nilFunc], k := .func, eg := false, fl := none, za := false } := by kernel_rfl
theorem quk : szOf Tryz.prog 327 = 1 := by kernel_rfl
theorem qm2 : tiOf Tryz.prog 328 = some { sz := 1, bytes := 8, zero := [.nilFunc], k := .func, eg := false, fl := none, za := false } := by kernel_rfl
theorem quj : szOf Tryz.prog 328 = 1 := by kernel_rfl
theorem qm1 : tiOf Tryz.prog 329 = some { sz := 1, bytes := 8, zero := [.nilFunc], k := .func, eg := false, fl := none, za := false } := by kernel_rfl
theorem qui : szOf Tryz.prog 329 = 1 := by kernel_rfl
theorem qm0 : tiOf Tryz.prog 330 = some { sz := 1, bytes := 8, zero := [.nilFunc], k := .func, eg := false, fl := none, za := false } := by kernel_rfl
theorem quh : szOf Tryz.prog 330 = 1 := by kernel_rfl
theorem qmz : tiOf Tryz.prog 331 = some { sz := 4, bytes := 4, zero := [.bool false, .bool false, .bool false, .bool false], k := .strct [(0, 4, false), (1, 4, false), (2, 4, false), (3, 4, false)], eg := false, fl := some [.bool, .bool, .bool, .bool], za := true } := by kernel_rfl
theorem qug : szOf Tryz.prog 331 = 4 := by kernel_rfl
theorem qmy : tiOf Tryz.prog 332 = some { sz := 4, bytes := 4, zero := [.bool false, .bool false, .bool false, .bool false], k := .strct [(0, 4, false), (1, 4, false), (2, 4, false), (3, 4, false)], eg := false, fl := some [.bool, .bool, .bool, .bool], za := true } := by kernel_rfl
theorem quf : szOf Tryz.prog 332 = 4 := by kernel_rfl
theorem qmx : tiOf Tryz.prog 333 = some { sz := 1, bytes := 8, zero := [.nilFunc], k := .func, eg := false, fl := none, za := false } := by kernel_rfl
theorem que : szOf Tryz.prog 333 = 1 := by kernel_rfl
theorem qmw : tiOf Tryz.prog 334 = some { sz := 1, bytes := 8, zero := [.nilFunc], k := .func, eg := false, fl := none, za := false } := by kernel_rfl
theorem qud : szOf Tryz.prog 334 = 1 := by kernel_rfl
theorem qmv : tiOf Tryz.prog 335 = some { sz := 1, bytes := 8, zero := [.nilFunc], k := .func, eg := false, fl := none, za := false } := by kernel_rfl
theorem quc : szOf Tryz.prog 335 = 1 := by kernel_rfl
theorem qmu : tiOf Tryz.prog 336 = some { sz := 1, bytes := 8, zero := [.nilFunc], k := .func, eg := false, fl := none, za := false } := by kernel_rfl
theorem qub : szOf Tryz.prog 336 = 1 := by kernel_rfl
theorem qmt : tiOf Tryz.prog 337 = some { sz := 1, bytes := 8, zero := [.nilFunc], k := .func, eg := false, fl := none, za := false } := by kernel_rfl
theorem qua : szOf Tryz.prog 337 = 1 := by kernel_rfl
theorem qms : tiOf Tryz.prog 338 = some { sz := 1, bytes := 8, zero := [.nilFunc], k := .func, eg := false, fl := none, za := false } := by kernel_rfl
theorem qt9 : szOf Tryz.prog 338 = 1 := by kernel_rfl
theorem qmr : tiOf Tryz.prog 339 = some { sz := 1, bytes := 8, zero := [.nilFunc], k := .func, eg := false, fl := none, za := false } := by kernel_rfl
theorem qt8 : szOf Tryz.prog 339 = 1 := by kernel_rfl
theorem qmq : tiOf Tryz.prog 340 = some { sz := 1, bytes := 8, zero := [.nilFunc], k := .func, eg := false, fl := none, za := false } := by kernel_rfl
theorem qt7 : szOf Tryz.prog 340 = 1 := by kernel_rfl
theorem qmp : tiOf Tryz.prog 341 = some { sz := 1, bytes := 8, zero := [.nilFunc], k := .func, eg := false, fl := none, za := false } := by kernel_rfl
theorem qt6 : szOf Tryz.prog 341 = 1 := by kernel_rfl
theorem qmo : tiOf Tryz.prog 342 = some { sz := 1, bytes := 8, zero := [.map none], k := .map 3 4, eg := false, fl := none, za := false } := by kernel_rfl
theorem qt5 : szOf Tryz.prog 342 = 1 := by kernel_rfl
theorem qmn : tiOf Tryz.prog 343 = some { sz := 1, bytes := 8, zero := [.nilFunc], k := .func, eg := false, fl := none, za := false } := by kernel_rfl
theorem qt4 : szOf Tryz.prog 343 = 1 := by kernel_rfl
theorem qmm : tiOf Tryz.prog 344 = some { sz := 1, bytes := 8, zero := [.nilFunc], k := .func, eg := false, fl := none, za := false } := by kernel_rfl
theorem qt3 : szOf Tryz.prog 344 = 1 := by kernel_rfl
theorem qml : tiOf Tryz.prog 345 = some { sz := 1, bytes := 8, zero := [.int .i64 0], k := .int .i64, eg := false, fl := some [.int], za := false } := by kernel_rfl
theorem qt2 : szOf Tryz.prog 345 = 1 := by kernel_rfl
theorem qmk : tiOf Tryz.prog 347 = some { sz := 1, bytes := 8, zero := [.nilFunc], k := .func, eg := false, fl := none, za := false } := by kernel_rfl
theorem qt1 : szOf Tryz.prog 347 = 1 := by kernel_rfl
theorem qmj : tiOf Tryz.prog 348 = some { sz := 1, bytes := 8, zero := [.nilFunc], k := .func, eg := false, fl := none, za := false } := by kernel_rfl
theorem qt0 : szOf Tryz.prog 348 = 1 := by kernel_rfl
theorem qmi : tiOf Tryz.prog 349 = some { sz := 1, bytes := 8, zero := [.nilFunc], k := .func, eg := false, fl := none, za := false } := by kernel_rfl
theorem qtz : szOf Tryz.prog 349 = 1 := by kernel_rfl
theorem qmh : tiOf Tryz.prog 351 = some { sz := 1, bytes := 8, zero := [.nilFunc], k := .func, eg := false, fl := none, za := false } := by kernel_rfl
theorem qty : szOf Tryz.prog 351 = 1 := by kernel_rfl
theorem qmg : tiOf Tryz.prog 352 = some { sz := 1, bytes := 8, zero := [.nilFunc], k := .func, eg := false, fl := none, za := false } := by kernel_rfl
theorem qtx : szOf Tryz.prog 352 = 1 := by kernel_rfl
theorem qmf : tiOf Tryz.prog 353 = some { sz := 1, bytes := 4, zero := [.int .u32 0], k := .int .u32, eg := false, fl := some [.int], za := false } := by kernel_rfl
theorem qtw : szOf Tryz.prog 353 = 1 := by kernel_rfl
theorem qme : tiOf Tryz.prog 354 = some { sz := 1, bytes := 8, zero := [.nilFunc], k := .func, eg := false, fl := none, za := false } := by kernel_rfl
theorem qtv : szOf Tryz.prog 354 = 1 := by kernel_rfl
theorem qmd : tiOf Tryz.prog 355 = some { sz := 1, bytes := 8, zero := [.int .u64 0], k := .int .u64, eg := false, fl := some [.int], za := false } := by kernel_rfl
theorem qtu : szOf Tryz.prog 355 = 1 := by kernel_rfl
theorem qmc : tiOf Tryz.prog 356 = some { sz := 1, bytes := 8, zero := [.nilFunc], k := .func, eg := false, fl := none, za := false } := by kernel_rfl
theorem qtt : szOf Tryz.prog 356 = 1 := by kernel_rfl
theorem qmb : tiOf Tryz.prog 357 = some { sz := 1, bytes := 8, zero := [.nilFunc], k := .func, eg := false, fl := none, za := false } := by kernel_rfl
theorem qts : szOf Tryz.prog 357 = 1 := by kernel_rfl
theorem qma : tiOf Tryz.prog 358 = some { sz := 1, bytes := 8, zero := [.nilFunc], k := .func, eg := false, fl := none, za := false } := by kernel_rfl
theorem qtr : szOf Tryz.prog 358 = 1 := by kernel_rfl
theorem ql9 : tiOf Tryz.prog 359 = some { sz := 1, bytes := 8, zero := [.nilFunc], k := .func, eg := false, fl := none, za := false } := by kernel_rfl
theorem qtq : szOf Tryz.prog 359 = 1 := by kernel_rfl
theorem ql8 : tiOf Tryz.prog 360 = some { sz := 1, bytes := 8, zero := [.nilFunc], k := .func, eg := false, fl := none, za := false } := by kernel_rfl
theorem qtp : szOf Tryz.prog 360 = 1 := by kernel_rfl
theorem ql7 : tiOf Tryz.prog 361 = some { sz := 1, bytes := 8, zero := [.nilFunc], k := .func, eg := false, fl := none, za := false } := by kernel_rfl
theorem qto : szOf Tryz.prog 361 = 1 := by kernel_rfl
theorem ql6 : tiOf Tryz.prog 362 = some { sz := 1, bytes := 8, zero := [.nilFunc], k := .func, eg := false, fl := none, za := false } := by kernel_rfl
theorem qtn : szOf Tryz.prog 362 = 1 := by kernel_rfl
theorem ql5 : tiOf Tryz.prog 363 = some { sz := 1, bytes := 8, zero := [.pointer none], k := .ptr 298, eg := false, fl := none, za := false } := by kernel_rfl
theorem qtm : szOf Tryz.prog 363 = 1 := by kernel_rfl
theorem ql4 : tiOf Tryz.prog 364 = some { sz := 1, bytes := 8, zero := [.nilFunc], k := .func, eg := false, fl := none, za := false } := by kernel_rfl
theorem qtl : szOf Tryz.prog 364 = 1 := by kernel_rfl
theorem ql3 : tiOf Tryz.prog 371 = some { sz := 1, bytes := 16, zero := [.nilIface], k := .iface false, eg := true, fl := none, za := false } := by kernel_rfl
theorem qtk : szOf Tryz.prog 371 = 1 := by kernel_rfl
theorem ql2 : tiOf Tryz.prog 373 = some { sz := 1, bytes := 8, zero := [.nilFunc], k := .func, eg := false, fl := none, za := false } := by kernel_rfl
theorem qtj : szOf Tryz.prog 373 = 1 := by kernel_rfl
theorem ql1 : tiOf Tryz.prog 374 = some { sz := 1, bytes := 16, zero := [.nilIface], k := .iface false, eg := true, fl := none, za := false } := by kernel_rfl
theorem qti : szOf Tryz.prog 374 = 1 := by kernel_rfl
theorem ql0 : tiOf Tryz.prog 375 = some { sz := 1, bytes := 8, zero := [.nilFunc], k := .func, eg := false, fl := none, za := false } := by kernel_rfl
theorem qth : szOf Tryz.prog 375 = 1 := by kernel_rfl
theorem qlz : tiOf Tryz.prog 376 = some { sz := 1, bytes := 16, zero := [.nilIface], k := .iface false, eg := true, fl := none, za := false } := by kernel_rfl
theorem qtg : szOf Tryz.prog 376 = 1 := by kernel_rfl
theorem qly : tiOf Tryz.prog 377 = some { sz := 1, bytes := 24, zero := [.slice none 0 0], k := .slc 165, eg := false, fl := none, za := false } := by kernel_rfl
theorem qtf : szOf Tryz.prog 377 = 1 := by kernel_rfl
theorem qlx : tiOf Tryz.prog 378 = some { sz := 1, bytes := 8, zero := [.nilFunc], k := .func, eg := false, fl := none, za := false } := by kernel_rfl
theorem qte : szOf Tryz.prog 378 = 1 := by kernel_rfl
theorem qlw : tiOf Tryz.prog 379 = some { sz := 1, bytes := 8, zero := [.nilFunc], k := .func, eg := false, fl := none, za := false } := by kernel_rfl
theorem qtd : szOf Tryz.prog 379 = 1 := by kernel_rfl
theorem qlv : tiOf Tryz.prog 380 = some { sz := 1, bytes := 8, zero := [.nilFunc], k := .func, eg := false, fl := none, za := false } := by kernel_rfl
theorem qtc : szOf Tryz.prog 380 = 1 := by kernel_rfl
theorem qlu : tiOf Tryz.prog 381 = some { sz := 1, bytes := 8, zero := [.nilFunc], k := .func, eg := false, fl := none, za := false } := by kernel_rfl
theorem qtb : szOf Tryz.prog 381 = 1 := by kernel_rfl
theorem qlt : tiOf Tryz.prog 382 = some { sz := 1, bytes := 8, zero := [.nilFunc], k := .func, eg := false, fl := none, za := false } := by kernel_rfl
theorem qta : szOf Tryz.prog 382 = 1 := by kernel_rfl
theorem qls : tiOf Tryz.prog 383 = some { sz := 1, bytes := 8, zero := [.nilFunc], k := .func, eg := false, fl := none, za := false } := by kernel_rfl
theorem qs9 : szOf Tryz.prog 383 = 1 := by kernel_rfl
theorem qlr : tiOf Tryz.prog 384 = some { sz := 1, bytes := 8, zero := [.int .u64 0], k := .int .u64, eg := false, fl := some [.int], za := false } := by kernel_rfl
theorem qs8 : szOf Tryz.prog 384 = 1 := by kernel_rfl
theorem qlq : tiOf Tryz.prog 385 = some { sz := 1, bytes := 8, zero := [.nilFunc], k := .func, eg := false, fl := none, za := false } := by kernel_rfl
theorem qs7 : szOf Tryz.prog 385 = 1 := by kernel_rfl
theorem qlp : tiOf Tryz.prog 386 = some { sz := 1, bytes := 8, zero := [.nilFunc], k := .func, eg := false, fl := none, za := false } := by kernel_rfl
theorem qs6 : szOf Tryz.prog 386 = 1 := by kernel_rfl
theorem qlo : tiOf Tryz.prog 387 = some { sz := 1, bytes := 8, zero := [.nilFunc], k := .func, eg := false, fl := none, za := false } := by kernel_rfl
theorem qs5 : szOf Tryz.prog 387 = 1 := by kernel_rfl
theorem qln : tiOf Tryz.prog 388 = some { sz := 1, bytes := 8, zero := [.pointer none], k := .ptr 3, eg := false, fl := none, za := false } := by kernel_rfl
theorem qs4 : szOf Tryz.prog 388 = 1 := by kernel_rfl
theorem qlm : tiOf Tryz.prog 389 = some { sz := 1, bytes := 8, zero := [.nilFunc], k := .func, eg := false, fl := none, za := false } := by kernel_rfl
theorem qs3 : szOf Tryz.prog 389 = 1 := by kernel_rfl
theorem qll : tiOf Tryz.prog 390 = some { sz := 1, bytes := 8, zero := [.int .i64 0], k := .strct [(0, 28, false)], eg := false, fl := some [.int], za := true } := by kernel_rfl
theorem qs2 : szOf Tryz.prog 390 = 1 := by kernel_rfl
theorem qlk : tiOf Tryz.prog 391 = some { sz := 1, bytes := 8, zero := [.int .i64 0], k := .strct [(0, 28, false)], eg := false, fl := some [.int], za := true } := by kernel_rfl
theorem qs1 : szOf Tryz.prog 391 = 1 := by kernel_rfl
theorem qlj : tiOf Tryz.prog 392 = some { sz := 1, bytes := 8, zero := [.nilFunc], k := .func, eg := false, fl := none, za := false } := by kernel_rfl
theorem qs0 : szOf Tryz.prog 392 = 1 := by kernel_rfl
theorem qli : tiOf Tryz.prog 393 = some { sz := 1, bytes := 8, zero := [.nilFunc], k := .func, eg := false, fl := none, za := false } := by kernel_rfl
theorem qsz : szOf Tryz.prog 393 = 1 := by kernel_rfl
theorem qlh : tiOf Tryz.prog 394 = some { sz := 1, bytes := 8, zero := [.nilFunc], k := .func, eg := false, fl := none, za := false } := by kernel_rfl
theorem qsy : szOf Tryz.prog 394 = 1 := by kernel_rfl
theorem qlg : tiOf Tryz.prog 395 = some { sz := 1, bytes := 8, zero := [.pointer none], k := .ptr 384, eg := false, fl := none, za := false } := by kernel_rfl
theorem qsx : szOf Tryz.prog 395 = 1 := by kernel_rfl
theorem qlf : tiOf Tryz.prog 397 = some { sz := 1, bytes := 8, zero := [.nilFunc], k := .func, eg := false, fl := none, za := false } := by kernel_rfl
theorem qsw : szOf Tryz.prog 397 = 1 := by kernel_rfl
theorem qle : tiOf Tryz.prog 398 = some { sz := 1, bytes := 8, zero := [.nilFunc], k := .func, eg := false, fl := none, za := false } := by kernel_rfl
theorem qsv : szOf Tryz.prog 398 = 1 := by kernel_rfl
theorem qld : tiOf Tryz.prog 399 = some { sz := 1, bytes := 8, zero := [.nilFunc], k := .func, eg := false, fl := none, za := false } := by kernel_rfl
theorem qsu : szOf Tryz.prog 399 = 1 := by kernel_rfl
theorem qlc : tiOf Tryz.prog 400 = some { sz := 1, bytes := 8, zero := [.nilFunc], k := .func, eg := false, fl := none, za := false } := by kernel_rfl
theorem qst : szOf Tryz.prog 400 = 1 := by kernel_rfl
theorem qlb : tiOf Tryz.prog 401 = some { sz := 1, bytes := 8, zero := [.nilFunc], k := .func, eg := false, fl := none, za := false } := by kernel_rfl
theorem qss : szOf Tryz.prog 401 = 1 := by kernel_rfl
theorem qla : tiOf Tryz.prog 403 = some { sz := 1, bytes := 8, zero := [.nilFunc], k := .func, eg := false, fl := none, za := false } := by kernel_rfl
theorem qsr : szOf Tryz.prog 403 = 1 := by kernel_rfl
theorem qk9 : tiOf Tryz.prog 405 = some { sz := 2, bytes := 2, zero := [.int .u8 0, .int .u8 0], k := .strct [(0, 5, false), (1, 5, false)], eg := false, fl := some [.int, .int], za := true } := by kernel_rfl
theorem qsq : szOf Tryz.prog 405 = 2 := by kernel_rfl
theorem qk8 : tiOf Tryz.prog 406 = some { sz := 2, bytes := 2, zero := [.int .u8 0, .int .u8 0], k := .strct [(0, 5, false), (1, 5, false)], eg := false, fl := some [.int, .int], za := true } := by kernel_rfl
theorem qsp : szOf Tryz.prog 406 = 2 := by kernel_rfl
theorem qk7 : tiOf Tryz.prog 407 = some { sz := 32, bytes := 32, zero := [.int .u8 0, .int .u8 0, .int .u8 0, .int .u8 0, .int .u8 0, .int .u8 0, .int .u8 0, .int .u8 0, .int .u8 0, .int .u8 0, .int .u8 0, .int .u8 0, .int .u8 0, .int .u8 0, .int .u8 0, .int .u8 0, .int .u8 0, .int .u8 0, .int .u8 0, .int .u8 0, .int .u8 0, .int .u8 0, .int .u8 0, .int .u8 0, .int .u8 0, .int .u8 0, .int .u8 0, .int .u8 0, .int .u8 0, .int .u8 0, .int .u8 0, .int .u8 0], k := .arr 16 406, eg := false, fl := some [.int, .int, .int, .int, .int, .int, .int, .int, .int, .int, .int, .int, .int, .int, .int, .int, .int, .int, .int, .int, .int, .int, .int, .int, .int, .int, .int, .int, .int, .int, .int, .int], za := true } := by kernel_rfl
theorem qso : szOf Tryz.prog 407 = 32 := by kernel_rfl
theorem qk6 : tiOf Tryz.prog 408 = some { sz := 1, bytes := 8, zero := [.nilFunc], k := .func, eg := false, fl := none, za := false } := by kernel_rfl
theorem qsn : szOf Tryz.prog 408 = 1 := by kernel_rfl
theorem qk5 : tiOf Tryz.prog 410 = some { sz := 1, bytes := 8, zero := [.nilFunc], k := .func, eg := false, fl := none, za := false } := by kernel_rfl
theorem qsm : szOf Tryz.prog 410 = 1 := by kernel_rfl
theorem qk4 : tiOf Tryz.prog 411 = some { sz := 1, bytes := 8, zero := [.nilFunc], k := .func, eg := false, fl := none, za := false } := by kernel_rfl
theorem qsl : szOf Tryz.prog 411 = 1 := by kernel_rfl
theorem qk3 : tiOf Tryz.prog 419 = some { sz := 1, bytes := 8, zero := [.nilFunc], k := .func, eg := false, fl := none, za := false } := by kernel_rfl
theorem qsk : szOf Tryz.prog 419 = 1 := by kernel_rfl
theorem qk2 : tiOf Tryz.prog 420 = some { sz := 1, bytes := 8, zero := [.pointer none], k := .ptr 5, eg := false, fl := none, za := false } := by kernel_rfl
theorem qsj : szOf Tryz.prog 420 = 1 := by kernel_rfl
theorem qk1 : tiOf Tryz.prog 425 = some { sz := 1, bytes := 8, zero := [.nilFunc], k := .func, eg := false, fl := none, za := false } := by kernel_rfl
theorem qsi : szOf Tryz.prog 425 = 1 := by kernel_rfl
theorem qk0 : tiOf Tryz.prog 431 = some { sz := 1, bytes := 2, zero := [.int .u16 0], k := .int .u16, eg := false, fl := some [.int], za := false } := by kernel_rfl
theorem qsh : szOf Tryz.prog 431 = 1 := by kernel_rfl
theorem qkz : tiOf Tryz.prog 438 = some { sz := 1, bytes := 8, zero := [.pointer none], k := .ptr 165, eg := false, fl := none, za := false } := by kernel_rfl
theorem qsg : szOf Tryz.prog 438 = 1 := by kernel_rfl
theorem qz6 : miOf Tryz.prog 193 = some ⟨89, 4, true, [.int, .str], { sz := 1, bytes := 1, zero := [.bool false], k := .bool, eg := false, fl := some [.bool], za := false }⟩ := by kernel_rfl
theorem qz5 : miOf Tryz.prog 194 = some ⟨89, 4, true, [.int, .str], { sz := 1, bytes := 1, zero := [.bool false], k := .bool, eg := false, fl := some [.bool], za := false }⟩ := by kernel_rfl
theorem qz4 : miOf Tryz.prog 234 = some ⟨89, 85, true, [.int, .str], { sz := 7, bytes := 104, zero := [.int .i64 0, .string ⟨#[]⟩, .int .i64 0, .int .i64 0, .string ⟨#[]⟩, .slice none 0 0, .slice none 0 0], k := .strct [(0, 3, false), (1, 9, false), (2, 3, false), (3, 3, false), (4, 9, false), (5, 82, false), (6, 83, false)], eg := false, fl := none, za := true }⟩ := by kernel_rfl
theorem qz3 : miOf Tryz.prog 259 = some ⟨89, 27, true, [.int, .str], { sz := 1, bytes := 24, zero := [.slice none 0 0], k := .slc 89, eg := false, fl := none, za := false }⟩ := by kernel_rfl
theorem qz2 : miOf Tryz.prog 342 = some ⟨3, 4, false, [.int], { sz := 1, bytes := 1, zero := [.bool false], k := .bool, eg := false, fl := some [.bool], za := false }⟩ := by kernel_rfl
attribute [simp] ti1 sz1 ti2 sz2 ti3 sz3 ti4 sz4 ti5 sz5 ti9 sz9 ti12 sz12 ti20 sz20 ti21 sz21 ti22 sz22 ti23 sz23 ti24 sz24 ti25 sz25 ti26 sz26 ti27 sz27 ti28 sz28 ti29 sz29 ti30 sz30 ti31 sz31 ti32 sz32 ti33 sz33 ti34 sz34 ti35 sz35 ti36 sz36 ti37 sz37 ti38 sz38 ti39 sz39 ti40 sz40 ti41 sz41 ti42 sz42 ti43 sz43 ti44 sz44 ti45 sz45 ti46 sz46 ti47 sz47 ti48 sz48 ti49 sz49 ti50 sz50 ti51 sz51 ti53 sz53 ti54 sz54 ti55 sz55 ti56 sz56 ti57 sz57 ti58 sz58 ti59 sz59 ti60 sz60 ti61 sz61 ti62 sz62 ti64 sz64 ti65 sz65 ti66 sz66 ti68 sz68 ti69 sz69 ti71 sz71 ti72 sz72 ti73 sz73 ti74 sz74 ti75 sz75 ti76 sz76 ti77 sz77 ti78 sz78 ti79 sz79 ti81 sz81 ti82 sz82 ti83 sz83 ti84 sz84 ti85 sz85 ti87 sz87 ti88 sz88 ti89 sz89 ti90 sz90 ti91 sz91 ti92 sz92 ti93 sz93 ti94 sz94 ti95 sz95 ti96 sz96 ti97 sz97 ti98 sz98 ti99 sz99 qse qzw qsd qzv qsc qzu qsb qzt qsa qzs qr9 qzr qr8 qzq qr7 qzp qr6 qzo qr5 qzn qr4 qzm qr3 qzl qr2 qzk qr1 qzj qr0 qzi qrz qzh qry qzg qrx qzf qrw qze qrv qzd qru qzc qrt qzb qrs qza qrr qy9 qrq qy8 qrp qy7 qro qy6 qrn qy5 qrm qy4 qrl qy3 qrk qy2 qrj qy1 qri qy0 qrh qyz qrg qyy qrf qyx qre qyw qrd qyv qrc qyu qrb qyt qra qys qq9 qyr qq8 qyq qq7 qyp qq6 qyo qq5 qyn qq4 qym qq3 qyl qq2 qyk qq1 qyj qq0 qyi qqz qyh qqy qyg qqx qyf qqw qye qqv qyd qqu qyc qqt qyb qqs qya qqr qx9 qqq qx8 qqp qx7 qqo qx6 qqn qx5 qqm qx4 qql qx3 qqk qx2 qqj qx1 qqi qx0 qqh qxz qqg qxy qqf qxx qqe qxw qqd qxv qqc qxu qqb qxt qqa qxs qp9 qxr qp8 qxq qp7 qxp qp6 qxo qp5 qxn qp4 qxm qp3 qxl qp2 qxk qp1 qxj qp0 qxi qpz qxh qpy qxg qpx qxf qpw qxe qpv qxd qpu qxc qpt qxb qps qxa qpr qw9 qpq qw8 qpp qw7 qpo qw6 qpn qw5 qpm qw4 qpl qw3 qpk qw2 qpj qw1 qpi qw0 qph qwz qpg qwy qpf qwx qpe qww qpd qwv qpc qwu qpb qwt qpa qws qo9 qwr qo8 qwq qo7 qwp qo6 qwo qo5 qwn qo4 qwm qo3 qwl qo2 qwk qo1 qwj qo0 qwi qoz qwh qoy qwg qox qwf qow qwe qov qwd qou qwc qot qwb qos qwa qor qv9 qoq qv8 qop qv7 qoo qv6 qon qv5 qom qv4 qol qv3 qok qv2 qoj qv1 qoi qv0 qoh qvz qog qvy qof qvx qoe qvw qod qvv qoc qvu qob qvt qoa qvs qn9 qvr qn8 qvq qn7 qvp qn6 qvo qn5 qvn qn4 qvm qn3 qvl qn2 qvk qn1 qvj qn0 qvi qnz qvh qny qvg qnx qvf qnw qve qnv qvd qnu qvc qnt qvb qns qva qnr qu9 qnq qu8 qnp qu7 qno qu6 qnn qu5 qnm qu4 qnl qu3 qnk qu2 qnj qu1 qni qu0 qnh quz qng quy qnf qux qne quw qnd quv qnc quu qnb qut qna qus qm9 qur qm8 quq qm7 qup qm6 qun qm5 qum qm4 qul qm3 quk qm2 quj qm1 qui qm0 quh qmz qug qmy quf qmx que qmw qud qmv quc qmu qub qmt qua qms qt9 qmr qt8 qmq qt7 qmp qt6 qmo qt5 qmn qt4 qmm qt3 qml qt2 qmk qt1 qmj qt0 qmi qtz qmh qty qmg qtx qmf qtw qme qtv qmd qtu qmc qtt qmb qts qma qtr ql9 qtq ql8 qtp ql7 qto ql6 qtn ql5 qtm ql4 qtl ql3 qtk ql2 qtj ql1 qti ql0 qth qlz qtg qly qtf qlx qte qlw qtd qlv qtc qlu qtb qlt qta qls qs9 qlr qs8 qlq qs7 qlp qs6 qlo qs5 qln qs4 qlm qs3 qll qs2 qlk qs1 qlj qs0 qli qsz qlh qsy qlg qsx qlf qsw qle qsv qld qsu qlc qst qlb qss qla qsr qk9 qsq qk8 qsp qk7 qso qk6 qsn qk5 qsm qk4 qsl qk3 qsk qk2 qsj qk1 qsi qk0 qsh qkz qsg qz6 qz5 qz4 qz3 qz2
end Go.Proofs.YtbmnaehodmgibaaGreatDoor
end
section
namespace Go.Proofs
open Go.Shelf
def Tryz.lays106_ren : Go.Shelf.Ren := ⟨fun | 106 => 293 | 213 => 328 | 265 => 337 | n => n, fun | 9 => 9 | 3 => 3 | n => n, fun | n => n⟩
theorem Tryz.lays106 : Go.Proofs.Lays.n106 Tryz.prog Tryz.lays106_ren := {
 mixed := by kernel_rfl
 f106 := Tryz.func293.trans (congrArg some (by kernel_rfl))
 f213 := Tryz.func328.trans (congrArg some (by kernel_rfl))
 f265 := Tryz.func337.trans (congrArg some (by kernel_rfl))
 t3 := Tryz.underlying3
 a3 := Tryz.isAgg3
 z3 := Tryz.sizeOf3
 v3 := Tryz.zeroValue3
 t9 := Tryz.underlying9
 a9 := Tryz.isAgg9
 z9 := Tryz.sizeOf9
 v9 := Tryz.zeroValue9 }
open Go.RowKit in
theorem Tryz.strings_Compare (a b : ByteArray) (w : World) :
  Calls Tryz.prog 293 #[.string a, .string b] w fun e w' => e = .returned (.int .i64 (Lib.compareBytes a.data.toList b.data.toList)) ∧ w' = w := Any.strings_Compare Tryz.lays106 a b w
def Tryz.lays143_ren : Go.Shelf.Ren := ⟨fun | 143 => 344 | 219 => 346 | 217 => 347 | 225 => 348 | 224 => 349 | 267 => 350 | 266 => 351 | 314 => 352 | n => n, fun | 9 => 9 | 3 => 3 | 4 => 4 | 5 => 5 | 46 => 289 | 146 => 409 | 51 => 353 | n => n, fun | 1 => 1 | n => n⟩
theorem Tryz.lays143 : Go.Proofs.Lays.n143 Tryz.prog Tryz.lays143_ren := {
 mixed := by kernel_rfl
 f143 := Tryz.func344.trans (congrArg some (by kernel_rfl))
 f217 := Tryz.func347.trans (congrArg some (by kernel_rfl))
 f219 := Tryz.func346.trans (congrArg some (by kernel_rfl))
 f224 := Tryz.func349.trans (congrArg some (by kernel_rfl))
 f225 := Tryz.func348.trans (congrArg some (by kernel_rfl))
 f266 := Tryz.func351.trans (congrArg some (by kernel_rfl))
 f267 := Tryz.func350.trans (congrArg some (by kernel_rfl))
 f314 := Tryz.func352.trans (congrArg some (by kernel_rfl))
 t3 := Tryz.underlying3
 a3 := Tryz.isAgg3
 z3 := Tryz.sizeOf3
 v3 := Tryz.zeroValue3
 t4 := Tryz.underlying4
 a4 := Tryz.isAgg4
 z4 := Tryz.sizeOf4
 v4 := Tryz.zeroValue4
 t5 := Tryz.underlying5
 a5 := Tryz.isAgg5
 z5 := Tryz.sizeOf5
 v5 := Tryz.zeroValue5
 t9 := Tryz.underlying9
 a9 := Tryz.isAgg9
 z9 := Tryz.sizeOf9
 v9 := Tryz.zeroValue9
 t46 := Tryz.underlying289
 a46 := Tryz.isAgg289
 z46 := Tryz.sizeOf289
 v46 := Tryz.zeroValue289
 t51 := Tryz.underlying353
 a51 := Tryz.isAgg353
 z51 := Tryz.sizeOf353
 v51 := Tryz.zeroValue353
 t146 := Tryz.underlying409
 a146 := Tryz.isAgg409
 z146 := Tryz.sizeOf409
 v146 := Tryz.zeroValue409
 g1 := by kernel_rfl }
open Go.RowKit Go.Lib in
theorem Tryz.strings_Index_one (s : ByteArray) (c : UInt8) (w : World) :
  Calls Tryz.prog 344 #[.string s, .string ⟨#[c]⟩] w fun e w' => e = .returned (.int .i64 (Lib.indexByte s.data.toList c)) ∧ w' = w := Any.strings_Index_one Tryz.lays143 s c w
def Tryz.sortKeys_ren : Go.Shelf.Ren := ⟨fun | 6 => 169 | 15 => 224 | 14 => 223 | 28 => 290 | 29 => 291 | 20 => 282 | 21 => 283 | 22 => 284 | 23 => 285 | 24 => 286 | 25 => 287 | 26 => 288 | 27 => 289 | 46 => 323 | 47 => 324 | 48 => 325 | 49 => 326 | 50 => 327 | 57 => 336 | n => n, fun | 22 => 27 | 24 => 89 | 25 => 244 | 3 => 3 | 39 => 289 | 0 => 0 | 53 => 353 | 55 => 355 | 4 => 4 | 46 => 346 | 45 => 345 | 50 => 350 | 5 => 5 | 9 => 9 | 66 => 384 | 70 => 388 | 76 => 395 | 77 => 396 | n => n, fun | n => n⟩
theorem Tryz.sortKeys : Go.Proofs.SlLaysF0.n6 Tryz.prog Tryz.sortKeys_ren := {
 mixed := by kernel_rfl
 f6 := ⟨Tryz.f169.name, by decide, Tryz.func169.trans (congrArg some (by kernel_rfl))⟩
 f14 := ⟨Tryz.f223.name, by decide, Tryz.func223.trans (congrArg some (by kernel_rfl))⟩
 f15 := Tryz.func224.trans (congrArg some (by kernel_rfl))
 f20 := ⟨Tryz.f282.name, by decide, Tryz.func282.trans (congrArg some (by kernel_rfl))⟩
 f21 := ⟨Tryz.f283.name, by decide, Tryz.func283.trans (congrArg some (by kernel_rfl))⟩
 f22 := ⟨Tryz.f284.name, by decide, Tryz.func284.trans (congrArg some (by kernel_rfl))⟩
 f23 := ⟨Tryz.f285.name, by decide, Tryz.func285.trans (congrArg some (by kernel_rfl))⟩
 f24 := ⟨Tryz.f286.name, by decide, Tryz.func286.trans (congrArg some (by kernel_rfl))⟩
 f25 := ⟨Tryz.f287.name, by decide, Tryz.func287.trans (congrArg some (by kernel_rfl))⟩
 f26 := ⟨Tryz.f288.name, by decide, Tryz.func288.trans (congrArg some (by kernel_rfl))⟩
 f27 := ⟨Tryz.f289.name, by decide, Tryz.func289.trans (congrArg some (by kernel_rfl))⟩
 f28 := Tryz.func290.trans (congrArg some (by kernel_rfl))
 f29 := Tryz.func291.trans (congrArg some (by kernel_rfl))
 f46 := ⟨Tryz.f323.name, by decide, Tryz.func323.trans (congrArg some (by kernel_rfl))⟩
 f47 := Tryz.func324.trans (congrArg some (by kernel_rfl))
 f48 := Tryz.func325.trans (congrArg some (by kernel_rfl))
 f49 := ⟨Tryz.f326.name, by decide, Tryz.func326.trans (congrArg some (by kernel_rfl))⟩
 f50 := ⟨Tryz.f327.name, by decide, Tryz.func327.trans (congrArg some (by kernel_rfl))⟩
 f57 := ⟨Tryz.f336.name, by decide, Tryz.func336.trans (congrArg some (by kernel_rfl))⟩
 t0 := Tryz.underlying0
 a0 := Tryz.isAgg0
 z0 := Tryz.sizeOf0
 v0 := Tryz.zeroValue0
 t3 := Tryz.underlying3
 a3 := Tryz.isAgg3
 z3 := Tryz.sizeOf3
 v3 := Tryz.zeroValue3
 t4 := Tryz.underlying4
 a4 := Tryz.isAgg4
 z4 := Tryz.sizeOf4
 v4 := Tryz.zeroValue4
 t5 := Tryz.underlying5
 a5 := Tryz.isAgg5
 z5 := Tryz.sizeOf5
 v5 := Tryz.zeroValue5
 t9 := Tryz.underlying9
 a9 := Tryz.isAgg9
 z9 := Tryz.sizeOf9
 v9 := Tryz.zeroValue9
 t22 := Tryz.underlying27
 a22 := Tryz.isAgg27
 z22 := Tryz.sizeOf27
 v22 := Tryz.zeroValue27
 t25 := Tryz.underlying244
 a25 := Tryz.isAgg244
 z25 := Tryz.sizeOf244
 v25 := Tryz.zeroValue244
 t39 := Tryz.underlying289
 a39 := Tryz.isAgg289
 z39 := Tryz.sizeOf289
 v39 := Tryz.zeroValue289
 t45 := Tryz.underlying345
 a45 := Tryz.isAgg345
 z45 := Tryz.sizeOf345
 v45 := Tryz.zeroValue345
 t46 := Tryz.underlying346
 a46 := Tryz.isAgg346
 z46 := Tryz.sizeOf346
 v46 := Tryz.zeroValue346
 t50 := Tryz.underlying350
 a50 := Tryz.isAgg350
 z50 := Tryz.sizeOf350
 v50 := Tryz.zeroValue350
 t53 := Tryz.underlying353
 a53 := Tryz.isAgg353
 z53 := Tryz.sizeOf353
 v53 := Tryz.zeroValue353
 t55 := Tryz.underlying355
 a55 := Tryz.isAgg355
 z55 := Tryz.sizeOf355
 v55 := Tryz.zeroValue355
 t66 := Tryz.underlying384
 a66 := Tryz.isAgg384
 z66 := Tryz.sizeOf384
 v66 := Tryz.zeroValue384
 t70 := Tryz.underlying388
 a70 := Tryz.isAgg388
 z70 := Tryz.sizeOf388
 v70 := Tryz.zeroValue388
 t76 := Tryz.underlying395
 a76 := Tryz.isAgg395
 z76 := Tryz.sizeOf395
 v76 := Tryz.zeroValue395
 t77 := Tryz.underlying396
 a77 := Tryz.isAgg396
 z77 := Tryz.sizeOf396
 v77 := Tryz.zeroValue396 }
end Go.Proofs
end
