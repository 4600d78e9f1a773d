/-
  Facts about the types of this program, and the library's contracts laid at it.
-/
import Derived.Test.YtbmnaehodmgibaaGreatDoorFc
import Derived.Test.YtbmnaehodmgibaaGreatDoorProg
import Derived.Shelf.Small.Strs
import Derived.Shelf.Strings.Search1
import Derived.Shelf.Strings.Search2
import Derived.Shelf.Strings.Search3
import Derived.Shelf.SlSortCmp.NoneTotal
import Derived.Ground.SlsfProg
set_option linter.unusedSimpArgs false
set_option linter.unusedVariables false
section
namespace Go.Proofs.YtbmnaehodmgibaaGreatDoor
open Go.AI
theorem ti1 : tiOf Tryz.prog 1 = some { sz := 1, bytes := 8, zero := [.nilFunc], k := .func, eg := false, fl := none, za := false } := by kernel_rfl
theorem sz1 : szOf Tryz.prog 1 = 1 := by kernel_rfl
theorem ti2 : tiOf Tryz.prog 2 = some { sz := 1, bytes := 8, zero := [.int .i64 0], k := .int .i64, eg := false, fl := some [.int], za := false } := by kernel_rfl
theorem sz2 : szOf Tryz.prog 2 = 1 := by kernel_rfl
theorem ti3 : tiOf Tryz.prog 3 = some { sz := 1, bytes := 8, zero := [.int .i64 0], k := .int .i64, eg := false, fl := some [.int], za := false } := by kernel_rfl
theorem sz3 : szOf Tryz.prog 3 = 1 := by kernel_rfl
theorem ti4 : tiOf Tryz.prog 4 = some { sz := 1, bytes := 1, zero := [.bool false], k := .bool, eg := false, fl := some [.bool], za := false } := by kernel_rfl
theorem sz4 : szOf Tryz.prog 4 = 1 := by kernel_rfl
theorem ti5 : tiOf Tryz.prog 5 = some { sz := 1, bytes := 1, zero := [.int .u8 0], k := .int .u8, eg := false, fl := some [.int], za := false } := by kernel_rfl
theorem sz5 : szOf Tryz.prog 5 = 1 := by kernel_rfl
theorem ti9 : tiOf Tryz.prog 9 = some { sz := 1, bytes := 16, zero := [.string ⟨#[]⟩], k := .str, eg := false, fl := some [.str], za := false } := by kernel_rfl
theorem sz9 : szOf Tryz.prog 9 = 1 := by kernel_rfl
theorem ti12 : tiOf Tryz.prog 12 = some { sz := 1, bytes := 8, zero := [.int .u64 0], k := .int .u64, eg := false, fl := some [.int], za := false } := by kernel_rfl
theorem sz12 : szOf Tryz.prog 12 = 1 := by kernel_rfl
theorem ti20 : tiOf Tryz.prog 20 = some { sz := 1, bytes := 16, zero := [.nilIface], k := .iface true, eg := false, fl := none, za := false } := by kernel_rfl
theorem sz20 : szOf Tryz.prog 20 = 1 := by kernel_rfl
theorem ti21 : tiOf Tryz.prog 21 = some { sz := 1, bytes := 4, zero := [.int .i32 0], k := .int .i32, eg := false, fl := some [.int], za := false } := by kernel_rfl
theorem sz21 : szOf Tryz.prog 21 = 1 := by kernel_rfl
theorem ti22 : tiOf Tryz.prog 22 = some { sz := 4, bytes := 32, zero := [.int .i64 0, .int .i64 0, .int .i64 0, .int .i64 0], k := .arr 4 3, eg := false, fl := some [.int, .int, .int, .int], za := true } := by kernel_rfl
theorem sz22 : szOf Tryz.prog 22 = 4 := by kernel_rfl
theorem ti23 : tiOf Tryz.prog 23 = some { sz := 4, bytes := 4, zero := [.bool false, .bool false, .bool false, .bool false], k := .arr 4 4, eg := false, fl := some [.bool, .bool, .bool, .bool], za := true } := by kernel_rfl
theorem sz23 : szOf Tryz.prog 23 = 4 := by kernel_rfl
theorem ti24 : tiOf Tryz.prog 24 = some { sz := 9, bytes := 48, zero := [.int .i64 0, .int .i64 0, .int .i64 0, .int .i64 0, .bool false, .bool false, .bool false, .bool false, .int .i64 0], k := .strct [(0, 22, false), (4, 23, false), (8, 3, false)], eg := false, fl := some [.int, .int, .int, .int, .bool, .bool, .bool, .bool, .int], za := true } := by kernel_rfl
theorem sz24 : szOf Tryz.prog 24 = 9 := by kernel_rfl
theorem ti25 : tiOf Tryz.prog 25 = some { sz := 9, bytes := 48, zero := [.int .i64 0, .int .i64 0, .int .i64 0, .int .i64 0, .bool false, .bool false, .bool false, .bool false, .int .i64 0], k := .strct [(0, 22, false), (4, 23, false), (8, 3, false)], eg := false, fl := some [.int, .int, .int, .int, .bool, .bool, .bool, .bool, .int], za := true } := by kernel_rfl
theorem sz25 : szOf Tryz.prog 25 = 9 := by kernel_rfl
theorem ti26 : tiOf Tryz.prog 26 = some { sz := 1, bytes := 24, zero := [.slice none 0 0], k := .slc 85, eg := false, fl := none, za := false } := by kernel_rfl
theorem sz26 : szOf Tryz.prog 26 = 1 := by kernel_rfl
theorem ti27 : tiOf Tryz.prog 27 = some { sz := 1, bytes := 24, zero := [.slice none 0 0], k := .slc 89, eg := false, fl := none, za := false } := by kernel_rfl
theorem sz27 : szOf Tryz.prog 27 = 1 := by kernel_rfl
theorem ti28 : tiOf Tryz.prog 28 = some { sz := 1, bytes := 8, zero := [.int .i64 0], k := .int .i64, eg := false, fl := some [.int], za := false } := by kernel_rfl
theorem sz28 : szOf Tryz.prog 28 = 1 := by kernel_rfl
theorem ti29 : tiOf Tryz.prog 29 = some { sz := 1, bytes := 24, zero := [.slice none 0 0], k := .slc 122, eg := false, fl := none, za := false } := by kernel_rfl
theorem sz29 : szOf Tryz.prog 29 = 1 := by kernel_rfl
theorem ti30 : tiOf Tryz.prog 30 = some { sz := 10, bytes := 144, zero := [.int .i64 0, .int .i64 0, .int .i64 0, .int .i64 0, .int .i64 0, .slice none 0 0, .slice none 0 0, .int .i64 0, .slice none 0 0, .slice none 0 0], k := .strct [(0, 3, false), (1, 3, false), (2, 3, false), (3, 3, false), (4, 3, false), (5, 26, false), (6, 27, false), (7, 28, false), (8, 29, false), (9, 27, false)], eg := false, fl := none, za := true } := by kernel_rfl
theorem sz30 : szOf Tryz.prog 30 = 10 := by kernel_rfl
theorem ti31 : tiOf Tryz.prog 31 = some { sz := 10, bytes := 144, zero := [.int .i64 0, .int .i64 0, .int .i64 0, .int .i64 0, .int .i64 0, .slice none 0 0, .slice none 0 0, .int .i64 0, .slice none 0 0, .slice none 0 0], k := .strct [(0, 3, false), (1, 3, false), (2, 3, false), (3, 3, false), (4, 3, false), (5, 26, false), (6, 27, false), (7, 28, false), (8, 29, false), (9, 27, false)], eg := false, fl := none, za := true } := by kernel_rfl
theorem sz31 : szOf Tryz.prog 31 = 10 := by kernel_rfl
theorem ti32 : tiOf Tryz.prog 32 = some { sz := 14, bytes := 208, zero := [.slice none 0 0, .slice none 0 0, .int .i64 0, .int .i64 0, .int .i64 0, .int .i64 0, .int .i64 0, .int .i64 0, .slice none 0 0, .slice none 0 0, .int .i64 0, .slice none 0 0, .slice none 0 0, .bool false], k := .strct [(0, 26, false), (1, 27, false), (2, 3, false), (3, 31, false), (13, 4, false)], eg := false, fl := none, za := true } := by kernel_rfl
theorem sz32 : szOf Tryz.prog 32 = 14 := by kernel_rfl
theorem ti33 : tiOf Tryz.prog 33 = some { sz := 14, bytes := 208, zero := [.slice none 0 0, .slice none 0 0, .int .i64 0, .int .i64 0, .int .i64 0, .int .i64 0, .int .i64 0, .int .i64 0, .slice none 0 0, .slice none 0 0, .int .i64 0, .slice none 0 0, .slice none 0 0, .bool false], k := .strct [(0, 26, false), (1, 27, false), (2, 3, false), (3, 31, false), (13, 4, false)], eg := false, fl := none, za := true } := by kernel_rfl
theorem sz33 : szOf Tryz.prog 33 = 14 := by kernel_rfl
theorem ti34 : tiOf Tryz.prog 34 = some { sz := 27, bytes := 288, zero := [.int .i64 0, .bool false, .int .i64 0, .int .i64 0, .int .i64 0, .int .i64 0, .bool false, .bool false, .bool false, .bool false, .int .i64 0, .slice none 0 0, .slice none 0 0, .int .i64 0, .int .i64 0, .int .i64 0, .int .i64 0, .int .i64 0, .int .i64 0, .slice none 0 0, .slice none 0 0, .int .i64 0, .slice none 0 0, .slice none 0 0, .bool false, .int .i64 0, .int .i64 0], k := .strct [(0, 3, false), (1, 4, false), (2, 25, false), (11, 33, false), (25, 28, false), (26, 3, false)], eg := false, fl := none, za := true } := by kernel_rfl
theorem sz34 : szOf Tryz.prog 34 = 27 := by kernel_rfl
theorem ti35 : tiOf Tryz.prog 35 = some { sz := 27, bytes := 288, zero := [.int .i64 0, .bool false, .int .i64 0, .int .i64 0, .int .i64 0, .int .i64 0, .bool false, .bool false, .bool false, .bool false, .int .i64 0, .slice none 0 0, .slice none 0 0, .int .i64 0, .int .i64 0, .int .i64 0, .int .i64 0, .int .i64 0, .int .i64 0, .slice none 0 0, .slice none 0 0, .int .i64 0, .slice none 0 0, .slice none 0 0, .bool false, .int .i64 0, .int .i64 0], k := .strct [(0, 3, false), (1, 4, false), (2, 25, false), (11, 33, false), (25, 28, false), (26, 3, false)], eg := false, fl := none, za := true } := by kernel_rfl
theorem sz35 : szOf Tryz.prog 35 = 27 := by kernel_rfl
theorem ti36 : tiOf Tryz.prog 36 = some { sz := 1, bytes := 24, zero := [.slice none 0 0], k := .slc 26, eg := false, fl := none, za := false } := by kernel_rfl
theorem sz36 : szOf Tryz.prog 36 = 1 := by kernel_rfl
theorem ti37 : tiOf Tryz.prog 37 = some { sz := 2, bytes := 32, zero := [.int .i64 0, .slice none 0 0], k := .strct [(0, 3, false), (1, 36, false)], eg := false, fl := none, za := true } := by kernel_rfl
theorem sz37 : szOf Tryz.prog 37 = 2 := by kernel_rfl
theorem ti38 : tiOf Tryz.prog 38 = some { sz := 2, bytes := 32, zero := [.int .i64 0, .slice none 0 0], k := .strct [(0, 3, false), (1, 36, false)], eg := false, fl := none, za := true } := by kernel_rfl
theorem sz38 : szOf Tryz.prog 38 = 2 := by kernel_rfl
theorem ti39 : tiOf Tryz.prog 39 = some { sz := 1, bytes := 8, zero := [.nilFunc], k := .func, eg := false, fl := none, za := false } := by kernel_rfl
theorem sz39 : szOf Tryz.prog 39 = 1 := by kernel_rfl
theorem ti40 : tiOf Tryz.prog 40 = some { sz := 1, bytes := 8, zero := [.nilFunc], k := .func, eg := false, fl := none, za := false } := by kernel_rfl
theorem sz40 : szOf Tryz.prog 40 = 1 := by kernel_rfl
theorem ti41 : tiOf Tryz.prog 41 = some { sz := 1, bytes := 8, zero := [.nilFunc], k := .func, eg := false, fl := none, za := false } := by kernel_rfl
theorem sz41 : szOf Tryz.prog 41 = 1 := by kernel_rfl
theorem ti42 : tiOf Tryz.prog 42 = some { sz := 1, bytes := 8, zero := [.nilFunc], k := .func, eg := false, fl := none, za := false } := by kernel_rfl
theorem sz42 : szOf Tryz.prog 42 = 1 := by kernel_rfl
theorem ti43 : tiOf Tryz.prog 43 = some { sz := 9, bytes := 48, zero := [.int .i64 0, .int .i64 0, .int .i64 0, .int .i64 0, .bool false, .bool false, .bool false, .bool false, .int .i64 0], k := .strct [(0, 22, false), (4, 23, false), (8, 3, false)], eg := false, fl := some [.int, .int, .int, .int, .bool, .bool, .bool, .bool, .int], za := true } := by kernel_rfl
theorem sz43 : szOf Tryz.prog 43 = 9 := by kernel_rfl
theorem ti44 : tiOf Tryz.prog 44 = some { sz := 1, bytes := 24, zero := [.slice none 0 0], k := .slc 128, eg := false, fl := none, za := false } := by kernel_rfl
theorem sz44 : szOf Tryz.prog 44 = 1 := by kernel_rfl
theorem ti45 : tiOf Tryz.prog 45 = some { sz := 10, bytes := 144, zero := [.int .i64 0, .int .i64 0, .int .i64 0, .int .i64 0, .int .i64 0, .slice none 0 0, .slice none 0 0, .int .i64 0, .slice none 0 0, .slice none 0 0], k := .strct [(0, 3, false), (1, 3, false), (2, 3, false), (3, 3, false), (4, 3, false), (5, 26, false), (6, 27, false), (7, 28, false), (8, 44, false), (9, 27, false)], eg := false, fl := none, za := true } := by kernel_rfl
theorem sz45 : szOf Tryz.prog 45 = 10 := by kernel_rfl
theorem ti46 : tiOf Tryz.prog 46 = some { sz := 10, bytes := 144, zero := [.int .i64 0, .int .i64 0, .int .i64 0, .int .i64 0, .int .i64 0, .slice none 0 0, .slice none 0 0, .int .i64 0, .slice none 0 0, .slice none 0 0], k := .strct [(0, 3, false), (1, 3, false), (2, 3, false), (3, 3, false), (4, 3, false), (5, 26, false), (6, 27, false), (7, 28, false), (8, 44, false), (9, 27, false)], eg := false, fl := none, za := true } := by kernel_rfl
theorem sz46 : szOf Tryz.prog 46 = 10 := by kernel_rfl
theorem ti47 : tiOf Tryz.prog 47 = some { sz := 14, bytes := 208, zero := [.slice none 0 0, .slice none 0 0, .int .i64 0, .int .i64 0, .int .i64 0, .int .i64 0, .int .i64 0, .int .i64 0, .slice none 0 0, .slice none 0 0, .int .i64 0, .slice none 0 0, .slice none 0 0, .bool false], k := .strct [(0, 26, false), (1, 27, false), (2, 3, false), (3, 46, false), (13, 4, false)], eg := false, fl := none, za := true } := by kernel_rfl
theorem sz47 : szOf Tryz.prog 47 = 14 := by kernel_rfl
theorem ti48 : tiOf Tryz.prog 48 = some { sz := 14, bytes := 208, zero := [.slice none 0 0, .slice none 0 0, .int .i64 0, .int .i64 0, .int .i64 0, .int .i64 0, .int .i64 0, .int .i64 0, .slice none 0 0, .slice none 0 0, .int .i64 0, .slice none 0 0, .slice none 0 0, .bool false], k := .strct [(0, 26, false), (1, 27, false), (2, 3, false), (3, 46, false), (13, 4, false)], eg := false, fl := none, za := true } := by kernel_rfl
theorem sz48 : szOf Tryz.prog 48 = 14 := by kernel_rfl
theorem ti49 : tiOf Tryz.prog 49 = some { sz := 27, bytes := 288, zero := [.int .i64 0, .bool false, .int .i64 0, .int .i64 0, .int .i64 0, .int .i64 0, .bool false, .bool false, .bool false, .bool false, .int .i64 0, .slice none 0 0, .slice none 0 0, .int .i64 0, .int .i64 0, .int .i64 0, .int .i64 0, .int .i64 0, .int .i64 0, .slice none 0 0, .slice none 0 0, .int .i64 0, .slice none 0 0, .slice none 0 0, .bool false, .int .i64 0, .int .i64 0], k := .strct [(0, 3, false), (1, 4, false), (2, 43, false), (11, 48, false), (25, 28, false), (26, 3, false)], eg := false, fl := none, za := true } := by kernel_rfl
theorem sz49 : szOf Tryz.prog 49 = 27 := by kernel_rfl
theorem ti50 : tiOf Tryz.prog 50 = some { sz := 27, bytes := 288, zero := [.int .i64 0, .bool false, .int .i64 0, .int .i64 0, .int .i64 0, .int .i64 0, .bool false, .bool false, .bool false, .bool false, .int .i64 0, .slice none 0 0, .slice none 0 0, .int .i64 0, .int .i64 0, .int .i64 0, .int .i64 0, .int .i64 0, .int .i64 0, .slice none 0 0, .slice none 0 0, .int .i64 0, .slice none 0 0, .slice none 0 0, .bool false, .int .i64 0, .int .i64 0], k := .strct [(0, 3, false), (1, 4, false), (2, 43, false), (11, 48, false), (25, 28, false), (26, 3, false)], eg := false, fl := none, za := true } := by kernel_rfl
theorem sz50 : szOf Tryz.prog 50 = 27 := by kernel_rfl
theorem ti51 : tiOf Tryz.prog 51 = some { sz := 1, bytes := 8, zero := [.nilFunc], k := .func, eg := false, fl := none, za := false } := by kernel_rfl
theorem sz51 : szOf Tryz.prog 51 = 1 := by kernel_rfl
theorem ti53 : tiOf Tryz.prog 53 = some { sz := 1, bytes := 8, zero := [.nilFunc], k := .func, eg := false, fl := none, za := false } := by kernel_rfl
theorem sz53 : szOf Tryz.prog 53 = 1 := by kernel_rfl
theorem ti54 : tiOf Tryz.prog 54 = some { sz := 2, bytes := 32, zero := [.int .i64 0, .slice none 0 0], k := .strct [(0, 3, false), (1, 36, false)], eg := false, fl := none, za := true } := by kernel_rfl
theorem sz54 : szOf Tryz.prog 54 = 2 := by kernel_rfl
theorem ti55 : tiOf Tryz.prog 55 = some { sz := 1, bytes := 8, zero := [.nilFunc], k := .func, eg := false, fl := none, za := false } := by kernel_rfl
theorem sz55 : szOf Tryz.prog 55 = 1 := by kernel_rfl
theorem ti56 : tiOf Tryz.prog 56 = some { sz := 1, bytes := 8, zero := [.nilFunc], k := .func, eg := false, fl := none, za := false } := by kernel_rfl
theorem sz56 : szOf Tryz.prog 56 = 1 := by kernel_rfl
theorem ti57 : tiOf Tryz.prog 57 = some { sz := 1, bytes := 8, zero := [.nilFunc], k := .func, eg := false, fl := none, za := false } := by kernel_rfl
theorem sz57 : szOf Tryz.prog 57 = 1 := by kernel_rfl
theorem ti58 : tiOf Tryz.prog 58 = some { sz := 1, bytes := 8, zero := [.nilFunc], k := .func, eg := false, fl := none, za := false } := by kernel_rfl
theorem sz58 : szOf Tryz.prog 58 = 1 := by kernel_rfl
theorem ti59 : tiOf Tryz.prog 59 = some { sz := 1, bytes := 8, zero := [.nilFunc], k := .func, eg := false, fl := none, za := false } := by kernel_rfl
theorem sz59 : szOf Tryz.prog 59 = 1 := by kernel_rfl
theorem ti60 : tiOf Tryz.prog 60 = some { sz := 1, bytes := 8, zero := [.nilFunc], k := .func, eg := false, fl := none, za := false } := by kernel_rfl
theorem sz60 : szOf Tryz.prog 60 = 1 := by kernel_rfl
theorem ti61 : tiOf Tryz.prog 61 = some { sz := 1, bytes := 8, zero := [.nilFunc], k := .func, eg := false, fl := none, za := false } := by kernel_rfl
theorem sz61 : szOf Tryz.prog 61 = 1 := by kernel_rfl
theorem ti62 : tiOf Tryz.prog 62 = some { sz := 1, bytes := 24, zero := [.slice none 0 0], k := .slc 46, eg := false, fl := none, za := false } := by kernel_rfl
theorem sz62 : szOf Tryz.prog 62 = 1 := by kernel_rfl
theorem ti64 : tiOf Tryz.prog 64 = some { sz := 1, bytes := 8, zero := [.nilFunc], k := .func, eg := false, fl := none, za := false } := by kernel_rfl
theorem sz64 : szOf Tryz.prog 64 = 1 := by kernel_rfl
theorem ti65 : tiOf Tryz.prog 65 = some { sz := 1, bytes := 8, zero := [.nilFunc], k := .func, eg := false, fl := none, za := false } := by kernel_rfl
theorem sz65 : szOf Tryz.prog 65 = 1 := by kernel_rfl
theorem ti66 : tiOf Tryz.prog 66 = some { sz := 1, bytes := 8, zero := [.nilFunc], k := .func, eg := false, fl := none, za := false } := by kernel_rfl
theorem sz66 : szOf Tryz.prog 66 = 1 := by kernel_rfl
theorem ti68 : tiOf Tryz.prog 68 = some { sz := 1, bytes := 8, zero := [.nilFunc], k := .func, eg := false, fl := none, za := false } := by kernel_rfl
theorem sz68 : szOf Tryz.prog 68 = 1 := by kernel_rfl
theorem ti69 : tiOf Tryz.prog 69 = some { sz := 1, bytes := 24, zero := [.slice none 0 0], k := .slc 31, eg := false, fl := none, za := false } := by kernel_rfl
theorem sz69 : szOf Tryz.prog 69 = 1 := by kernel_rfl
theorem ti71 : tiOf Tryz.prog 71 = some { sz := 1, bytes := 8, zero := [.nilFunc], k := .func, eg := false, fl := none, za := false } := by kernel_rfl
theorem sz71 : szOf Tryz.prog 71 = 1 := by kernel_rfl
theorem ti72 : tiOf Tryz.prog 72 = some { sz := 1, bytes := 8, zero := [.nilFunc], k := .func, eg := false, fl := none, za := false } := by kernel_rfl
theorem sz72 : szOf Tryz.prog 72 = 1 := by kernel_rfl
theorem ti73 : tiOf Tryz.prog 73 = some { sz := 1, bytes := 8, zero := [.nilFunc], k := .func, eg := false, fl := none, za := false } := by kernel_rfl
theorem sz73 : szOf Tryz.prog 73 = 1 := by kernel_rfl
theorem ti74 : tiOf Tryz.prog 74 = some { sz := 1, bytes := 8, zero := [.nilFunc], k := .func, eg := false, fl := none, za := false } := by kernel_rfl
theorem sz74 : szOf Tryz.prog 74 = 1 := by kernel_rfl
theorem ti75 : tiOf Tryz.prog 75 = some { sz := 1, bytes := 8, zero := [.nilFunc], k := .func, eg := false, fl := none, za := false } := by kernel_rfl
theorem sz75 : szOf Tryz.prog 75 = 1 := by kernel_rfl
theorem ti76 : tiOf Tryz.prog 76 = some { sz := 1, bytes := 8, zero := [.nilFunc], k := .func, eg := false, fl := none, za := false } := by kernel_rfl
theorem sz76 : szOf Tryz.prog 76 = 1 := by kernel_rfl
theorem ti77 : tiOf Tryz.prog 77 = some { sz := 1, bytes := 8, zero := [.nilFunc], k := .func, eg := false, fl := none, za := false } := by kernel_rfl
theorem sz77 : szOf Tryz.prog 77 = 1 := by kernel_rfl
theorem ti78 : tiOf Tryz.prog 78 = some { sz := 1, bytes := 8, zero := [.nilFunc], k := .func, eg := false, fl := none, za := false } := by kernel_rfl
theorem sz78 : szOf Tryz.prog 78 = 1 := by kernel_rfl
theorem ti79 : tiOf Tryz.prog 79 = some { sz := 1, bytes := 8, zero := [.nilFunc], k := .func, eg := false, fl := none, za := false } := by kernel_rfl
theorem sz79 : szOf Tryz.prog 79 = 1 := by kernel_rfl
theorem ti81 : tiOf Tryz.prog 81 = some { sz := 1, bytes := 8, zero := [.nilFunc], k := .func, eg := false, fl := none, za := false } := by kernel_rfl
theorem sz81 : szOf Tryz.prog 81 = 1 := by kernel_rfl
theorem ti82 : tiOf Tryz.prog 82 = some { sz := 1, bytes := 24, zero := [.slice none 0 0], k := .slc 240, eg := false, fl := none, za := false } := by kernel_rfl
theorem sz82 : szOf Tryz.prog 82 = 1 := by kernel_rfl
theorem ti83 : tiOf Tryz.prog 83 = some { sz := 1, bytes := 24, zero := [.slice none 0 0], k := .slc 3, eg := false, fl := none, za := false } := by kernel_rfl
theorem sz83 : szOf Tryz.prog 83 = 1 := by kernel_rfl
theorem ti84 : tiOf Tryz.prog 84 = some { sz := 7, bytes := 104, zero := [.int .i64 0, .string ⟨#[]⟩, .int .i64 0, .int .i64 0, .string ⟨#[]⟩, .slice none 0 0, .slice none 0 0], k := .strct [(0, 3, false), (1, 9, false), (2, 3, false), (3, 3, false), (4, 9, false), (5, 82, false), (6, 83, false)], eg := false, fl := none, za := true } := by kernel_rfl
theorem sz84 : szOf Tryz.prog 84 = 7 := by kernel_rfl
theorem ti85 : tiOf Tryz.prog 85 = some { sz := 7, bytes := 104, zero := [.int .i64 0, .string ⟨#[]⟩, .int .i64 0, .int .i64 0, .string ⟨#[]⟩, .slice none 0 0, .slice none 0 0], k := .strct [(0, 3, false), (1, 9, false), (2, 3, false), (3, 3, false), (4, 9, false), (5, 82, false), (6, 83, false)], eg := false, fl := none, za := true } := by kernel_rfl
theorem sz85 : szOf Tryz.prog 85 = 7 := by kernel_rfl
theorem ti87 : tiOf Tryz.prog 87 = some { sz := 1, bytes := 8, zero := [.nilFunc], k := .func, eg := false, fl := none, za := false } := by kernel_rfl
theorem sz87 : szOf Tryz.prog 87 = 1 := by kernel_rfl
theorem ti88 : tiOf Tryz.prog 88 = some { sz := 2, bytes := 24, zero := [.int .i64 0, .string ⟨#[]⟩], k := .strct [(0, 3, false), (1, 9, false)], eg := false, fl := some [.int, .str], za := true } := by kernel_rfl
theorem sz88 : szOf Tryz.prog 88 = 2 := by kernel_rfl
theorem ti89 : tiOf Tryz.prog 89 = some { sz := 2, bytes := 24, zero := [.int .i64 0, .string ⟨#[]⟩], k := .strct [(0, 3, false), (1, 9, false)], eg := false, fl := some [.int, .str], za := true } := by kernel_rfl
theorem sz89 : szOf Tryz.prog 89 = 2 := by kernel_rfl
theorem ti90 : tiOf Tryz.prog 90 = some { sz := 1, bytes := 8, zero := [.nilFunc], k := .func, eg := false, fl := none, za := false } := by kernel_rfl
theorem sz90 : szOf Tryz.prog 90 = 1 := by kernel_rfl
theorem ti91 : tiOf Tryz.prog 91 = some { sz := 1, bytes := 8, zero := [.nilFunc], k := .func, eg := false, fl := none, za := false } := by kernel_rfl
theorem sz91 : szOf Tryz.prog 91 = 1 := by kernel_rfl
theorem ti92 : tiOf Tryz.prog 92 = some { sz := 5, bytes := 40, zero := [.int .i64 0, .int .i64 0, .int .i64 0, .int .i64 0, .int .i64 0], k := .strct [(0, 22, false), (4, 3, false)], eg := false, fl := some [.int, .int, .int, .int, .int], za := true } := by kernel_rfl
theorem sz92 : szOf Tryz.prog 92 = 5 := by kernel_rfl
theorem ti93 : tiOf Tryz.prog 93 = some { sz := 5, bytes := 40, zero := [.int .i64 0, .int .i64 0, .int .i64 0, .int .i64 0, .int .i64 0], k := .strct [(0, 22, false), (4, 3, false)], eg := false, fl := some [.int, .int, .int, .int, .int], za := true } := by kernel_rfl
theorem sz93 : szOf Tryz.prog 93 = 5 := by kernel_rfl
theorem ti94 : tiOf Tryz.prog 94 = some { sz := 4, bytes := 32, zero := [.int .i64 0, .int .i64 0, .int .i64 0, .int .i64 0], k := .arr 4 28, eg := false, fl := some [.int, .int, .int, .int], za := true } := by kernel_rfl
theorem sz94 : szOf Tryz.prog 94 = 4 := by kernel_rfl
theorem ti95 : tiOf Tryz.prog 95 = some { sz := 2, bytes := 32, zero := [.int .i64 0, .slice none 0 0], k := .strct [(0, 3, false), (1, 26, false)], eg := false, fl := none, za := true } := by kernel_rfl
theorem sz95 : szOf Tryz.prog 95 = 2 := by kernel_rfl
theorem ti96 : tiOf Tryz.prog 96 = some { sz := 2, bytes := 32, zero := [.int .i64 0, .slice none 0 0], k := .strct [(0, 3, false), (1, 26, false)], eg := false, fl := none, za := true } := by kernel_rfl
theorem sz96 : szOf Tryz.prog 96 = 2 := by kernel_rfl
theorem ti97 : tiOf Tryz.prog 97 = some { sz := 4, bytes := 64, zero := [.int .i64 0, .slice none 0 0, .bool false, .slice none 0 0], k := .strct [(0, 96, false), (2, 4, false), (3, 26, false)], eg := false, fl := none, za := true } := by kernel_rfl
theorem sz97 : szOf Tryz.prog 97 = 4 := by kernel_rfl
theorem ti98 : tiOf Tryz.prog 98 = some { sz := 4, bytes := 64, zero := [.int .i64 0, .slice none 0 0, .bool false, .slice none 0 0], k := .strct [(0, 96, false), (2, 4, false), (3, 26, false)], eg := false, fl := none, za := true } := by kernel_rfl
theorem sz98 : szOf Tryz.prog 98 = 4 := by kernel_rfl
theorem ti99 : tiOf Tryz.prog 99 = some { sz := 1, bytes := 24, zero := [.slice none 0 0], k := .slc 258, eg := false, fl := none, za := false } := by kernel_rfl
theorem sz99 : szOf Tryz.prog 99 = 1 := by kernel_rfl
theorem ti100 : tiOf Tryz.prog 100 = some { sz := 2, bytes := 32, zero := [.int .i64 0, .slice none 0 0], k := .strct [(0, 3, false), (1, 99, false)], eg := false, fl := none, za := true } := by kernel_rfl
theorem sz100 : szOf Tryz.prog 100 = 2 := by kernel_rfl
theorem ti101 : tiOf Tryz.prog 101 = some { sz := 2, bytes := 32, zero := [.int .i64 0, .slice none 0 0], k := .strct [(0, 3, false), (1, 99, false)], eg := false, fl := none, za := true } := by kernel_rfl
theorem sz101 : szOf Tryz.prog 101 = 2 := by kernel_rfl
theorem ti102 : tiOf Tryz.prog 102 = some { sz := 18, bytes := 192, zero := [.int .i64 0, .int .i64 0, .bool false, .int .i64 0, .int .i64 0, .int .i64 0, .int .i64 0, .int .i64 0, .int .i64 0, .int .i64 0, .int .i64 0, .int .i64 0, .int .i64 0, .slice none 0 0, .bool false, .slice none 0 0, .int .i64 0, .slice none 0 0], k := .strct [(0, 3, false), (1, 3, false), (2, 4, false), (3, 93, false), (8, 94, false), (12, 98, false), (16, 101, false)], eg := false, fl := none, za := true } := by kernel_rfl
theorem sz102 : szOf Tryz.prog 102 = 18 := by kernel_rfl
theorem ti103 : tiOf Tryz.prog 103 = some { sz := 18, bytes := 192, zero := [.int .i64 0, .int .i64 0, .bool false, .int .i64 0, .int .i64 0, .int .i64 0, .int .i64 0, .int .i64 0, .int .i64 0, .int .i64 0, .int .i64 0, .int .i64 0, .int .i64 0, .slice none 0 0, .bool false, .slice none 0 0, .int .i64 0, .slice none 0 0], k := .strct [(0, 3, false), (1, 3, false), (2, 4, false), (3, 93, false), (8, 94, false), (12, 98, false), (16, 101, false)], eg := false, fl := none, za := true } := by kernel_rfl
theorem sz103 : szOf Tryz.prog 103 = 18 := by kernel_rfl
theorem ti105 : tiOf Tryz.prog 105 = some { sz := 1, bytes := 8, zero := [.nilFunc], k := .func, eg := false, fl := none, za := false } := by kernel_rfl
theorem sz105 : szOf Tryz.prog 105 = 1 := by kernel_rfl
theorem ti106 : tiOf Tryz.prog 106 = some { sz := 1, bytes := 8, zero := [.nilFunc], k := .func, eg := false, fl := none, za := false } := by kernel_rfl
theorem sz106 : szOf Tryz.prog 106 = 1 := by kernel_rfl
theorem ti107 : tiOf Tryz.prog 107 = some { sz := 1, bytes := 8, zero := [.nilFunc], k := .func, eg := false, fl := none, za := false } := by kernel_rfl
theorem sz107 : szOf Tryz.prog 107 = 1 := by kernel_rfl
theorem ti108 : tiOf Tryz.prog 108 = some { sz := 1, bytes := 8, zero := [.nilFunc], k := .func, eg := false, fl := none, za := false } := by kernel_rfl
theorem sz108 : szOf Tryz.prog 108 = 1 := by kernel_rfl
theorem ti110 : tiOf Tryz.prog 110 = some { sz := 1, bytes := 8, zero := [.nilFunc], k := .func, eg := false, fl := none, za := false } := by kernel_rfl
theorem sz110 : szOf Tryz.prog 110 = 1 := by kernel_rfl
theorem ti112 : tiOf Tryz.prog 112 = some { sz := 1, bytes := 8, zero := [.nilFunc], k := .func, eg := false, fl := none, za := false } := by kernel_rfl
theorem sz112 : szOf Tryz.prog 112 = 1 := by kernel_rfl
theorem ti113 : tiOf Tryz.prog 113 = some { sz := 1, bytes := 8, zero := [.nilFunc], k := .func, eg := false, fl := none, za := false } := by kernel_rfl
theorem sz113 : szOf Tryz.prog 113 = 1 := by kernel_rfl
theorem ti114 : tiOf Tryz.prog 114 = some { sz := 1, bytes := 8, zero := [.nilFunc], k := .func, eg := false, fl := none, za := false } := by kernel_rfl
theorem sz114 : szOf Tryz.prog 114 = 1 := by kernel_rfl
theorem ti115 : tiOf Tryz.prog 115 = some { sz := 1, bytes := 8, zero := [.nilFunc], k := .func, eg := false, fl := none, za := false } := by kernel_rfl
theorem sz115 : szOf Tryz.prog 115 = 1 := by kernel_rfl
theorem ti117 : tiOf Tryz.prog 117 = some { sz := 1, bytes := 8, zero := [.nilFunc], k := .func, eg := false, fl := none, za := false } := by kernel_rfl
theorem sz117 : szOf Tryz.prog 117 = 1 := by kernel_rfl
theorem ti118 : tiOf Tryz.prog 118 = some { sz := 1, bytes := 8, zero := [.nilFunc], k := .func, eg := false, fl := none, za := false } := by kernel_rfl
theorem sz118 : szOf Tryz.prog 118 = 1 := by kernel_rfl
theorem ti119 : tiOf Tryz.prog 119 = some { sz := 1, bytes := 8, zero := [.nilFunc], k := .func, eg := false, fl := none, za := false } := by kernel_rfl
theorem sz119 : szOf Tryz.prog 119 = 1 := by kernel_rfl
theorem ti120 : tiOf Tryz.prog 120 = some { sz := 1, bytes := 8, zero := [.nilFunc], k := .func, eg := false, fl := none, za := false } := by kernel_rfl
theorem sz120 : szOf Tryz.prog 120 = 1 := by kernel_rfl
theorem ti121 : tiOf Tryz.prog 121 = some { sz := 3, bytes := 32, zero := [.int .i64 0, .string ⟨#[]⟩, .int .i64 0], k := .strct [(0, 89, false), (2, 3, false)], eg := false, fl := some [.int, .str, .int], za := true } := by kernel_rfl
theorem sz121 : szOf Tryz.prog 121 = 3 := by kernel_rfl
theorem ti122 : tiOf Tryz.prog 122 = some { sz := 3, bytes := 32, zero := [.int .i64 0, .string ⟨#[]⟩, .int .i64 0], k := .strct [(0, 89, false), (2, 3, false)], eg := false, fl := some [.int, .str, .int], za := true } := by kernel_rfl
theorem sz122 : szOf Tryz.prog 122 = 3 := by kernel_rfl
theorem ti123 : tiOf Tryz.prog 123 = some { sz := 1, bytes := 8, zero := [.nilFunc], k := .func, eg := false, fl := none, za := false } := by kernel_rfl
theorem sz123 : szOf Tryz.prog 123 = 1 := by kernel_rfl
theorem ti124 : tiOf Tryz.prog 124 = some { sz := 1, bytes := 8, zero := [.nilFunc], k := .func, eg := false, fl := none, za := false } := by kernel_rfl
theorem sz124 : szOf Tryz.prog 124 = 1 := by kernel_rfl
theorem ti125 : tiOf Tryz.prog 125 = some { sz := 1, bytes := 8, zero := [.nilFunc], k := .func, eg := false, fl := none, za := false } := by kernel_rfl
theorem sz125 : szOf Tryz.prog 125 = 1 := by kernel_rfl
theorem ti126 : tiOf Tryz.prog 126 = some { sz := 1, bytes := 8, zero := [.nilFunc], k := .func, eg := false, fl := none, za := false } := by kernel_rfl
theorem sz126 : szOf Tryz.prog 126 = 1 := by kernel_rfl
theorem ti127 : tiOf Tryz.prog 127 = some { sz := 1, bytes := 8, zero := [.nilFunc], k := .func, eg := false, fl := none, za := false } := by kernel_rfl
theorem sz127 : szOf Tryz.prog 127 = 1 := by kernel_rfl
theorem ti128 : tiOf Tryz.prog 128 = some { sz := 3, bytes := 32, zero := [.int .i64 0, .string ⟨#[]⟩, .int .i64 0], k := .strct [(0, 89, false), (2, 3, false)], eg := false, fl := some [.int, .str, .int], za := true } := by kernel_rfl
theorem sz128 : szOf Tryz.prog 128 = 3 := by kernel_rfl
theorem ti129 : tiOf Tryz.prog 129 = some { sz := 1, bytes := 8, zero := [.nilFunc], k := .func, eg := false, fl := none, za := false } := by kernel_rfl
theorem sz129 : szOf Tryz.prog 129 = 1 := by kernel_rfl
theorem ti130 : tiOf Tryz.prog 130 = some { sz := 1, bytes := 8, zero := [.nilFunc], k := .func, eg := false, fl := none, za := false } := by kernel_rfl
theorem sz130 : szOf Tryz.prog 130 = 1 := by kernel_rfl
theorem ti131 : tiOf Tryz.prog 131 = some { sz := 1, bytes := 8, zero := [.nilFunc], k := .func, eg := false, fl := none, za := false } := by kernel_rfl
theorem sz131 : szOf Tryz.prog 131 = 1 := by kernel_rfl
theorem ti133 : tiOf Tryz.prog 133 = some { sz := 1, bytes := 8, zero := [.nilFunc], k := .func, eg := false, fl := none, za := false } := by kernel_rfl
theorem sz133 : szOf Tryz.prog 133 = 1 := by kernel_rfl
theorem ti134 : tiOf Tryz.prog 134 = some { sz := 3, bytes := 56, zero := [.int .i64 0, .slice none 0 0, .slice none 0 0], k := .strct [(0, 3, false), (1, 26, false), (2, 27, false)], eg := false, fl := none, za := true } := by kernel_rfl
theorem sz134 : szOf Tryz.prog 134 = 3 := by kernel_rfl
theorem ti135 : tiOf Tryz.prog 135 = some { sz := 3, bytes := 56, zero := [.int .i64 0, .slice none 0 0, .slice none 0 0], k := .strct [(0, 3, false), (1, 26, false), (2, 27, false)], eg := false, fl := none, za := true } := by kernel_rfl
theorem sz135 : szOf Tryz.prog 135 = 3 := by kernel_rfl
theorem ti137 : tiOf Tryz.prog 137 = some { sz := 1, bytes := 8, zero := [.nilFunc], k := .func, eg := false, fl := none, za := false } := by kernel_rfl
theorem sz137 : szOf Tryz.prog 137 = 1 := by kernel_rfl
theorem ti139 : tiOf Tryz.prog 139 = some { sz := 1, bytes := 8, zero := [.nilFunc], k := .func, eg := false, fl := none, za := false } := by kernel_rfl
theorem sz139 : szOf Tryz.prog 139 = 1 := by kernel_rfl
theorem ti140 : tiOf Tryz.prog 140 = some { sz := 1, bytes := 8, zero := [.nilFunc], k := .func, eg := false, fl := none, za := false } := by kernel_rfl
theorem sz140 : szOf Tryz.prog 140 = 1 := by kernel_rfl
theorem ti141 : tiOf Tryz.prog 141 = some { sz := 1, bytes := 8, zero := [.nilFunc], k := .func, eg := false, fl := none, za := false } := by kernel_rfl
theorem sz141 : szOf Tryz.prog 141 = 1 := by kernel_rfl
theorem ti142 : tiOf Tryz.prog 142 = some { sz := 1, bytes := 8, zero := [.nilFunc], k := .func, eg := false, fl := none, za := false } := by kernel_rfl
theorem sz142 : szOf Tryz.prog 142 = 1 := by kernel_rfl
theorem ti143 : tiOf Tryz.prog 143 = some { sz := 1, bytes := 8, zero := [.nilFunc], k := .func, eg := false, fl := none, za := false } := by kernel_rfl
theorem sz143 : szOf Tryz.prog 143 = 1 := by kernel_rfl
theorem ti144 : tiOf Tryz.prog 144 = some { sz := 1, bytes := 8, zero := [.nilFunc], k := .func, eg := false, fl := none, za := false } := by kernel_rfl
theorem sz144 : szOf Tryz.prog 144 = 1 := by kernel_rfl
theorem ti145 : tiOf Tryz.prog 145 = some { sz := 1, bytes := 8, zero := [.nilFunc], k := .func, eg := false, fl := none, za := false } := by kernel_rfl
theorem sz145 : szOf Tryz.prog 145 = 1 := by kernel_rfl
theorem ti146 : tiOf Tryz.prog 146 = some { sz := 1, bytes := 8, zero := [.nilFunc], k := .func, eg := false, fl := none, za := false } := by kernel_rfl
theorem sz146 : szOf Tryz.prog 146 = 1 := by kernel_rfl
theorem ti147 : tiOf Tryz.prog 147 = some { sz := 1, bytes := 8, zero := [.nilFunc], k := .func, eg := false, fl := none, za := false } := by kernel_rfl
theorem sz147 : szOf Tryz.prog 147 = 1 := by kernel_rfl
theorem ti148 : tiOf Tryz.prog 148 = some { sz := 1, bytes := 8, zero := [.nilFunc], k := .func, eg := false, fl := none, za := false } := by kernel_rfl
theorem sz148 : szOf Tryz.prog 148 = 1 := by kernel_rfl
theorem ti149 : tiOf Tryz.prog 149 = some { sz := 1, bytes := 8, zero := [.nilFunc], k := .func, eg := false, fl := none, za := false } := by kernel_rfl
theorem sz149 : szOf Tryz.prog 149 = 1 := by kernel_rfl
theorem ti150 : tiOf Tryz.prog 150 = some { sz := 1, bytes := 8, zero := [.nilFunc], k := .func, eg := false, fl := none, za := false } := by kernel_rfl
theorem sz150 : szOf Tryz.prog 150 = 1 := by kernel_rfl
theorem ti151 : tiOf Tryz.prog 151 = some { sz := 3, bytes := 56, zero := [.int .i64 0, .slice none 0 0, .slice none 0 0], k := .strct [(0, 3, false), (1, 26, false), (2, 27, false)], eg := false, fl := none, za := true } := by kernel_rfl
theorem sz151 : szOf Tryz.prog 151 = 3 := by kernel_rfl
theorem ti153 : tiOf Tryz.prog 153 = some { sz := 1, bytes := 8, zero := [.nilFunc], k := .func, eg := false, fl := none, za := false } := by kernel_rfl
theorem sz153 : szOf Tryz.prog 153 = 1 := by kernel_rfl
theorem ti155 : tiOf Tryz.prog 155 = some { sz := 1, bytes := 8, zero := [.nilFunc], k := .func, eg := false, fl := none, za := false } := by kernel_rfl
theorem sz155 : szOf Tryz.prog 155 = 1 := by kernel_rfl
theorem ti156 : tiOf Tryz.prog 156 = some { sz := 1, bytes := 8, zero := [.nilFunc], k := .func, eg := false, fl := none, za := false } := by kernel_rfl
theorem sz156 : szOf Tryz.prog 156 = 1 := by kernel_rfl
theorem ti157 : tiOf Tryz.prog 157 = some { sz := 1, bytes := 8, zero := [.nilFunc], k := .func, eg := false, fl := none, za := false } := by kernel_rfl
theorem sz157 : szOf Tryz.prog 157 = 1 := by kernel_rfl
theorem ti158 : tiOf Tryz.prog 158 = some { sz := 1, bytes := 8, zero := [.nilFunc], k := .func, eg := false, fl := none, za := false } := by kernel_rfl
theorem sz158 : szOf Tryz.prog 158 = 1 := by kernel_rfl
theorem ti159 : tiOf Tryz.prog 159 = some { sz := 1, bytes := 8, zero := [.nilFunc], k := .func, eg := false, fl := none, za := false } := by kernel_rfl
theorem sz159 : szOf Tryz.prog 159 = 1 := by kernel_rfl
theorem ti160 : tiOf Tryz.prog 160 = some { sz := 5, bytes := 40, zero := [.int .i64 0, .int .i64 0, .int .i64 0, .int .i64 0, .int .i64 0], k := .strct [(0, 22, false), (4, 3, false)], eg := false, fl := some [.int, .int, .int, .int, .int], za := true } := by kernel_rfl
theorem sz160 : szOf Tryz.prog 160 = 5 := by kernel_rfl
theorem ti162 : tiOf Tryz.prog 162 = some { sz := 1, bytes := 8, zero := [.nilFunc], k := .func, eg := false, fl := none, za := false } := by kernel_rfl
theorem sz162 : szOf Tryz.prog 162 = 1 := by kernel_rfl
theorem ti163 : tiOf Tryz.prog 163 = some { sz := 1, bytes := 8, zero := [.nilFunc], k := .func, eg := false, fl := none, za := false } := by kernel_rfl
theorem sz163 : szOf Tryz.prog 163 = 1 := by kernel_rfl
theorem ti164 : tiOf Tryz.prog 164 = some { sz := 1, bytes := 16, zero := [.nilIface], k := .iface false, eg := true, fl := none, za := false } := by kernel_rfl
theorem sz164 : szOf Tryz.prog 164 = 1 := by kernel_rfl
theorem ti165 : tiOf Tryz.prog 165 = some { sz := 1, bytes := 16, zero := [.nilIface], k := .iface false, eg := true, fl := none, za := false } := by kernel_rfl
theorem sz165 : szOf Tryz.prog 165 = 1 := by kernel_rfl
theorem ti167 : tiOf Tryz.prog 167 = some { sz := 1, bytes := 8, zero := [.nilFunc], k := .func, eg := false, fl := none, za := false } := by kernel_rfl
theorem sz167 : szOf Tryz.prog 167 = 1 := by kernel_rfl
theorem ti169 : tiOf Tryz.prog 169 = some { sz := 1, bytes := 8, zero := [.nilFunc], k := .func, eg := false, fl := none, za := false } := by kernel_rfl
theorem sz169 : szOf Tryz.prog 169 = 1 := by kernel_rfl
theorem ti170 : tiOf Tryz.prog 170 = some { sz := 1, bytes := 8, zero := [.nilFunc], k := .func, eg := false, fl := none, za := false } := by kernel_rfl
theorem sz170 : szOf Tryz.prog 170 = 1 := by kernel_rfl
theorem ti171 : tiOf Tryz.prog 171 = some { sz := 1, bytes := 8, zero := [.nilFunc], k := .func, eg := false, fl := none, za := false } := by kernel_rfl
theorem sz171 : szOf Tryz.prog 171 = 1 := by kernel_rfl
theorem ti172 : tiOf Tryz.prog 172 = some { sz := 1, bytes := 8, zero := [.nilFunc], k := .func, eg := false, fl := none, za := false } := by kernel_rfl
theorem sz172 : szOf Tryz.prog 172 = 1 := by kernel_rfl
theorem ti173 : tiOf Tryz.prog 173 = some { sz := 1, bytes := 8, zero := [.nilFunc], k := .func, eg := false, fl := none, za := false } := by kernel_rfl
theorem sz173 : szOf Tryz.prog 173 = 1 := by kernel_rfl
theorem ti174 : tiOf Tryz.prog 174 = some { sz := 1, bytes := 8, zero := [.nilFunc], k := .func, eg := false, fl := none, za := false } := by kernel_rfl
theorem sz174 : szOf Tryz.prog 174 = 1 := by kernel_rfl
theorem ti175 : tiOf Tryz.prog 175 = some { sz := 1, bytes := 8, zero := [.nilFunc], k := .func, eg := false, fl := none, za := false } := by kernel_rfl
theorem sz175 : szOf Tryz.prog 175 = 1 := by kernel_rfl
theorem ti176 : tiOf Tryz.prog 176 = some { sz := 1, bytes := 8, zero := [.nilFunc], k := .func, eg := false, fl := none, za := false } := by kernel_rfl
theorem sz176 : szOf Tryz.prog 176 = 1 := by kernel_rfl
theorem ti177 : tiOf Tryz.prog 177 = some { sz := 1, bytes := 8, zero := [.nilFunc], k := .func, eg := false, fl := none, za := false } := by kernel_rfl
theorem sz177 : szOf Tryz.prog 177 = 1 := by kernel_rfl
theorem ti178 : tiOf Tryz.prog 178 = some { sz := 1, bytes := 8, zero := [.nilFunc], k := .func, eg := false, fl := none, za := false } := by kernel_rfl
theorem sz178 : szOf Tryz.prog 178 = 1 := by kernel_rfl
theorem ti179 : tiOf Tryz.prog 179 = some { sz := 1, bytes := 8, zero := [.nilFunc], k := .func, eg := false, fl := none, za := false } := by kernel_rfl
theorem sz179 : szOf Tryz.prog 179 = 1 := by kernel_rfl
theorem ti181 : tiOf Tryz.prog 181 = some { sz := 1, bytes := 8, zero := [.nilFunc], k := .func, eg := false, fl := none, za := false } := by kernel_rfl
theorem sz181 : szOf Tryz.prog 181 = 1 := by kernel_rfl
theorem ti182 : tiOf Tryz.prog 182 = some { sz := 1, bytes := 8, zero := [.nilFunc], k := .func, eg := false, fl := none, za := false } := by kernel_rfl
theorem sz182 : szOf Tryz.prog 182 = 1 := by kernel_rfl
theorem ti184 : tiOf Tryz.prog 184 = some { sz := 1, bytes := 8, zero := [.nilFunc], k := .func, eg := false, fl := none, za := false } := by kernel_rfl
theorem sz184 : szOf Tryz.prog 184 = 1 := by kernel_rfl
theorem ti186 : tiOf Tryz.prog 186 = some { sz := 1, bytes := 8, zero := [.nilFunc], k := .func, eg := false, fl := none, za := false } := by kernel_rfl
theorem sz186 : szOf Tryz.prog 186 = 1 := by kernel_rfl
theorem ti188 : tiOf Tryz.prog 188 = some { sz := 1, bytes := 8, zero := [.nilFunc], k := .func, eg := false, fl := none, za := false } := by kernel_rfl
theorem sz188 : szOf Tryz.prog 188 = 1 := by kernel_rfl
theorem ti189 : tiOf Tryz.prog 189 = some { sz := 1, bytes := 8, zero := [.nilFunc], k := .func, eg := false, fl := none, za := false } := by kernel_rfl
theorem sz189 : szOf Tryz.prog 189 = 1 := by kernel_rfl
theorem ti190 : tiOf Tryz.prog 190 = some { sz := 1, bytes := 8, zero := [.nilFunc], k := .func, eg := false, fl := none, za := false } := by kernel_rfl
theorem sz190 : szOf Tryz.prog 190 = 1 := by kernel_rfl
theorem ti192 : tiOf Tryz.prog 192 = some { sz := 1, bytes := 8, zero := [.nilFunc], k := .func, eg := false, fl := none, za := false } := by kernel_rfl
theorem sz192 : szOf Tryz.prog 192 = 1 := by kernel_rfl
theorem ti193 : tiOf Tryz.prog 193 = some { sz := 1, bytes := 8, zero := [.map none], k := .map 89 4, eg := false, fl := none, za := false } := by kernel_rfl
theorem sz193 : szOf Tryz.prog 193 = 1 := by kernel_rfl
theorem ti194 : tiOf Tryz.prog 194 = some { sz := 1, bytes := 8, zero := [.map none], k := .map 89 4, eg := false, fl := none, za := false } := by kernel_rfl
theorem sz194 : szOf Tryz.prog 194 = 1 := by kernel_rfl
theorem ti195 : tiOf Tryz.prog 195 = some { sz := 1, bytes := 8, zero := [.nilFunc], k := .func, eg := false, fl := none, za := false } := by kernel_rfl
theorem sz195 : szOf Tryz.prog 195 = 1 := by kernel_rfl
theorem ti196 : tiOf Tryz.prog 196 = some { sz := 1, bytes := 8, zero := [.nilFunc], k := .func, eg := false, fl := none, za := false } := by kernel_rfl
theorem sz196 : szOf Tryz.prog 196 = 1 := by kernel_rfl
theorem ti197 : tiOf Tryz.prog 197 = some { sz := 1, bytes := 8, zero := [.nilFunc], k := .func, eg := false, fl := none, za := false } := by kernel_rfl
theorem sz197 : szOf Tryz.prog 197 = 1 := by kernel_rfl
theorem ti198 : tiOf Tryz.prog 198 = some { sz := 1, bytes := 8, zero := [.nilFunc], k := .func, eg := false, fl := none, za := false } := by kernel_rfl
theorem sz198 : szOf Tryz.prog 198 = 1 := by kernel_rfl
theorem ti199 : tiOf Tryz.prog 199 = some { sz := 1, bytes := 8, zero := [.nilFunc], k := .func, eg := false, fl := none, za := false } := by kernel_rfl
theorem sz199 : szOf Tryz.prog 199 = 1 := by kernel_rfl
theorem ti200 : tiOf Tryz.prog 200 = some { sz := 1, bytes := 8, zero := [.nilFunc], k := .func, eg := false, fl := none, za := false } := by kernel_rfl
theorem sz200 : szOf Tryz.prog 200 = 1 := by kernel_rfl
theorem ti201 : tiOf Tryz.prog 201 = some { sz := 1, bytes := 24, zero := [.slice none 0 0], k := .slc 207, eg := false, fl := none, za := false } := by kernel_rfl
theorem sz201 : szOf Tryz.prog 201 = 1 := by kernel_rfl
theorem ti202 : tiOf Tryz.prog 202 = some { sz := 1, bytes := 8, zero := [.pointer none], k := .ptr 274, eg := false, fl := none, za := false } := by kernel_rfl
theorem sz202 : szOf Tryz.prog 202 = 1 := by kernel_rfl
theorem ti203 : tiOf Tryz.prog 203 = some { sz := 1, bytes := 8, zero := [.nilFunc], k := .func, eg := false, fl := none, za := false } := by kernel_rfl
theorem sz203 : szOf Tryz.prog 203 = 1 := by kernel_rfl
theorem ti204 : tiOf Tryz.prog 204 = some { sz := 1, bytes := 8, zero := [.nilFunc], k := .func, eg := false, fl := none, za := false } := by kernel_rfl
theorem sz204 : szOf Tryz.prog 204 = 1 := by kernel_rfl
theorem ti205 : tiOf Tryz.prog 205 = some { sz := 1, bytes := 8, zero := [.nilFunc], k := .func, eg := false, fl := none, za := false } := by kernel_rfl
theorem sz205 : szOf Tryz.prog 205 = 1 := by kernel_rfl
theorem ti206 : tiOf Tryz.prog 206 = some { sz := 2, bytes := 32, zero := [.slice none 0 0, .nilFunc], k := .strct [(0, 83, false), (1, 205, false)], eg := false, fl := none, za := true } := by kernel_rfl
theorem sz206 : szOf Tryz.prog 206 = 2 := by kernel_rfl
theorem ti207 : tiOf Tryz.prog 207 = some { sz := 2, bytes := 32, zero := [.slice none 0 0, .nilFunc], k := .strct [(0, 83, false), (1, 205, false)], eg := false, fl := none, za := true } := by kernel_rfl
theorem sz207 : szOf Tryz.prog 207 = 2 := by kernel_rfl
theorem ti208 : tiOf Tryz.prog 208 = some { sz := 1, bytes := 8, zero := [.nilFunc], k := .func, eg := false, fl := none, za := false } := by kernel_rfl
theorem sz208 : szOf Tryz.prog 208 = 1 := by kernel_rfl
theorem ti209 : tiOf Tryz.prog 209 = some { sz := 1, bytes := 8, zero := [.nilFunc], k := .func, eg := false, fl := none, za := false } := by kernel_rfl
theorem sz209 : szOf Tryz.prog 209 = 1 := by kernel_rfl
theorem ti210 : tiOf Tryz.prog 210 = some { sz := 1, bytes := 24, zero := [.slice none 0 0], k := .slc 28, eg := false, fl := none, za := false } := by kernel_rfl
theorem sz210 : szOf Tryz.prog 210 = 1 := by kernel_rfl
theorem ti211 : tiOf Tryz.prog 211 = some { sz := 1, bytes := 8, zero := [.nilFunc], k := .func, eg := false, fl := none, za := false } := by kernel_rfl
theorem sz211 : szOf Tryz.prog 211 = 1 := by kernel_rfl
theorem ti212 : tiOf Tryz.prog 212 = some { sz := 1, bytes := 8, zero := [.nilFunc], k := .func, eg := false, fl := none, za := false } := by kernel_rfl
theorem sz212 : szOf Tryz.prog 212 = 1 := by kernel_rfl
theorem ti213 : tiOf Tryz.prog 213 = some { sz := 1, bytes := 8, zero := [.nilFunc], k := .func, eg := false, fl := none, za := false } := by kernel_rfl
theorem sz213 : szOf Tryz.prog 213 = 1 := by kernel_rfl
theorem ti214 : tiOf Tryz.prog 214 = some { sz := 1, bytes := 8, zero := [.nilFunc], k := .func, eg := false, fl := none, za := false } := by kernel_rfl
theorem sz214 : szOf Tryz.prog 214 = 1 := by kernel_rfl
theorem ti215 : tiOf Tryz.prog 215 = some { sz := 1, bytes := 8, zero := [.nilFunc], k := .func, eg := false, fl := none, za := false } := by kernel_rfl
theorem sz215 : szOf Tryz.prog 215 = 1 := by kernel_rfl
theorem ti216 : tiOf Tryz.prog 216 = some { sz := 1, bytes := 8, zero := [.nilFunc], k := .func, eg := false, fl := none, za := false } := by kernel_rfl
theorem sz216 : szOf Tryz.prog 216 = 1 := by kernel_rfl
theorem ti217 : tiOf Tryz.prog 217 = some { sz := 1, bytes := 8, zero := [.nilFunc], k := .func, eg := false, fl := none, za := false } := by kernel_rfl
theorem sz217 : szOf Tryz.prog 217 = 1 := by kernel_rfl
theorem ti218 : tiOf Tryz.prog 218 = some { sz := 1, bytes := 8, zero := [.nilFunc], k := .func, eg := false, fl := none, za := false } := by kernel_rfl
theorem sz218 : szOf Tryz.prog 218 = 1 := by kernel_rfl
theorem ti219 : tiOf Tryz.prog 219 = some { sz := 1, bytes := 8, zero := [.nilFunc], k := .func, eg := false, fl := none, za := false } := by kernel_rfl
theorem sz219 : szOf Tryz.prog 219 = 1 := by kernel_rfl
theorem ti220 : tiOf Tryz.prog 220 = some { sz := 1, bytes := 8, zero := [.nilFunc], k := .func, eg := false, fl := none, za := false } := by kernel_rfl
theorem sz220 : szOf Tryz.prog 220 = 1 := by kernel_rfl
theorem ti221 : tiOf Tryz.prog 221 = some { sz := 1, bytes := 8, zero := [.nilFunc], k := .func, eg := false, fl := none, za := false } := by kernel_rfl
theorem sz221 : szOf Tryz.prog 221 = 1 := by kernel_rfl
theorem ti223 : tiOf Tryz.prog 223 = some { sz := 1, bytes := 8, zero := [.nilFunc], k := .func, eg := false, fl := none, za := false } := by kernel_rfl
theorem sz223 : szOf Tryz.prog 223 = 1 := by kernel_rfl
theorem ti225 : tiOf Tryz.prog 225 = some { sz := 1, bytes := 8, zero := [.nilFunc], k := .func, eg := false, fl := none, za := false } := by kernel_rfl
theorem sz225 : szOf Tryz.prog 225 = 1 := by kernel_rfl
theorem ti226 : tiOf Tryz.prog 226 = some { sz := 1, bytes := 8, zero := [.nilFunc], k := .func, eg := false, fl := none, za := false } := by kernel_rfl
theorem sz226 : szOf Tryz.prog 226 = 1 := by kernel_rfl
theorem ti227 : tiOf Tryz.prog 227 = some { sz := 1, bytes := 8, zero := [.nilFunc], k := .func, eg := false, fl := none, za := false } := by kernel_rfl
theorem sz227 : szOf Tryz.prog 227 = 1 := by kernel_rfl
theorem ti228 : tiOf Tryz.prog 228 = some { sz := 1, bytes := 8, zero := [.nilFunc], k := .func, eg := false, fl := none, za := false } := by kernel_rfl
theorem sz228 : szOf Tryz.prog 228 = 1 := by kernel_rfl
theorem ti229 : tiOf Tryz.prog 229 = some { sz := 1, bytes := 8, zero := [.nilFunc], k := .func, eg := false, fl := none, za := false } := by kernel_rfl
theorem sz229 : szOf Tryz.prog 229 = 1 := by kernel_rfl
theorem ti230 : tiOf Tryz.prog 230 = some { sz := 1, bytes := 8, zero := [.nilFunc], k := .func, eg := false, fl := none, za := false } := by kernel_rfl
theorem sz230 : szOf Tryz.prog 230 = 1 := by kernel_rfl
theorem ti231 : tiOf Tryz.prog 231 = some { sz := 1, bytes := 8, zero := [.nilFunc], k := .func, eg := false, fl := none, za := false } := by kernel_rfl
theorem sz231 : szOf Tryz.prog 231 = 1 := by kernel_rfl
theorem ti232 : tiOf Tryz.prog 232 = some { sz := 1, bytes := 8, zero := [.nilFunc], k := .func, eg := false, fl := none, za := false } := by kernel_rfl
theorem sz232 : szOf Tryz.prog 232 = 1 := by kernel_rfl
theorem ti233 : tiOf Tryz.prog 233 = some { sz := 1, bytes := 8, zero := [.nilFunc], k := .func, eg := false, fl := none, za := false } := by kernel_rfl
theorem sz233 : szOf Tryz.prog 233 = 1 := by kernel_rfl
theorem ti234 : tiOf Tryz.prog 234 = some { sz := 1, bytes := 8, zero := [.map none], k := .map 89 85, eg := false, fl := none, za := false } := by kernel_rfl
theorem sz234 : szOf Tryz.prog 234 = 1 := by kernel_rfl
theorem ti235 : tiOf Tryz.prog 235 = some { sz := 1, bytes := 8, zero := [.nilFunc], k := .func, eg := false, fl := none, za := false } := by kernel_rfl
theorem sz235 : szOf Tryz.prog 235 = 1 := by kernel_rfl
theorem ti236 : tiOf Tryz.prog 236 = some { sz := 1, bytes := 8, zero := [.nilFunc], k := .func, eg := false, fl := none, za := false } := by kernel_rfl
theorem sz236 : szOf Tryz.prog 236 = 1 := by kernel_rfl
theorem ti237 : tiOf Tryz.prog 237 = some { sz := 1, bytes := 8, zero := [.nilFunc], k := .func, eg := false, fl := none, za := false } := by kernel_rfl
theorem sz237 : szOf Tryz.prog 237 = 1 := by kernel_rfl
theorem ti238 : tiOf Tryz.prog 238 = some { sz := 1, bytes := 24, zero := [.slice none 0 0], k := .slc 242, eg := false, fl := none, za := false } := by kernel_rfl
theorem sz238 : szOf Tryz.prog 238 = 1 := by kernel_rfl
theorem ti239 : tiOf Tryz.prog 239 = some { sz := 3, bytes := 56, zero := [.string ⟨#[]⟩, .string ⟨#[]⟩, .slice none 0 0], k := .strct [(0, 9, false), (1, 9, false), (2, 238, false)], eg := false, fl := none, za := true } := by kernel_rfl
theorem sz239 : szOf Tryz.prog 239 = 3 := by kernel_rfl
theorem ti240 : tiOf Tryz.prog 240 = some { sz := 3, bytes := 56, zero := [.string ⟨#[]⟩, .string ⟨#[]⟩, .slice none 0 0], k := .strct [(0, 9, false), (1, 9, false), (2, 238, false)], eg := false, fl := none, za := true } := by kernel_rfl
theorem sz240 : szOf Tryz.prog 240 = 3 := by kernel_rfl
theorem ti241 : tiOf Tryz.prog 241 = some { sz := 2, bytes := 24, zero := [.string ⟨#[]⟩, .int .i64 0], k := .strct [(0, 9, false), (1, 3, false)], eg := false, fl := some [.str, .int], za := true } := by kernel_rfl
theorem sz241 : szOf Tryz.prog 241 = 2 := by kernel_rfl
theorem ti242 : tiOf Tryz.prog 242 = some { sz := 2, bytes := 24, zero := [.string ⟨#[]⟩, .int .i64 0], k := .strct [(0, 9, false), (1, 3, false)], eg := false, fl := some [.str, .int], za := true } := by kernel_rfl
theorem sz242 : szOf Tryz.prog 242 = 2 := by kernel_rfl
theorem ti243 : tiOf Tryz.prog 243 = some { sz := 1, bytes := 8, zero := [.nilFunc], k := .func, eg := false, fl := none, za := false } := by kernel_rfl
theorem sz243 : szOf Tryz.prog 243 = 1 := by kernel_rfl
theorem ti244 : tiOf Tryz.prog 244 = some { sz := 1, bytes := 8, zero := [.nilFunc], k := .func, eg := false, fl := none, za := false } := by kernel_rfl
theorem sz244 : szOf Tryz.prog 244 = 1 := by kernel_rfl
theorem ti245 : tiOf Tryz.prog 245 = some { sz := 1, bytes := 8, zero := [.nilFunc], k := .func, eg := false, fl := none, za := false } := by kernel_rfl
theorem sz245 : szOf Tryz.prog 245 = 1 := by kernel_rfl
theorem ti246 : tiOf Tryz.prog 246 = some { sz := 1, bytes := 8, zero := [.nilFunc], k := .func, eg := false, fl := none, za := false } := by kernel_rfl
theorem sz246 : szOf Tryz.prog 246 = 1 := by kernel_rfl
theorem ti247 : tiOf Tryz.prog 247 = some { sz := 1, bytes := 8, zero := [.nilFunc], k := .func, eg := false, fl := none, za := false } := by kernel_rfl
theorem sz247 : szOf Tryz.prog 247 = 1 := by kernel_rfl
theorem ti248 : tiOf Tryz.prog 248 = some { sz := 1, bytes := 8, zero := [.nilFunc], k := .func, eg := false, fl := none, za := false } := by kernel_rfl
theorem sz248 : szOf Tryz.prog 248 = 1 := by kernel_rfl
theorem ti249 : tiOf Tryz.prog 249 = some { sz := 1, bytes := 8, zero := [.nilFunc], k := .func, eg := false, fl := none, za := false } := by kernel_rfl
theorem sz249 : szOf Tryz.prog 249 = 1 := by kernel_rfl
theorem ti251 : tiOf Tryz.prog 251 = some { sz := 1, bytes := 8, zero := [.nilFunc], k := .func, eg := false, fl := none, za := false } := by kernel_rfl
theorem sz251 : szOf Tryz.prog 251 = 1 := by kernel_rfl
theorem ti253 : tiOf Tryz.prog 253 = some { sz := 1, bytes := 8, zero := [.nilFunc], k := .func, eg := false, fl := none, za := false } := by kernel_rfl
theorem sz253 : szOf Tryz.prog 253 = 1 := by kernel_rfl
theorem ti254 : tiOf Tryz.prog 254 = some { sz := 1, bytes := 8, zero := [.nilFunc], k := .func, eg := false, fl := none, za := false } := by kernel_rfl
theorem sz254 : szOf Tryz.prog 254 = 1 := by kernel_rfl
theorem ti255 : tiOf Tryz.prog 255 = some { sz := 1, bytes := 8, zero := [.nilFunc], k := .func, eg := false, fl := none, za := false } := by kernel_rfl
theorem sz255 : szOf Tryz.prog 255 = 1 := by kernel_rfl
theorem ti256 : tiOf Tryz.prog 256 = some { sz := 1, bytes := 8, zero := [.nilFunc], k := .func, eg := false, fl := none, za := false } := by kernel_rfl
theorem sz256 : szOf Tryz.prog 256 = 1 := by kernel_rfl
theorem ti257 : tiOf Tryz.prog 257 = some { sz := 3, bytes := 40, zero := [.int .i64 0, .int .i64 0, .slice none 0 0], k := .strct [(0, 3, false), (1, 3, false), (2, 26, false)], eg := false, fl := none, za := true } := by kernel_rfl
theorem sz257 : szOf Tryz.prog 257 = 3 := by kernel_rfl
theorem ti258 : tiOf Tryz.prog 258 = some { sz := 3, bytes := 40, zero := [.int .i64 0, .int .i64 0, .slice none 0 0], k := .strct [(0, 3, false), (1, 3, false), (2, 26, false)], eg := false, fl := none, za := true } := by kernel_rfl
theorem sz258 : szOf Tryz.prog 258 = 3 := by kernel_rfl
theorem ti259 : tiOf Tryz.prog 259 = some { sz := 1, bytes := 8, zero := [.map none], k := .map 89 27, eg := false, fl := none, za := false } := by kernel_rfl
theorem sz259 : szOf Tryz.prog 259 = 1 := by kernel_rfl
theorem ti260 : tiOf Tryz.prog 260 = some { sz := 1, bytes := 8, zero := [.nilFunc], k := .func, eg := false, fl := none, za := false } := by kernel_rfl
theorem sz260 : szOf Tryz.prog 260 = 1 := by kernel_rfl
theorem ti261 : tiOf Tryz.prog 261 = some { sz := 1, bytes := 8, zero := [.nilFunc], k := .func, eg := false, fl := none, za := false } := by kernel_rfl
theorem sz261 : szOf Tryz.prog 261 = 1 := by kernel_rfl
theorem ti262 : tiOf Tryz.prog 262 = some { sz := 1, bytes := 8, zero := [.pointer none], k := .ptr 266, eg := false, fl := none, za := false } := by kernel_rfl
theorem sz262 : szOf Tryz.prog 262 = 1 := by kernel_rfl
theorem ti263 : tiOf Tryz.prog 263 = some { sz := 1, bytes := 8, zero := [.nilFunc], k := .func, eg := false, fl := none, za := false } := by kernel_rfl
theorem sz263 : szOf Tryz.prog 263 = 1 := by kernel_rfl
theorem ti264 : tiOf Tryz.prog 264 = some { sz := 1, bytes := 8, zero := [.pointer none], k := .ptr 262, eg := false, fl := none, za := false } := by kernel_rfl
theorem sz264 : szOf Tryz.prog 264 = 1 := by kernel_rfl
theorem ti265 : tiOf Tryz.prog 265 = some { sz := 2, bytes := 16, zero := [.int .i64 0, .int .i64 0], k := .strct [(0, 28, false), (1, 3, false)], eg := false, fl := some [.int, .int], za := true } := by kernel_rfl
theorem sz265 : szOf Tryz.prog 265 = 2 := by kernel_rfl
theorem ti266 : tiOf Tryz.prog 266 = some { sz := 2, bytes := 16, zero := [.int .i64 0, .int .i64 0], k := .strct [(0, 28, false), (1, 3, false)], eg := false, fl := some [.int, .int], za := true } := by kernel_rfl
theorem sz266 : szOf Tryz.prog 266 = 2 := by kernel_rfl
theorem ti267 : tiOf Tryz.prog 267 = some { sz := 1, bytes := 8, zero := [.nilFunc], k := .func, eg := false, fl := none, za := false } := by kernel_rfl
theorem sz267 : szOf Tryz.prog 267 = 1 := by kernel_rfl
theorem ti269 : tiOf Tryz.prog 269 = some { sz := 1, bytes := 8, zero := [.nilFunc], k := .func, eg := false, fl := none, za := false } := by kernel_rfl
theorem sz269 : szOf Tryz.prog 269 = 1 := by kernel_rfl
theorem ti271 : tiOf Tryz.prog 271 = some { sz := 1, bytes := 8, zero := [.nilFunc], k := .func, eg := false, fl := none, za := false } := by kernel_rfl
theorem sz271 : szOf Tryz.prog 271 = 1 := by kernel_rfl
theorem ti272 : tiOf Tryz.prog 272 = some { sz := 1, bytes := 8, zero := [.nilFunc], k := .func, eg := false, fl := none, za := false } := by kernel_rfl
theorem sz272 : szOf Tryz.prog 272 = 1 := by kernel_rfl
theorem ti273 : tiOf Tryz.prog 273 = some { sz := 5, bytes := 104, zero := [.slice none 0 0, .slice none 0 0, .map none, .slice none 0 0, .slice none 0 0], k := .strct [(0, 26, false), (1, 27, false), (2, 193, false), (3, 26, false), (4, 27, false)], eg := false, fl := none, za := true } := by kernel_rfl
theorem sz273 : szOf Tryz.prog 273 = 5 := by kernel_rfl
theorem ti274 : tiOf Tryz.prog 274 = some { sz := 5, bytes := 104, zero := [.slice none 0 0, .slice none 0 0, .map none, .slice none 0 0, .slice none 0 0], k := .strct [(0, 26, false), (1, 27, false), (2, 193, false), (3, 26, false), (4, 27, false)], eg := false, fl := none, za := true } := by kernel_rfl
theorem sz274 : szOf Tryz.prog 274 = 5 := by kernel_rfl
theorem ti275 : tiOf Tryz.prog 275 = some { sz := 1, bytes := 8, zero := [.nilFunc], k := .func, eg := false, fl := none, za := false } := by kernel_rfl
theorem sz275 : szOf Tryz.prog 275 = 1 := by kernel_rfl
theorem ti276 : tiOf Tryz.prog 276 = some { sz := 1, bytes := 8, zero := [.nilFunc], k := .func, eg := false, fl := none, za := false } := by kernel_rfl
theorem sz276 : szOf Tryz.prog 276 = 1 := by kernel_rfl
theorem ti277 : tiOf Tryz.prog 277 = some { sz := 1, bytes := 8, zero := [.nilFunc], k := .func, eg := false, fl := none, za := false } := by kernel_rfl
theorem sz277 : szOf Tryz.prog 277 = 1 := by kernel_rfl
theorem ti278 : tiOf Tryz.prog 278 = some { sz := 1, bytes := 8, zero := [.nilFunc], k := .func, eg := false, fl := none, za := false } := by kernel_rfl
theorem sz278 : szOf Tryz.prog 278 = 1 := by kernel_rfl
theorem ti279 : tiOf Tryz.prog 279 = some { sz := 1, bytes := 8, zero := [.nilFunc], k := .func, eg := false, fl := none, za := false } := by kernel_rfl
theorem sz279 : szOf Tryz.prog 279 = 1 := by kernel_rfl
theorem ti280 : tiOf Tryz.prog 280 = some { sz := 1, bytes := 8, zero := [.nilFunc], k := .func, eg := false, fl := none, za := false } := by kernel_rfl
theorem sz280 : szOf Tryz.prog 280 = 1 := by kernel_rfl
theorem ti281 : tiOf Tryz.prog 281 = some { sz := 1, bytes := 8, zero := [.nilFunc], k := .func, eg := false, fl := none, za := false } := by kernel_rfl
theorem sz281 : szOf Tryz.prog 281 = 1 := by kernel_rfl
theorem ti282 : tiOf Tryz.prog 282 = some { sz := 1, bytes := 8, zero := [.nilFunc], k := .func, eg := false, fl := none, za := false } := by kernel_rfl
theorem sz282 : szOf Tryz.prog 282 = 1 := by kernel_rfl
theorem ti283 : tiOf Tryz.prog 283 = some { sz := 1, bytes := 8, zero := [.nilFunc], k := .func, eg := false, fl := none, za := false } := by kernel_rfl
theorem sz283 : szOf Tryz.prog 283 = 1 := by kernel_rfl
theorem ti284 : tiOf Tryz.prog 284 = some { sz := 1, bytes := 8, zero := [.nilFunc], k := .func, eg := false, fl := none, za := false } := by kernel_rfl
theorem sz284 : szOf Tryz.prog 284 = 1 := by kernel_rfl
theorem ti285 : tiOf Tryz.prog 285 = some { sz := 1, bytes := 8, zero := [.nilFunc], k := .func, eg := false, fl := none, za := false } := by kernel_rfl
theorem sz285 : szOf Tryz.prog 285 = 1 := by kernel_rfl
theorem ti286 : tiOf Tryz.prog 286 = some { sz := 1, bytes := 8, zero := [.nilFunc], k := .func, eg := false, fl := none, za := false } := by kernel_rfl
theorem sz286 : szOf Tryz.prog 286 = 1 := by kernel_rfl
theorem ti287 : tiOf Tryz.prog 287 = some { sz := 1, bytes := 8, zero := [.nilFunc], k := .func, eg := false, fl := none, za := false } := by kernel_rfl
theorem sz287 : szOf Tryz.prog 287 = 1 := by kernel_rfl
theorem ti288 : tiOf Tryz.prog 288 = some { sz := 1, bytes := 8, zero := [.nilFunc], k := .func, eg := false, fl := none, za := false } := by kernel_rfl
theorem sz288 : szOf Tryz.prog 288 = 1 := by kernel_rfl
theorem ti289 : tiOf Tryz.prog 289 = some { sz := 1, bytes := 8, zero := [.int .u64 0], k := .int .u64, eg := false, fl := some [.int], za := false } := by kernel_rfl
theorem sz289 : szOf Tryz.prog 289 = 1 := by kernel_rfl
theorem ti290 : tiOf Tryz.prog 290 = some { sz := 1, bytes := 8, zero := [.nilFunc], k := .func, eg := false, fl := none, za := false } := by kernel_rfl
theorem sz290 : szOf Tryz.prog 290 = 1 := by kernel_rfl
theorem ti291 : tiOf Tryz.prog 291 = some { sz := 1, bytes := 8, zero := [.nilFunc], k := .func, eg := false, fl := none, za := false } := by kernel_rfl
theorem sz291 : szOf Tryz.prog 291 = 1 := by kernel_rfl
theorem ti292 : tiOf Tryz.prog 292 = some { sz := 1, bytes := 8, zero := [.nilFunc], k := .func, eg := false, fl := none, za := false } := by kernel_rfl
theorem sz292 : szOf Tryz.prog 292 = 1 := by kernel_rfl
theorem ti293 : tiOf Tryz.prog 293 = some { sz := 1, bytes := 8, zero := [.nilFunc], k := .func, eg := false, fl := none, za := false } := by kernel_rfl
theorem sz293 : szOf Tryz.prog 293 = 1 := by kernel_rfl
theorem ti294 : tiOf Tryz.prog 294 = some { sz := 1, bytes := 8, zero := [.nilFunc], k := .func, eg := false, fl := none, za := false } := by kernel_rfl
theorem sz294 : szOf Tryz.prog 294 = 1 := by kernel_rfl
theorem ti295 : tiOf Tryz.prog 295 = some { sz := 1, bytes := 8, zero := [.nilFunc], k := .func, eg := false, fl := none, za := false } := by kernel_rfl
theorem sz295 : szOf Tryz.prog 295 = 1 := by kernel_rfl
theorem ti296 : tiOf Tryz.prog 296 = some { sz := 1, bytes := 8, zero := [.nilFunc], k := .func, eg := false, fl := none, za := false } := by kernel_rfl
theorem sz296 : szOf Tryz.prog 296 = 1 := by kernel_rfl
theorem ti297 : tiOf Tryz.prog 297 = some { sz := 5, bytes := 72, zero := [.int .i64 0, .slice none 0 0, .bool false, .slice none 0 0, .bool false], k := .strct [(0, 98, false), (4, 4, false)], eg := false, fl := none, za := true } := by kernel_rfl
theorem sz297 : szOf Tryz.prog 297 = 5 := by kernel_rfl
theorem ti298 : tiOf Tryz.prog 298 = some { sz := 5, bytes := 72, zero := [.int .i64 0, .slice none 0 0, .bool false, .slice none 0 0, .bool false], k := .strct [(0, 98, false), (4, 4, false)], eg := false, fl := none, za := true } := by kernel_rfl
theorem sz298 : szOf Tryz.prog 298 = 5 := by kernel_rfl
theorem ti300 : tiOf Tryz.prog 300 = some { sz := 1, bytes := 8, zero := [.nilFunc], k := .func, eg := false, fl := none, za := false } := by kernel_rfl
theorem sz300 : szOf Tryz.prog 300 = 1 := by kernel_rfl
theorem ti301 : tiOf Tryz.prog 301 = some { sz := 1, bytes := 8, zero := [.nilFunc], k := .func, eg := false, fl := none, za := false } := by kernel_rfl
theorem sz301 : szOf Tryz.prog 301 = 1 := by kernel_rfl
theorem ti302 : tiOf Tryz.prog 302 = some { sz := 1, bytes := 8, zero := [.nilFunc], k := .func, eg := false, fl := none, za := false } := by kernel_rfl
theorem sz302 : szOf Tryz.prog 302 = 1 := by kernel_rfl
theorem ti303 : tiOf Tryz.prog 303 = some { sz := 1, bytes := 8, zero := [.nilFunc], k := .func, eg := false, fl := none, za := false } := by kernel_rfl
theorem sz303 : szOf Tryz.prog 303 = 1 := by kernel_rfl
theorem ti304 : tiOf Tryz.prog 304 = some { sz := 1, bytes := 8, zero := [.nilFunc], k := .func, eg := false, fl := none, za := false } := by kernel_rfl
theorem sz304 : szOf Tryz.prog 304 = 1 := by kernel_rfl
theorem ti305 : tiOf Tryz.prog 305 = some { sz := 1, bytes := 8, zero := [.nilFunc], k := .func, eg := false, fl := none, za := false } := by kernel_rfl
theorem sz305 : szOf Tryz.prog 305 = 1 := by kernel_rfl
theorem ti306 : tiOf Tryz.prog 306 = some { sz := 1, bytes := 8, zero := [.nilFunc], k := .func, eg := false, fl := none, za := false } := by kernel_rfl
theorem sz306 : szOf Tryz.prog 306 = 1 := by kernel_rfl
theorem ti307 : tiOf Tryz.prog 307 = some { sz := 1, bytes := 8, zero := [.nilFunc], k := .func, eg := false, fl := none, za := false } := by kernel_rfl
theorem sz307 : szOf Tryz.prog 307 = 1 := by kernel_rfl
theorem ti308 : tiOf Tryz.prog 308 = some { sz := 1, bytes := 8, zero := [.nilFunc], k := .func, eg := false, fl := none, za := false } := by kernel_rfl
theorem sz308 : szOf Tryz.prog 308 = 1 := by kernel_rfl
theorem ti309 : tiOf Tryz.prog 309 = some { sz := 1, bytes := 8, zero := [.nilFunc], k := .func, eg := false, fl := none, za := false } := by kernel_rfl
theorem sz309 : szOf Tryz.prog 309 = 1 := by kernel_rfl
theorem ti322 : tiOf Tryz.prog 322 = some { sz := 1, bytes := 8, zero := [.nilFunc], k := .func, eg := false, fl := none, za := false } := by kernel_rfl
theorem sz322 : szOf Tryz.prog 322 = 1 := by kernel_rfl
theorem ti323 : tiOf Tryz.prog 323 = some { sz := 1, bytes := 8, zero := [.nilFunc], k := .func, eg := false, fl := none, za := false } := by kernel_rfl
theorem sz323 : szOf Tryz.prog 323 = 1 := by kernel_rfl
theorem ti324 : tiOf Tryz.prog 324 = some { sz := 3, bytes := 24, zero := [.int .i64 0, .int .i64 0, .int .i64 0], k := .strct [(0, 3, false), (1, 3, false), (2, 3, false)], eg := false, fl := some [.int, .int, .int], za := true } := by kernel_rfl
theorem sz324 : szOf Tryz.prog 324 = 3 := by kernel_rfl
theorem ti325 : tiOf Tryz.prog 325 = some { sz := 3, bytes := 24, zero := [.int .i64 0, .int .i64 0, .int .i64 0], k := .strct [(0, 3, false), (1, 3, false), (2, 3, false)], eg := false, fl := some [.int, .int, .int], za := true } := by kernel_rfl
theorem sz325 : szOf Tryz.prog 325 = 3 := by kernel_rfl
theorem ti326 : tiOf Tryz.prog 326 = some { sz := 1, bytes := 8, zero := [.nilFunc], k := .func, eg := false, fl := none, za := false } := by kernel_rfl
theorem sz326 : szOf Tryz.prog 326 = 1 := by kernel_rfl
theorem ti327 : tiOf Tryz.prog 327 = some { sz := 1, bytes := 8, zero := [.nilFunc], k := .func, eg := false, fl := none, za := false } := by kernel_rfl
theorem sz327 : szOf Tryz.prog 327 = 1 := by kernel_rfl
theorem ti328 : tiOf Tryz.prog 328 = some { sz := 1, bytes := 8, zero := [.nilFunc], k := .func, eg := false, fl := none, za := false } := by kernel_rfl
theorem sz328 : szOf Tryz.prog 328 = 1 := by kernel_rfl
theorem ti329 : tiOf Tryz.prog 329 = some { sz := 1, bytes := 8, zero := [.nilFunc], k := .func, eg := false, fl := none, za := false } := by kernel_rfl
theorem sz329 : szOf Tryz.prog 329 = 1 := by kernel_rfl
theorem ti330 : tiOf Tryz.prog 330 = some { sz := 1, bytes := 8, zero := [.nilFunc], k := .func, eg := false, fl := none, za := false } := by kernel_rfl
theorem sz330 : szOf Tryz.prog 330 = 1 := by kernel_rfl
theorem ti331 : tiOf Tryz.prog 331 = some { sz := 4, bytes := 4, zero := [.bool false, .bool false, .bool false, .bool false], k := .strct [(0, 4, false), (1, 4, false), (2, 4, false), (3, 4, false)], eg := false, fl := some [.bool, .bool, .bool, .bool], za := true } := by kernel_rfl
theorem sz331 : szOf Tryz.prog 331 = 4 := by kernel_rfl
theorem ti332 : tiOf Tryz.prog 332 = some { sz := 4, bytes := 4, zero := [.bool false, .bool false, .bool false, .bool false], k := .strct [(0, 4, false), (1, 4, false), (2, 4, false), (3, 4, false)], eg := false, fl := some [.bool, .bool, .bool, .bool], za := true } := by kernel_rfl
theorem sz332 : szOf Tryz.prog 332 = 4 := by kernel_rfl
theorem ti333 : tiOf Tryz.prog 333 = some { sz := 1, bytes := 8, zero := [.nilFunc], k := .func, eg := false, fl := none, za := false } := by kernel_rfl
theorem sz333 : szOf Tryz.prog 333 = 1 := by kernel_rfl
theorem ti334 : tiOf Tryz.prog 334 = some { sz := 1, bytes := 8, zero := [.nilFunc], k := .func, eg := false, fl := none, za := false } := by kernel_rfl
theorem sz334 : szOf Tryz.prog 334 = 1 := by kernel_rfl
theorem ti335 : tiOf Tryz.prog 335 = some { sz := 1, bytes := 8, zero := [.nilFunc], k := .func, eg := false, fl := none, za := false } := by kernel_rfl
theorem sz335 : szOf Tryz.prog 335 = 1 := by kernel_rfl
theorem ti336 : tiOf Tryz.prog 336 = some { sz := 1, bytes := 8, zero := [.nilFunc], k := .func, eg := false, fl := none, za := false } := by kernel_rfl
theorem sz336 : szOf Tryz.prog 336 = 1 := by kernel_rfl
theorem ti337 : tiOf Tryz.prog 337 = some { sz := 1, bytes := 8, zero := [.nilFunc], k := .func, eg := false, fl := none, za := false } := by kernel_rfl
theorem sz337 : szOf Tryz.prog 337 = 1 := by kernel_rfl
theorem ti338 : tiOf Tryz.prog 338 = some { sz := 1, bytes := 8, zero := [.nilFunc], k := .func, eg := false, fl := none, za := false } := by kernel_rfl
theorem sz338 : szOf Tryz.prog 338 = 1 := by kernel_rfl
theorem ti339 : tiOf Tryz.prog 339 = some { sz := 1, bytes := 8, zero := [.nilFunc], k := .func, eg := false, fl := none, za := false } := by kernel_rfl
theorem sz339 : szOf Tryz.prog 339 = 1 := by kernel_rfl
theorem ti340 : tiOf Tryz.prog 340 = some { sz := 1, bytes := 8, zero := [.nilFunc], k := .func, eg := false, fl := none, za := false } := by kernel_rfl
theorem sz340 : szOf Tryz.prog 340 = 1 := by kernel_rfl
theorem ti341 : tiOf Tryz.prog 341 = some { sz := 1, bytes := 8, zero := [.nilFunc], k := .func, eg := false, fl := none, za := false } := by kernel_rfl
theorem sz341 : szOf Tryz.prog 341 = 1 := by kernel_rfl
theorem ti342 : tiOf Tryz.prog 342 = some { sz := 1, bytes := 8, zero := [.map none], k := .map 3 4, eg := false, fl := none, za := false } := by kernel_rfl
theorem sz342 : szOf Tryz.prog 342 = 1 := by kernel_rfl
theorem ti343 : tiOf Tryz.prog 343 = some { sz := 1, bytes := 8, zero := [.nilFunc], k := .func, eg := false, fl := none, za := false } := by kernel_rfl
theorem sz343 : szOf Tryz.prog 343 = 1 := by kernel_rfl
theorem ti344 : tiOf Tryz.prog 344 = some { sz := 1, bytes := 8, zero := [.nilFunc], k := .func, eg := false, fl := none, za := false } := by kernel_rfl
theorem sz344 : szOf Tryz.prog 344 = 1 := by kernel_rfl
theorem ti345 : tiOf Tryz.prog 345 = some { sz := 1, bytes := 8, zero := [.int .i64 0], k := .int .i64, eg := false, fl := some [.int], za := false } := by kernel_rfl
theorem sz345 : szOf Tryz.prog 345 = 1 := by kernel_rfl
theorem ti347 : tiOf Tryz.prog 347 = some { sz := 1, bytes := 8, zero := [.nilFunc], k := .func, eg := false, fl := none, za := false } := by kernel_rfl
theorem sz347 : szOf Tryz.prog 347 = 1 := by kernel_rfl
theorem ti348 : tiOf Tryz.prog 348 = some { sz := 1, bytes := 8, zero := [.nilFunc], k := .func, eg := false, fl := none, za := false } := by kernel_rfl
theorem sz348 : szOf Tryz.prog 348 = 1 := by kernel_rfl
theorem ti349 : tiOf Tryz.prog 349 = some { sz := 1, bytes := 8, zero := [.nilFunc], k := .func, eg := false, fl := none, za := false } := by kernel_rfl
theorem sz349 : szOf Tryz.prog 349 = 1 := by kernel_rfl
theorem ti351 : tiOf Tryz.prog 351 = some { sz := 1, bytes := 8, zero := [.nilFunc], k := .func, eg := false, fl := none, za := false } := by kernel_rfl
theorem sz351 : szOf Tryz.prog 351 = 1 := by kernel_rfl
theorem ti352 : tiOf Tryz.prog 352 = some { sz := 1, bytes := 8, zero := [.nilFunc], k := .func, eg := false, fl := none, za := false } := by kernel_rfl
theorem sz352 : szOf Tryz.prog 352 = 1 := by kernel_rfl
theorem ti353 : tiOf Tryz.prog 353 = some { sz := 1, bytes := 4, zero := [.int .u32 0], k := .int .u32, eg := false, fl := some [.int], za := false } := by kernel_rfl
theorem sz353 : szOf Tryz.prog 353 = 1 := by kernel_rfl
theorem ti354 : tiOf Tryz.prog 354 = some { sz := 1, bytes := 8, zero := [.nilFunc], k := .func, eg := false, fl := none, za := false } := by kernel_rfl
theorem sz354 : szOf Tryz.prog 354 = 1 := by kernel_rfl
theorem ti355 : tiOf Tryz.prog 355 = some { sz := 1, bytes := 8, zero := [.int .u64 0], k := .int .u64, eg := false, fl := some [.int], za := false } := by kernel_rfl
theorem sz355 : szOf Tryz.prog 355 = 1 := by kernel_rfl
theorem ti356 : tiOf Tryz.prog 356 = some { sz := 1, bytes := 8, zero := [.nilFunc], k := .func, eg := false, fl := none, za := false } := by kernel_rfl
theorem sz356 : szOf Tryz.prog 356 = 1 := by kernel_rfl
theorem ti357 : tiOf Tryz.prog 357 = some { sz := 1, bytes := 8, zero := [.nilFunc], k := .func, eg := false, fl := none, za := false } := by kernel_rfl
theorem sz357 : szOf Tryz.prog 357 = 1 := by kernel_rfl
theorem ti358 : tiOf Tryz.prog 358 = some { sz := 1, bytes := 8, zero := [.nilFunc], k := .func, eg := false, fl := none, za := false } := by kernel_rfl
theorem sz358 : szOf Tryz.prog 358 = 1 := by kernel_rfl
theorem ti359 : tiOf Tryz.prog 359 = some { sz := 1, bytes := 8, zero := [.nilFunc], k := .func, eg := false, fl := none, za := false } := by kernel_rfl
theorem sz359 : szOf Tryz.prog 359 = 1 := by kernel_rfl
theorem ti360 : tiOf Tryz.prog 360 = some { sz := 1, bytes := 8, zero := [.nilFunc], k := .func, eg := false, fl := none, za := false } := by kernel_rfl
theorem sz360 : szOf Tryz.prog 360 = 1 := by kernel_rfl
theorem ti361 : tiOf Tryz.prog 361 = some { sz := 1, bytes := 8, zero := [.nilFunc], k := .func, eg := false, fl := none, za := false } := by kernel_rfl
theorem sz361 : szOf Tryz.prog 361 = 1 := by kernel_rfl
theorem ti362 : tiOf Tryz.prog 362 = some { sz := 1, bytes := 8, zero := [.nilFunc], k := .func, eg := false, fl := none, za := false } := by kernel_rfl
theorem sz362 : szOf Tryz.prog 362 = 1 := by kernel_rfl
theorem ti363 : tiOf Tryz.prog 363 = some { sz := 1, bytes := 8, zero := [.pointer none], k := .ptr 298, eg := false, fl := none, za := false } := by kernel_rfl
theorem sz363 : szOf Tryz.prog 363 = 1 := by kernel_rfl
theorem ti364 : tiOf Tryz.prog 364 = some { sz := 1, bytes := 8, zero := [.nilFunc], k := .func, eg := false, fl := none, za := false } := by kernel_rfl
theorem sz364 : szOf Tryz.prog 364 = 1 := by kernel_rfl
theorem ti371 : tiOf Tryz.prog 371 = some { sz := 1, bytes := 16, zero := [.nilIface], k := .iface false, eg := true, fl := none, za := false } := by kernel_rfl
theorem sz371 : szOf Tryz.prog 371 = 1 := by kernel_rfl
theorem ti373 : tiOf Tryz.prog 373 = some { sz := 1, bytes := 8, zero := [.nilFunc], k := .func, eg := false, fl := none, za := false } := by kernel_rfl
theorem sz373 : szOf Tryz.prog 373 = 1 := by kernel_rfl
theorem ti374 : tiOf Tryz.prog 374 = some { sz := 1, bytes := 16, zero := [.nilIface], k := .iface false, eg := true, fl := none, za := false } := by kernel_rfl
theorem sz374 : szOf Tryz.prog 374 = 1 := by kernel_rfl
theorem ti375 : tiOf Tryz.prog 375 = some { sz := 1, bytes := 8, zero := [.nilFunc], k := .func, eg := false, fl := none, za := false } := by kernel_rfl
theorem sz375 : szOf Tryz.prog 375 = 1 := by kernel_rfl
theorem ti376 : tiOf Tryz.prog 376 = some { sz := 1, bytes := 16, zero := [.nilIface], k := .iface false, eg := true, fl := none, za := false } := by kernel_rfl
theorem sz376 : szOf Tryz.prog 376 = 1 := by kernel_rfl
theorem ti377 : tiOf Tryz.prog 377 = some { sz := 1, bytes := 24, zero := [.slice none 0 0], k := .slc 165, eg := false, fl := none, za := false } := by kernel_rfl
theorem sz377 : szOf Tryz.prog 377 = 1 := by kernel_rfl
theorem ti378 : tiOf Tryz.prog 378 = some { sz := 1, bytes := 8, zero := [.nilFunc], k := .func, eg := false, fl := none, za := false } := by kernel_rfl
theorem sz378 : szOf Tryz.prog 378 = 1 := by kernel_rfl
theorem ti379 : tiOf Tryz.prog 379 = some { sz := 1, bytes := 8, zero := [.nilFunc], k := .func, eg := false, fl := none, za := false } := by kernel_rfl
theorem sz379 : szOf Tryz.prog 379 = 1 := by kernel_rfl
theorem ti380 : tiOf Tryz.prog 380 = some { sz := 1, bytes := 8, zero := [.nilFunc], k := .func, eg := false, fl := none, za := false } := by kernel_rfl
theorem sz380 : szOf Tryz.prog 380 = 1 := by kernel_rfl
theorem ti381 : tiOf Tryz.prog 381 = some { sz := 1, bytes := 8, zero := [.nilFunc], k := .func, eg := false, fl := none, za := false } := by kernel_rfl
theorem sz381 : szOf Tryz.prog 381 = 1 := by kernel_rfl
theorem ti382 : tiOf Tryz.prog 382 = some { sz := 1, bytes := 8, zero := [.nilFunc], k := .func, eg := false, fl := none, za := false } := by kernel_rfl
theorem sz382 : szOf Tryz.prog 382 = 1 := by kernel_rfl
theorem ti383 : tiOf Tryz.prog 383 = some { sz := 1, bytes := 8, zero := [.nilFunc], k := .func, eg := false, fl := none, za := false } := by kernel_rfl
theorem sz383 : szOf Tryz.prog 383 = 1 := by kernel_rfl
theorem ti384 : tiOf Tryz.prog 384 = some { sz := 1, bytes := 8, zero := [.int .u64 0], k := .int .u64, eg := false, fl := some [.int], za := false } := by kernel_rfl
theorem sz384 : szOf Tryz.prog 384 = 1 := by kernel_rfl
theorem ti385 : tiOf Tryz.prog 385 = some { sz := 1, bytes := 8, zero := [.nilFunc], k := .func, eg := false, fl := none, za := false } := by kernel_rfl
theorem sz385 : szOf Tryz.prog 385 = 1 := by kernel_rfl
theorem ti386 : tiOf Tryz.prog 386 = some { sz := 1, bytes := 8, zero := [.nilFunc], k := .func, eg := false, fl := none, za := false } := by kernel_rfl
theorem sz386 : szOf Tryz.prog 386 = 1 := by kernel_rfl
theorem ti387 : tiOf Tryz.prog 387 = some { sz := 1, bytes := 8, zero := [.nilFunc], k := .func, eg := false, fl := none, za := false } := by kernel_rfl
theorem sz387 : szOf Tryz.prog 387 = 1 := by kernel_rfl
theorem ti388 : tiOf Tryz.prog 388 = some { sz := 1, bytes := 8, zero := [.pointer none], k := .ptr 3, eg := false, fl := none, za := false } := by kernel_rfl
theorem sz388 : szOf Tryz.prog 388 = 1 := by kernel_rfl
theorem ti389 : tiOf Tryz.prog 389 = some { sz := 1, bytes := 8, zero := [.nilFunc], k := .func, eg := false, fl := none, za := false } := by kernel_rfl
theorem sz389 : szOf Tryz.prog 389 = 1 := by kernel_rfl
theorem ti390 : tiOf Tryz.prog 390 = some { sz := 1, bytes := 8, zero := [.int .i64 0], k := .strct [(0, 28, false)], eg := false, fl := some [.int], za := true } := by kernel_rfl
theorem sz390 : szOf Tryz.prog 390 = 1 := by kernel_rfl
theorem ti391 : tiOf Tryz.prog 391 = some { sz := 1, bytes := 8, zero := [.int .i64 0], k := .strct [(0, 28, false)], eg := false, fl := some [.int], za := true } := by kernel_rfl
theorem sz391 : szOf Tryz.prog 391 = 1 := by kernel_rfl
theorem ti392 : tiOf Tryz.prog 392 = some { sz := 1, bytes := 8, zero := [.nilFunc], k := .func, eg := false, fl := none, za := false } := by kernel_rfl
theorem sz392 : szOf Tryz.prog 392 = 1 := by kernel_rfl
theorem ti393 : tiOf Tryz.prog 393 = some { sz := 1, bytes := 8, zero := [.nilFunc], k := .func, eg := false, fl := none, za := false } := by kernel_rfl
theorem sz393 : szOf Tryz.prog 393 = 1 := by kernel_rfl
theorem ti394 : tiOf Tryz.prog 394 = some { sz := 1, bytes := 8, zero := [.nilFunc], k := .func, eg := false, fl := none, za := false } := by kernel_rfl
theorem sz394 : szOf Tryz.prog 394 = 1 := by kernel_rfl
theorem ti395 : tiOf Tryz.prog 395 = some { sz := 1, bytes := 8, zero := [.pointer none], k := .ptr 384, eg := false, fl := none, za := false } := by kernel_rfl
theorem sz395 : szOf Tryz.prog 395 = 1 := by kernel_rfl
theorem ti397 : tiOf Tryz.prog 397 = some { sz := 1, bytes := 8, zero := [.nilFunc], k := .func, eg := false, fl := none, za := false } := by kernel_rfl
theorem sz397 : szOf Tryz.prog 397 = 1 := by kernel_rfl
theorem ti398 : tiOf Tryz.prog 398 = some { sz := 1, bytes := 8, zero := [.nilFunc], k := .func, eg := false, fl := none, za := false } := by kernel_rfl
theorem sz398 : szOf Tryz.prog 398 = 1 := by kernel_rfl
theorem ti399 : tiOf Tryz.prog 399 = some { sz := 1, bytes := 8, zero := [.nilFunc], k := .func, eg := false, fl := none, za := false } := by kernel_rfl
theorem sz399 : szOf Tryz.prog 399 = 1 := by kernel_rfl
theorem ti400 : tiOf Tryz.prog 400 = some { sz := 1, bytes := 8, zero := [.nilFunc], k := .func, eg := false, fl := none, za := false } := by kernel_rfl
theorem sz400 : szOf Tryz.prog 400 = 1 := by kernel_rfl
theorem ti401 : tiOf Tryz.prog 401 = some { sz := 1, bytes := 8, zero := [.nilFunc], k := .func, eg := false, fl := none, za := false } := by kernel_rfl
theorem sz401 : szOf Tryz.prog 401 = 1 := by kernel_rfl
theorem ti403 : tiOf Tryz.prog 403 = some { sz := 1, bytes := 8, zero := [.nilFunc], k := .func, eg := false, fl := none, za := false } := by kernel_rfl
theorem sz403 : szOf Tryz.prog 403 = 1 := by kernel_rfl
theorem ti405 : tiOf Tryz.prog 405 = some { sz := 2, bytes := 2, zero := [.int .u8 0, .int .u8 0], k := .strct [(0, 5, false), (1, 5, false)], eg := false, fl := some [.int, .int], za := true } := by kernel_rfl
theorem sz405 : szOf Tryz.prog 405 = 2 := by kernel_rfl
theorem ti406 : tiOf Tryz.prog 406 = some { sz := 2, bytes := 2, zero := [.int .u8 0, .int .u8 0], k := .strct [(0, 5, false), (1, 5, false)], eg := false, fl := some [.int, .int], za := true } := by kernel_rfl
theorem sz406 : szOf Tryz.prog 406 = 2 := by kernel_rfl
theorem ti407 : tiOf Tryz.prog 407 = some { sz := 32, bytes := 32, zero := [.int .u8 0, .int .u8 0, .int .u8 0, .int .u8 0, .int .u8 0, .int .u8 0, .int .u8 0, .int .u8 0, .int .u8 0, .int .u8 0, .int .u8 0, .int .u8 0, .int .u8 0, .int .u8 0, .int .u8 0, .int .u8 0, .int .u8 0, .int .u8 0, .int .u8 0, .int .u8 0, .int .u8 0, .int .u8 0, .int .u8 0, .int .u8 0, .int .u8 0, .int .u8 0, .int .u8 0, .int .u8 0, .int .u8 0, .int .u8 0, .int .u8 0, .int .u8 0], k := .arr 16 406, eg := false, fl := some [.int, .int, .int, .int, .int, .int, .int, .int, .int, .int, .int, .int, .int, .int, .int, .int, .int, .int, .int, .int, .int, .int, .int, .int, .int, .int, .int, .int, .int, .int, .int, .int], za := true } := by kernel_rfl
theorem sz407 : szOf Tryz.prog 407 = 32 := by kernel_rfl
theorem ti408 : tiOf Tryz.prog 408 = some { sz := 1, bytes := 8, zero := [.nilFunc], k := .func, eg := false, fl := none, za := false } := by kernel_rfl
theorem sz408 : szOf Tryz.prog 408 = 1 := by kernel_rfl
theorem ti410 : tiOf Tryz.prog 410 = some { sz := 1, bytes := 8, zero := [.nilFunc], k := .func, eg := false, fl := none, za := false } := by kernel_rfl
theorem sz410 : szOf Tryz.prog 410 = 1 := by kernel_rfl
theorem ti411 : tiOf Tryz.prog 411 = some { sz := 1, bytes := 8, zero := [.nilFunc], k := .func, eg := false, fl := none, za := false } := by kernel_rfl
theorem sz411 : szOf Tryz.prog 411 = 1 := by kernel_rfl
theorem ti419 : tiOf Tryz.prog 419 = some { sz := 1, bytes := 8, zero := [.nilFunc], k := .func, eg := false, fl := none, za := false } := by kernel_rfl
theorem sz419 : szOf Tryz.prog 419 = 1 := by kernel_rfl
theorem ti420 : tiOf Tryz.prog 420 = some { sz := 1, bytes := 8, zero := [.pointer none], k := .ptr 5, eg := false, fl := none, za := false } := by kernel_rfl
theorem sz420 : szOf Tryz.prog 420 = 1 := by kernel_rfl
theorem ti425 : tiOf Tryz.prog 425 = some { sz := 1, bytes := 8, zero := [.nilFunc], k := .func, eg := false, fl := none, za := false } := by kernel_rfl
theorem sz425 : szOf Tryz.prog 425 = 1 := by kernel_rfl
theorem ti431 : tiOf Tryz.prog 431 = some { sz := 1, bytes := 2, zero := [.int .u16 0], k := .int .u16, eg := false, fl := some [.int], za := false } := by kernel_rfl
theorem sz431 : szOf Tryz.prog 431 = 1 := by kernel_rfl
theorem ti438 : tiOf Tryz.prog 438 = some { sz := 1, bytes := 8, zero := [.pointer none], k := .ptr 165, eg := false, fl := none, za := false } := by kernel_rfl
theorem sz438 : szOf Tryz.prog 438 = 1 := by kernel_rfl
theorem mi193 : miOf Tryz.prog 193 = some ⟨89, 4, true, [.int, .str], { sz := 1, bytes := 1, zero := [.bool false], k := .bool, eg := false, fl := some [.bool], za := false }⟩ := by kernel_rfl
theorem mi194 : miOf Tryz.prog 194 = some ⟨89, 4, true, [.int, .str], { sz := 1, bytes := 1, zero := [.bool false], k := .bool, eg := false, fl := some [.bool], za := false }⟩ := by kernel_rfl
theorem mi234 : miOf Tryz.prog 234 = some ⟨89, 85, true, [.int, .str], { sz := 7, bytes := 104, zero := [.int .i64 0, .string ⟨#[]⟩, .int .i64 0, .int .i64 0, .string ⟨#[]⟩, .slice none 0 0, .slice none 0 0], k := .strct [(0, 3, false), (1, 9, false), (2, 3, false), (3, 3, false), (4, 9, false), (5, 82, false), (6, 83, false)], eg := false, fl := none, za := true }⟩ := by kernel_rfl
theorem mi259 : miOf Tryz.prog 259 = some ⟨89, 27, true, [.int, .str], { sz := 1, bytes := 24, zero := [.slice none 0 0], k := .slc 89, eg := false, fl := none, za := false }⟩ := by kernel_rfl
theorem mi342 : miOf Tryz.prog 342 = some ⟨3, 4, false, [.int], { sz := 1, bytes := 1, zero := [.bool false], k := .bool, eg := false, fl := some [.bool], za := false }⟩ := by kernel_rfl
attribute [simp] ti1 sz1 ti2 sz2 ti3 sz3 ti4 sz4 ti5 sz5 ti9 sz9 ti12 sz12 ti20 sz20 ti21 sz21 ti22 sz22 ti23 sz23 ti24 sz24 ti25 sz25 ti26 sz26 ti27 sz27 ti28 sz28 ti29 sz29 ti30 sz30 ti31 sz31 ti32 sz32 ti33 sz33 ti34 sz34 ti35 sz35 ti36 sz36 ti37 sz37 ti38 sz38 ti39 sz39 ti40 sz40 ti41 sz41 ti42 sz42 ti43 sz43 ti44 sz44 ti45 sz45 ti46 sz46 ti47 sz47 ti48 sz48 ti49 sz49 ti50 sz50 ti51 sz51 ti53 sz53 ti54 sz54 ti55 sz55 ti56 sz56 ti57 sz57 ti58 sz58 ti59 sz59 ti60 sz60 ti61 sz61 ti62 sz62 ti64 sz64 ti65 sz65 ti66 sz66 ti68 sz68 ti69 sz69 ti71 sz71 ti72 sz72 ti73 sz73 ti74 sz74 ti75 sz75 ti76 sz76 ti77 sz77 ti78 sz78 ti79 sz79 ti81 sz81 ti82 sz82 ti83 sz83 ti84 sz84 ti85 sz85 ti87 sz87 ti88 sz88 ti89 sz89 ti90 sz90 ti91 sz91 ti92 sz92 ti93 sz93 ti94 sz94 ti95 sz95 ti96 sz96 ti97 sz97 ti98 sz98 ti99 sz99 ti100 sz100 ti101 sz101 ti102 sz102 ti103 sz103 ti105 sz105 ti106 sz106 ti107 sz107 ti108 sz108 ti110 sz110 ti112 sz112 ti113 sz113 ti114 sz114 ti115 sz115 ti117 sz117 ti118 sz118 ti119 sz119 ti120 sz120 ti121 sz121 ti122 sz122 ti123 sz123 ti124 sz124 ti125 sz125 ti126 sz126 ti127 sz127 ti128 sz128 ti129 sz129 ti130 sz130 ti131 sz131 ti133 sz133 ti134 sz134 ti135 sz135 ti137 sz137 ti139 sz139 ti140 sz140 ti141 sz141 ti142 sz142 ti143 sz143 ti144 sz144 ti145 sz145 ti146 sz146 ti147 sz147 ti148 sz148 ti149 sz149 ti150 sz150 ti151 sz151 ti153 sz153 ti155 sz155 ti156 sz156 ti157 sz157 ti158 sz158 ti159 sz159 ti160 sz160 ti162 sz162 ti163 sz163 ti164 sz164 ti165 sz165 ti167 sz167 ti169 sz169 ti170 sz170 ti171 sz171 ti172 sz172 ti173 sz173 ti174 sz174 ti175 sz175 ti176 sz176 ti177 sz177 ti178 sz178 ti179 sz179 ti181 sz181 ti182 sz182 ti184 sz184 ti186 sz186 ti188 sz188 ti189 sz189 ti190 sz190 ti192 sz192 ti193 sz193 ti194 sz194 ti195 sz195 ti196 sz196 ti197 sz197 ti198 sz198 ti199 sz199 ti200 sz200 ti201 sz201 ti202 sz202 ti203 sz203 ti204 sz204 ti205 sz205 ti206 sz206 ti207 sz207 ti208 sz208 ti209 sz209 ti210 sz210 ti211 sz211 ti212 sz212 ti213 sz213 ti214 sz214 ti215 sz215 ti216 sz216 ti217 sz217 ti218 sz218 ti219 sz219 ti220 sz220 ti221 sz221 ti223 sz223 ti225 sz225 ti226 sz226 ti227 sz227 ti228 sz228 ti229 sz229 ti230 sz230 ti231 sz231 ti232 sz232 ti233 sz233 ti234 sz234 ti235 sz235 ti236 sz236 ti237 sz237 ti238 sz238 ti239 sz239 ti240 sz240 ti241 sz241 ti242 sz242 ti243 sz243 ti244 sz244 ti245 sz245 ti246 sz246 ti247 sz247 ti248 sz248 ti249 sz249 ti251 sz251 ti253 sz253 ti254 sz254 ti255 sz255 ti256 sz256 ti257 sz257 ti258 sz258 ti259 sz259 ti260 sz260 ti261 sz261 ti262 sz262 ti263 sz263 ti264 sz264 ti265 sz265 ti266 sz266 ti267 sz267 ti269 sz269 ti271 sz271 ti272 sz272 ti273 sz273 ti274 sz274 ti275 sz275 ti276 sz276 ti277 sz277 ti278 sz278 ti279 sz279 ti280 sz280 ti281 sz281 ti282 sz282 ti283 sz283 ti284 sz284 ti285 sz285 ti286 sz286 ti287 sz287 ti288 sz288 ti289 sz289 ti290 sz290 ti291 sz291 ti292 sz292 ti293 sz293 ti294 sz294 ti295 sz295 ti296 sz296 ti297 sz297 ti298 sz298 ti300 sz300 ti301 sz301 ti302 sz302 ti303 sz303 ti304 sz304 ti305 sz305 ti306 sz306 ti307 sz307 ti308 sz308 ti309 sz309 ti322 sz322 ti323 sz323 ti324 sz324 ti325 sz325 ti326 sz326 ti327 sz327 ti328 sz328 ti329 sz329 ti330 sz330 ti331 sz331 ti332 sz332 ti333 sz333 ti334 sz334 ti335 sz335 ti336 sz336 ti337 sz337 ti338 sz338 ti339 sz339 ti340 sz340 ti341 sz341 ti342 sz342 ti343 sz343 ti344 sz344 ti345 sz345 ti347 sz347 ti348 sz348 ti349 sz349 ti351 sz351 ti352 sz352 ti353 sz353 ti354 sz354 ti355 sz355 ti356 sz356 ti357 sz357 ti358 sz358 ti359 sz359 ti360 sz360 ti361 sz361 ti362 sz362 ti363 sz363 ti364 sz364 ti371 sz371 ti373 sz373 ti374 sz374 ti375 sz375 ti376 sz376 ti377 sz377 ti378 sz378 ti379 sz379 ti380 sz380 ti381 sz381 ti382 sz382 ti383 sz383 ti384 sz384 ti385 sz385 ti386 sz386 ti387 sz387 ti388 sz388 ti389 sz389 ti390 sz390 ti391 sz391 ti392 sz392 ti393 sz393 ti394 sz394 ti395 sz395 ti397 sz397 ti398 sz398 ti399 sz399 ti400 sz400 ti401 sz401 ti403 sz403 ti405 sz405 ti406 sz406 ti407 sz407 ti408 sz408 ti410 sz410 ti411 sz411 ti419 sz419 ti420 sz420 ti425 sz425 ti431 sz431 ti438 sz438 mi193 mi194 mi234 mi259 mi342
end Go.Proofs.YtbmnaehodmgibaaGreatDoor
end
section
namespace Go.Proofs
open Go.Shelf
def Tryz.lays106_ren : Go.Shelf.Ren := ⟨fun | 106 => 293 | 213 => 328 | 265 => 337 | n => n, fun | 9 => 9 | 3 => 3 | n => n, fun | n => n⟩
theorem Tryz.lays106 : Go.Proofs.Lays.n106 Tryz.prog Tryz.lays106_ren := {
  mixed := by kernel_rfl
  f106 := Tryz.func293.trans (congrArg some (by kernel_rfl))
  f213 := Tryz.func328.trans (congrArg some (by kernel_rfl))
  f265 := Tryz.func337.trans (congrArg some (by kernel_rfl))
  t3 := Tryz.underlying3
  a3 := Tryz.isAgg3
  z3 := Tryz.sizeOf3
  v3 := Tryz.zeroValue3
  t9 := Tryz.underlying9
  a9 := Tryz.isAgg9
  z9 := Tryz.sizeOf9
  v9 := Tryz.zeroValue9 }
open Go.RowKit in
/-- strings.Compare: "Compare returns an integer comparing two strings lexicographically. The result will be 0 if a == b, -1 if a < b, and +1 if a > b.": IT RETURNS 'Lib.compareBytes a b'; the world is as it was. (LAID: no walk: one application.) -/
theorem Tryz.strings_Compare (a b : ByteArray) (w : World) :
    Calls Tryz.prog 293 #[.string a, .string b] w fun e w' => e = .returned (.int .i64 (Lib.compareBytes a.data.toList b.data.toList)) ∧ w' = w := Any.strings_Compare Tryz.lays106 a b w
def Tryz.lays143_ren : Go.Shelf.Ren := ⟨fun | 143 => 344 | 219 => 346 | 217 => 347 | 225 => 348 | 224 => 349 | 267 => 350 | 266 => 351 | 314 => 352 | n => n, fun | 9 => 9 | 3 => 3 | 4 => 4 | 5 => 5 | 46 => 289 | 146 => 409 | 51 => 353 | n => n, fun | 1 => 1 | n => n⟩
theorem Tryz.lays143 : Go.Proofs.Lays.n143 Tryz.prog Tryz.lays143_ren := {
  mixed := by kernel_rfl
  f143 := Tryz.func344.trans (congrArg some (by kernel_rfl))
  f217 := Tryz.func347.trans (congrArg some (by kernel_rfl))
  f219 := Tryz.func346.trans (congrArg some (by kernel_rfl))
  f224 := Tryz.func349.trans (congrArg some (by kernel_rfl))
  f225 := Tryz.func348.trans (congrArg some (by kernel_rfl))
  f266 := Tryz.func351.trans (congrArg some (by kernel_rfl))
  f267 := Tryz.func350.trans (congrArg some (by kernel_rfl))
  f314 := Tryz.func352.trans (congrArg some (by kernel_rfl))
  t3 := Tryz.underlying3
  a3 := Tryz.isAgg3
  z3 := Tryz.sizeOf3
  v3 := Tryz.zeroValue3
  t4 := Tryz.underlying4
  a4 := Tryz.isAgg4
  z4 := Tryz.sizeOf4
  v4 := Tryz.zeroValue4
  t5 := Tryz.underlying5
  a5 := Tryz.isAgg5
  z5 := Tryz.sizeOf5
  v5 := Tryz.zeroValue5
  t9 := Tryz.underlying9
  a9 := Tryz.isAgg9
  z9 := Tryz.sizeOf9
  v9 := Tryz.zeroValue9
  t46 := Tryz.underlying289
  a46 := Tryz.isAgg289
  z46 := Tryz.sizeOf289
  v46 := Tryz.zeroValue289
  t51 := Tryz.underlying353
  a51 := Tryz.isAgg353
  z51 := Tryz.sizeOf353
  v51 := Tryz.zeroValue353
  t146 := Tryz.underlying409
  a146 := Tryz.isAgg409
  z146 := Tryz.sizeOf409
  v146 := Tryz.zeroValue409
  g1 := by kernel_rfl }
open Go.RowKit Go.Lib in
/-- strings.Index: "Index returns the index of the first instance of substr in s, or -1 if substr is not present in s.": AT A substr OF ONE BYTE c: IT RETURNS 'Lib.indexByte s c'; the world is as it was. (LAID: no walk: one application.) -/
theorem Tryz.strings_Index_one (s : ByteArray) (c : UInt8) (w : World) :
    Calls Tryz.prog 344 #[.string s, .string ⟨#[c]⟩] w fun e w' => e = .returned (.int .i64 (Lib.indexByte s.data.toList c)) ∧ w' = w := Any.strings_Index_one Tryz.lays143 s c w
def Tryz.sortKeys_ren : Go.Shelf.Ren := ⟨fun | 6 => 169 | 15 => 224 | 14 => 223 | 28 => 290 | 29 => 291 | 20 => 282 | 21 => 283 | 22 => 284 | 23 => 285 | 24 => 286 | 25 => 287 | 26 => 288 | 27 => 289 | 46 => 323 | 47 => 324 | 48 => 325 | 49 => 326 | 50 => 327 | 57 => 336 | n => n, fun | 22 => 27 | 24 => 89 | 25 => 244 | 3 => 3 | 39 => 289 | 0 => 0 | 53 => 353 | 55 => 355 | 4 => 4 | 46 => 346 | 45 => 345 | 50 => 350 | 5 => 5 | 9 => 9 | 66 => 384 | 70 => 388 | 76 => 395 | 77 => 396 | n => n, fun | n => n⟩
theorem Tryz.sortKeys : Go.Proofs.SlLaysF0.n6 Tryz.prog Tryz.sortKeys_ren := {
  mixed := by kernel_rfl
  f6 := ⟨Tryz.f169.name, by decide, Tryz.func169.trans (congrArg some (by kernel_rfl))⟩
  f14 := ⟨Tryz.f223.name, by decide, Tryz.func223.trans (congrArg some (by kernel_rfl))⟩
  f15 := Tryz.func224.trans (congrArg some (by kernel_rfl))
  f20 := ⟨Tryz.f282.name, by decide, Tryz.func282.trans (congrArg some (by kernel_rfl))⟩
  f21 := ⟨Tryz.f283.name, by decide, Tryz.func283.trans (congrArg some (by kernel_rfl))⟩
  f22 := ⟨Tryz.f284.name, by decide, Tryz.func284.trans (congrArg some (by kernel_rfl))⟩
  f23 := ⟨Tryz.f285.name, by decide, Tryz.func285.trans (congrArg some (by kernel_rfl))⟩
  f24 := ⟨Tryz.f286.name, by decide, Tryz.func286.trans (congrArg some (by kernel_rfl))⟩
  f25 := ⟨Tryz.f287.name, by decide, Tryz.func287.trans (congrArg some (by kernel_rfl))⟩
  f26 := ⟨Tryz.f288.name, by decide, Tryz.func288.trans (congrArg some (by kernel_rfl))⟩
  f27 := ⟨Tryz.f289.name, by decide, Tryz.func289.trans (congrArg some (by kernel_rfl))⟩
  f28 := Tryz.func290.trans (congrArg some (by kernel_rfl))
  f29 := Tryz.func291.trans (congrArg some (by kernel_rfl))
  f46 := ⟨Tryz.f323.name, by decide, Tryz.func323.trans (congrArg some (by kernel_rfl))⟩
  f47 := Tryz.func324.trans (congrArg some (by kernel_rfl))
  f48 := Tryz.func325.trans (congrArg some (by kernel_rfl))
  f49 := ⟨Tryz.f326.name, by decide, Tryz.func326.trans (congrArg some (by kernel_rfl))⟩
  f50 := ⟨Tryz.f327.name, by decide, Tryz.func327.trans (congrArg some (by kernel_rfl))⟩
  f57 := ⟨Tryz.f336.name, by decide, Tryz.func336.trans (congrArg some (by kernel_rfl))⟩
  t0 := Tryz.underlying0
  a0 := Tryz.isAgg0
  z0 := Tryz.sizeOf0
  v0 := Tryz.zeroValue0
  t3 := Tryz.underlying3
  a3 := Tryz.isAgg3
  z3 := Tryz.sizeOf3
  v3 := Tryz.zeroValue3
  t4 := Tryz.underlying4
  a4 := Tryz.isAgg4
  z4 := Tryz.sizeOf4
  v4 := Tryz.zeroValue4
  t5 := Tryz.underlying5
  a5 := Tryz.isAgg5
  z5 := Tryz.sizeOf5
  v5 := Tryz.zeroValue5
  t9 := Tryz.underlying9
  a9 := Tryz.isAgg9
  z9 := Tryz.sizeOf9
  v9 := Tryz.zeroValue9
  t22 := Tryz.underlying27
  a22 := Tryz.isAgg27
  z22 := Tryz.sizeOf27
  v22 := Tryz.zeroValue27
  t25 := Tryz.underlying244
  a25 := Tryz.isAgg244
  z25 := Tryz.sizeOf244
  v25 := Tryz.zeroValue244
  t39 := Tryz.underlying289
  a39 := Tryz.isAgg289
  z39 := Tryz.sizeOf289
  v39 := Tryz.zeroValue289
  t45 := Tryz.underlying345
  a45 := Tryz.isAgg345
  z45 := Tryz.sizeOf345
  v45 := Tryz.zeroValue345
  t46 := Tryz.underlying346
  a46 := Tryz.isAgg346
  z46 := Tryz.sizeOf346
  v46 := Tryz.zeroValue346
  t50 := Tryz.underlying350
  a50 := Tryz.isAgg350
  z50 := Tryz.sizeOf350
  v50 := Tryz.zeroValue350
  t53 := Tryz.underlying353
  a53 := Tryz.isAgg353
  z53 := Tryz.sizeOf353
  v53 := Tryz.zeroValue353
  t55 := Tryz.underlying355
  a55 := Tryz.isAgg355
  z55 := Tryz.sizeOf355
  v55 := Tryz.zeroValue355
  t66 := Tryz.underlying384
  a66 := Tryz.isAgg384
  z66 := Tryz.sizeOf384
  v66 := Tryz.zeroValue384
  t70 := Tryz.underlying388
  a70 := Tryz.isAgg388
  z70 := Tryz.sizeOf388
  v70 := Tryz.zeroValue388
  t76 := Tryz.underlying395
  a76 := Tryz.isAgg395
  z76 := Tryz.sizeOf395
  v76 := Tryz.zeroValue395
  t77 := Tryz.underlying396
  a77 := Tryz.isAgg396
  z77 := Tryz.sizeOf396
  v77 := Tryz.zeroValue396 }
end Go.Proofs
end
