/-
  Facts about the types of this program, and the library's contracts laid at it.
-/
import Derived.Test.YtnmocaniljacpaaGreatDoorFc
import Derived.Test.YtnmocaniljacpaaGreatDoorProg
import Derived.Shelf.Small.Strs
import Derived.Shelf.Strings.Search1
import Derived.Shelf.Strings.Search2
import Derived.Shelf.Strings.Search3
import Derived.Shelf.SlSortCmp.NoneTotal
import Derived.Ground.SlsfProg
set_option linter.unusedSimpArgs false
set_option linter.unusedVariables false
section
namespace Go.Proofs.YtnmocaniljacpaaGreatDoor
open Go.AI
theorem ti1 : tiOf Tryz.prog 1 = some { sz := 1, bytes := 8, zero := [.nilFunc], k := .func, eg := false, fl := none, za := false } := by kernel_rfl
theorem sz1 : szOf Tryz.prog 1 = 1 := by kernel_rfl
theorem ti2 : tiOf Tryz.prog 2 = some { sz := 1, bytes := 8, zero := [.int .i64 0], k := .int .i64, eg := false, fl := some [.int], za := false } := by kernel_rfl
theorem sz2 : szOf Tryz.prog 2 = 1 := by kernel_rfl
theorem ti3 : tiOf Tryz.prog 3 = some { sz := 1, bytes := 8, zero := [.int .i64 0], k := .int .i64, eg := false, fl := some [.int], za := false } := by kernel_rfl
theorem sz3 : szOf Tryz.prog 3 = 1 := by kernel_rfl
theorem ti4 : tiOf Tryz.prog 4 = some { sz := 1, bytes := 1, zero := [.bool false], k := .bool, eg := false, fl := some [.bool], za := false } := by kernel_rfl
theorem sz4 : szOf Tryz.prog 4 = 1 := by kernel_rfl
theorem ti5 : tiOf Tryz.prog 5 = some { sz := 1, bytes := 1, zero := [.int .u8 0], k := .int .u8, eg := false, fl := some [.int], za := false } := by kernel_rfl
theorem sz5 : szOf Tryz.prog 5 = 1 := by kernel_rfl
theorem ti9 : tiOf Tryz.prog 9 = some { sz := 1, bytes := 16, zero := [.string ⟨#[]⟩], k := .str, eg := false, fl := some [.str], za := false } := by kernel_rfl
theorem sz9 : szOf Tryz.prog 9 = 1 := by kernel_rfl
theorem ti12 : tiOf Tryz.prog 12 = some { sz := 1, bytes := 8, zero := [.int .u64 0], k := .int .u64, eg := false, fl := some [.int], za := false } := by kernel_rfl
theorem sz12 : szOf Tryz.prog 12 = 1 := by kernel_rfl
theorem ti20 : tiOf Tryz.prog 20 = some { sz := 1, bytes := 16, zero := [.nilIface], k := .iface true, eg := false, fl := none, za := false } := by kernel_rfl
theorem sz20 : szOf Tryz.prog 20 = 1 := by kernel_rfl
theorem ti21 : tiOf Tryz.prog 21 = some { sz := 1, bytes := 4, zero := [.int .i32 0], k := .int .i32, eg := false, fl := some [.int], za := false } := by kernel_rfl
theorem sz21 : szOf Tryz.prog 21 = 1 := by kernel_rfl
theorem ti22 : tiOf Tryz.prog 22 = some { sz := 1, bytes := 24, zero := [.slice none 0 0], k := .slc 29, eg := false, fl := none, za := false } := by kernel_rfl
theorem sz22 : szOf Tryz.prog 22 = 1 := by kernel_rfl
theorem ti23 : tiOf Tryz.prog 23 = some { sz := 2, bytes := 32, zero := [.int .i64 0, .slice none 0 0], k := .strct [(0, 3, false), (1, 22, false)], eg := false, fl := none, za := true } := by kernel_rfl
theorem sz23 : szOf Tryz.prog 23 = 2 := by kernel_rfl
theorem ti24 : tiOf Tryz.prog 24 = some { sz := 2, bytes := 32, zero := [.int .i64 0, .slice none 0 0], k := .strct [(0, 3, false), (1, 22, false)], eg := false, fl := none, za := true } := by kernel_rfl
theorem sz24 : szOf Tryz.prog 24 = 2 := by kernel_rfl
theorem ti25 : tiOf Tryz.prog 25 = some { sz := 1, bytes := 24, zero := [.slice none 0 0], k := .slc 47, eg := false, fl := none, za := false } := by kernel_rfl
theorem sz25 : szOf Tryz.prog 25 = 1 := by kernel_rfl
theorem ti26 : tiOf Tryz.prog 26 = some { sz := 1, bytes := 8, zero := [.nilFunc], k := .func, eg := false, fl := none, za := false } := by kernel_rfl
theorem sz26 : szOf Tryz.prog 26 = 1 := by kernel_rfl
theorem ti27 : tiOf Tryz.prog 27 = some { sz := 1, bytes := 8, zero := [.nilFunc], k := .func, eg := false, fl := none, za := false } := by kernel_rfl
theorem sz27 : szOf Tryz.prog 27 = 1 := by kernel_rfl
theorem ti28 : tiOf Tryz.prog 28 = some { sz := 2, bytes := 32, zero := [.int .i64 0, .slice none 0 0], k := .strct [(0, 3, false), (1, 22, false)], eg := false, fl := none, za := true } := by kernel_rfl
theorem sz28 : szOf Tryz.prog 28 = 2 := by kernel_rfl
theorem ti29 : tiOf Tryz.prog 29 = some { sz := 1, bytes := 24, zero := [.slice none 0 0], k := .slc 51, eg := false, fl := none, za := false } := by kernel_rfl
theorem sz29 : szOf Tryz.prog 29 = 1 := by kernel_rfl
theorem ti31 : tiOf Tryz.prog 31 = some { sz := 1, bytes := 8, zero := [.nilFunc], k := .func, eg := false, fl := none, za := false } := by kernel_rfl
theorem sz31 : szOf Tryz.prog 31 = 1 := by kernel_rfl
theorem ti32 : tiOf Tryz.prog 32 = some { sz := 1, bytes := 8, zero := [.nilFunc], k := .func, eg := false, fl := none, za := false } := by kernel_rfl
theorem sz32 : szOf Tryz.prog 32 = 1 := by kernel_rfl
theorem ti33 : tiOf Tryz.prog 33 = some { sz := 1, bytes := 8, zero := [.nilFunc], k := .func, eg := false, fl := none, za := false } := by kernel_rfl
theorem sz33 : szOf Tryz.prog 33 = 1 := by kernel_rfl
theorem ti34 : tiOf Tryz.prog 34 = some { sz := 1, bytes := 8, zero := [.nilFunc], k := .func, eg := false, fl := none, za := false } := by kernel_rfl
theorem sz34 : szOf Tryz.prog 34 = 1 := by kernel_rfl
theorem ti35 : tiOf Tryz.prog 35 = some { sz := 1, bytes := 24, zero := [.slice none 0 0], k := .slc 92, eg := false, fl := none, za := false } := by kernel_rfl
theorem sz35 : szOf Tryz.prog 35 = 1 := by kernel_rfl
theorem ti36 : tiOf Tryz.prog 36 = some { sz := 1, bytes := 8, zero := [.nilFunc], k := .func, eg := false, fl := none, za := false } := by kernel_rfl
theorem sz36 : szOf Tryz.prog 36 = 1 := by kernel_rfl
theorem ti37 : tiOf Tryz.prog 37 = some { sz := 1, bytes := 24, zero := [.slice none 0 0], k := .slc 45, eg := false, fl := none, za := false } := by kernel_rfl
theorem sz37 : szOf Tryz.prog 37 = 1 := by kernel_rfl
theorem ti38 : tiOf Tryz.prog 38 = some { sz := 1, bytes := 8, zero := [.int .i64 0], k := .int .i64, eg := false, fl := some [.int], za := false } := by kernel_rfl
theorem sz38 : szOf Tryz.prog 38 = 1 := by kernel_rfl
theorem ti39 : tiOf Tryz.prog 39 = some { sz := 10, bytes := 144, zero := [.int .i64 0, .int .i64 0, .int .i64 0, .int .i64 0, .int .i64 0, .slice none 0 0, .slice none 0 0, .int .i64 0, .slice none 0 0, .slice none 0 0], k := .strct [(0, 3, false), (1, 3, false), (2, 3, false), (3, 3, false), (4, 3, false), (5, 29, false), (6, 37, false), (7, 38, false), (8, 35, false), (9, 37, false)], eg := false, fl := none, za := true } := by kernel_rfl
theorem sz39 : szOf Tryz.prog 39 = 10 := by kernel_rfl
theorem ti40 : tiOf Tryz.prog 40 = some { sz := 10, bytes := 144, zero := [.int .i64 0, .int .i64 0, .int .i64 0, .int .i64 0, .int .i64 0, .slice none 0 0, .slice none 0 0, .int .i64 0, .slice none 0 0, .slice none 0 0], k := .strct [(0, 3, false), (1, 3, false), (2, 3, false), (3, 3, false), (4, 3, false), (5, 29, false), (6, 37, false), (7, 38, false), (8, 35, false), (9, 37, false)], eg := false, fl := none, za := true } := by kernel_rfl
theorem sz40 : szOf Tryz.prog 40 = 10 := by kernel_rfl
theorem ti41 : tiOf Tryz.prog 41 = some { sz := 1, bytes := 8, zero := [.nilFunc], k := .func, eg := false, fl := none, za := false } := by kernel_rfl
theorem sz41 : szOf Tryz.prog 41 = 1 := by kernel_rfl
theorem ti42 : tiOf Tryz.prog 42 = some { sz := 10, bytes := 144, zero := [.int .i64 0, .int .i64 0, .int .i64 0, .int .i64 0, .int .i64 0, .slice none 0 0, .slice none 0 0, .int .i64 0, .slice none 0 0, .slice none 0 0], k := .strct [(0, 3, false), (1, 3, false), (2, 3, false), (3, 3, false), (4, 3, false), (5, 29, false), (6, 37, false), (7, 38, false), (8, 25, false), (9, 37, false)], eg := false, fl := none, za := true } := by kernel_rfl
theorem sz42 : szOf Tryz.prog 42 = 10 := by kernel_rfl
theorem ti43 : tiOf Tryz.prog 43 = some { sz := 10, bytes := 144, zero := [.int .i64 0, .int .i64 0, .int .i64 0, .int .i64 0, .int .i64 0, .slice none 0 0, .slice none 0 0, .int .i64 0, .slice none 0 0, .slice none 0 0], k := .strct [(0, 3, false), (1, 3, false), (2, 3, false), (3, 3, false), (4, 3, false), (5, 29, false), (6, 37, false), (7, 38, false), (8, 25, false), (9, 37, false)], eg := false, fl := none, za := true } := by kernel_rfl
theorem sz43 : szOf Tryz.prog 43 = 10 := by kernel_rfl
theorem ti44 : tiOf Tryz.prog 44 = some { sz := 2, bytes := 24, zero := [.int .i64 0, .string ⟨#[]⟩], k := .strct [(0, 3, false), (1, 9, false)], eg := false, fl := some [.int, .str], za := true } := by kernel_rfl
theorem sz44 : szOf Tryz.prog 44 = 2 := by kernel_rfl
theorem ti45 : tiOf Tryz.prog 45 = some { sz := 2, bytes := 24, zero := [.int .i64 0, .string ⟨#[]⟩], k := .strct [(0, 3, false), (1, 9, false)], eg := false, fl := some [.int, .str], za := true } := by kernel_rfl
theorem sz45 : szOf Tryz.prog 45 = 2 := by kernel_rfl
theorem ti46 : tiOf Tryz.prog 46 = some { sz := 3, bytes := 32, zero := [.int .i64 0, .string ⟨#[]⟩, .int .i64 0], k := .strct [(0, 45, false), (2, 3, false)], eg := false, fl := some [.int, .str, .int], za := true } := by kernel_rfl
theorem sz46 : szOf Tryz.prog 46 = 3 := by kernel_rfl
theorem ti47 : tiOf Tryz.prog 47 = some { sz := 3, bytes := 32, zero := [.int .i64 0, .string ⟨#[]⟩, .int .i64 0], k := .strct [(0, 45, false), (2, 3, false)], eg := false, fl := some [.int, .str, .int], za := true } := by kernel_rfl
theorem sz47 : szOf Tryz.prog 47 = 3 := by kernel_rfl
theorem ti48 : tiOf Tryz.prog 48 = some { sz := 1, bytes := 24, zero := [.slice none 0 0], k := .slc 115, eg := false, fl := none, za := false } := by kernel_rfl
theorem sz48 : szOf Tryz.prog 48 = 1 := by kernel_rfl
theorem ti49 : tiOf Tryz.prog 49 = some { sz := 1, bytes := 24, zero := [.slice none 0 0], k := .slc 3, eg := false, fl := none, za := false } := by kernel_rfl
theorem sz49 : szOf Tryz.prog 49 = 1 := by kernel_rfl
theorem ti50 : tiOf Tryz.prog 50 = some { sz := 7, bytes := 104, zero := [.int .i64 0, .string ⟨#[]⟩, .int .i64 0, .int .i64 0, .string ⟨#[]⟩, .slice none 0 0, .slice none 0 0], k := .strct [(0, 3, false), (1, 9, false), (2, 3, false), (3, 3, false), (4, 9, false), (5, 48, false), (6, 49, false)], eg := false, fl := none, za := true } := by kernel_rfl
theorem sz50 : szOf Tryz.prog 50 = 7 := by kernel_rfl
theorem ti51 : tiOf Tryz.prog 51 = some { sz := 7, bytes := 104, zero := [.int .i64 0, .string ⟨#[]⟩, .int .i64 0, .int .i64 0, .string ⟨#[]⟩, .slice none 0 0, .slice none 0 0], k := .strct [(0, 3, false), (1, 9, false), (2, 3, false), (3, 3, false), (4, 9, false), (5, 48, false), (6, 49, false)], eg := false, fl := none, za := true } := by kernel_rfl
theorem sz51 : szOf Tryz.prog 51 = 7 := by kernel_rfl
theorem ti53 : tiOf Tryz.prog 53 = some { sz := 1, bytes := 8, zero := [.nilFunc], k := .func, eg := false, fl := none, za := false } := by kernel_rfl
theorem sz53 : szOf Tryz.prog 53 = 1 := by kernel_rfl
theorem ti54 : tiOf Tryz.prog 54 = some { sz := 1, bytes := 8, zero := [.nilFunc], k := .func, eg := false, fl := none, za := false } := by kernel_rfl
theorem sz54 : szOf Tryz.prog 54 = 1 := by kernel_rfl
theorem ti55 : tiOf Tryz.prog 55 = some { sz := 1, bytes := 24, zero := [.slice none 0 0], k := .slc 59, eg := false, fl := none, za := false } := by kernel_rfl
theorem sz55 : szOf Tryz.prog 55 = 1 := by kernel_rfl
theorem ti56 : tiOf Tryz.prog 56 = some { sz := 1, bytes := 8, zero := [.nilFunc], k := .func, eg := false, fl := none, za := false } := by kernel_rfl
theorem sz56 : szOf Tryz.prog 56 = 1 := by kernel_rfl
theorem ti57 : tiOf Tryz.prog 57 = some { sz := 1, bytes := 8, zero := [.nilFunc], k := .func, eg := false, fl := none, za := false } := by kernel_rfl
theorem sz57 : szOf Tryz.prog 57 = 1 := by kernel_rfl
theorem ti58 : tiOf Tryz.prog 58 = some { sz := 2, bytes := 48, zero := [.slice none 0 0, .slice none 0 0], k := .strct [(0, 29, false), (1, 37, false)], eg := false, fl := none, za := true } := by kernel_rfl
theorem sz58 : szOf Tryz.prog 58 = 2 := by kernel_rfl
theorem ti59 : tiOf Tryz.prog 59 = some { sz := 2, bytes := 48, zero := [.slice none 0 0, .slice none 0 0], k := .strct [(0, 29, false), (1, 37, false)], eg := false, fl := none, za := true } := by kernel_rfl
theorem sz59 : szOf Tryz.prog 59 = 2 := by kernel_rfl
theorem ti61 : tiOf Tryz.prog 61 = some { sz := 1, bytes := 8, zero := [.nilFunc], k := .func, eg := false, fl := none, za := false } := by kernel_rfl
theorem sz61 : szOf Tryz.prog 61 = 1 := by kernel_rfl
theorem ti63 : tiOf Tryz.prog 63 = some { sz := 1, bytes := 8, zero := [.nilFunc], k := .func, eg := false, fl := none, za := false } := by kernel_rfl
theorem sz63 : szOf Tryz.prog 63 = 1 := by kernel_rfl
theorem ti64 : tiOf Tryz.prog 64 = some { sz := 1, bytes := 8, zero := [.nilFunc], k := .func, eg := false, fl := none, za := false } := by kernel_rfl
theorem sz64 : szOf Tryz.prog 64 = 1 := by kernel_rfl
theorem ti65 : tiOf Tryz.prog 65 = some { sz := 1, bytes := 8, zero := [.nilFunc], k := .func, eg := false, fl := none, za := false } := by kernel_rfl
theorem sz65 : szOf Tryz.prog 65 = 1 := by kernel_rfl
theorem ti66 : tiOf Tryz.prog 66 = some { sz := 1, bytes := 8, zero := [.nilFunc], k := .func, eg := false, fl := none, za := false } := by kernel_rfl
theorem sz66 : szOf Tryz.prog 66 = 1 := by kernel_rfl
theorem ti67 : tiOf Tryz.prog 67 = some { sz := 1, bytes := 8, zero := [.nilFunc], k := .func, eg := false, fl := none, za := false } := by kernel_rfl
theorem sz67 : szOf Tryz.prog 67 = 1 := by kernel_rfl
theorem ti68 : tiOf Tryz.prog 68 = some { sz := 1, bytes := 8, zero := [.nilFunc], k := .func, eg := false, fl := none, za := false } := by kernel_rfl
theorem sz68 : szOf Tryz.prog 68 = 1 := by kernel_rfl
theorem ti69 : tiOf Tryz.prog 69 = some { sz := 1, bytes := 8, zero := [.nilFunc], k := .func, eg := false, fl := none, za := false } := by kernel_rfl
theorem sz69 : szOf Tryz.prog 69 = 1 := by kernel_rfl
theorem ti70 : tiOf Tryz.prog 70 = some { sz := 1, bytes := 8, zero := [.nilFunc], k := .func, eg := false, fl := none, za := false } := by kernel_rfl
theorem sz70 : szOf Tryz.prog 70 = 1 := by kernel_rfl
theorem ti71 : tiOf Tryz.prog 71 = some { sz := 1, bytes := 8, zero := [.nilFunc], k := .func, eg := false, fl := none, za := false } := by kernel_rfl
theorem sz71 : szOf Tryz.prog 71 = 1 := by kernel_rfl
theorem ti72 : tiOf Tryz.prog 72 = some { sz := 1, bytes := 8, zero := [.nilFunc], k := .func, eg := false, fl := none, za := false } := by kernel_rfl
theorem sz72 : szOf Tryz.prog 72 = 1 := by kernel_rfl
theorem ti73 : tiOf Tryz.prog 73 = some { sz := 1, bytes := 8, zero := [.nilFunc], k := .func, eg := false, fl := none, za := false } := by kernel_rfl
theorem sz73 : szOf Tryz.prog 73 = 1 := by kernel_rfl
theorem ti74 : tiOf Tryz.prog 74 = some { sz := 1, bytes := 8, zero := [.nilFunc], k := .func, eg := false, fl := none, za := false } := by kernel_rfl
theorem sz74 : szOf Tryz.prog 74 = 1 := by kernel_rfl
theorem ti75 : tiOf Tryz.prog 75 = some { sz := 14, bytes := 208, zero := [.slice none 0 0, .slice none 0 0, .int .i64 0, .int .i64 0, .int .i64 0, .int .i64 0, .int .i64 0, .int .i64 0, .slice none 0 0, .slice none 0 0, .int .i64 0, .slice none 0 0, .slice none 0 0, .bool false], k := .strct [(0, 29, false), (1, 37, false), (2, 3, false), (3, 40, false), (13, 4, false)], eg := false, fl := none, za := true } := by kernel_rfl
theorem sz75 : szOf Tryz.prog 75 = 14 := by kernel_rfl
theorem ti76 : tiOf Tryz.prog 76 = some { sz := 14, bytes := 208, zero := [.slice none 0 0, .slice none 0 0, .int .i64 0, .int .i64 0, .int .i64 0, .int .i64 0, .int .i64 0, .int .i64 0, .slice none 0 0, .slice none 0 0, .int .i64 0, .slice none 0 0, .slice none 0 0, .bool false], k := .strct [(0, 29, false), (1, 37, false), (2, 3, false), (3, 40, false), (13, 4, false)], eg := false, fl := none, za := true } := by kernel_rfl
theorem sz76 : szOf Tryz.prog 76 = 14 := by kernel_rfl
theorem ti77 : tiOf Tryz.prog 77 = some { sz := 1, bytes := 8, zero := [.nilFunc], k := .func, eg := false, fl := none, za := false } := by kernel_rfl
theorem sz77 : szOf Tryz.prog 77 = 1 := by kernel_rfl
theorem ti79 : tiOf Tryz.prog 79 = some { sz := 1, bytes := 8, zero := [.nilFunc], k := .func, eg := false, fl := none, za := false } := by kernel_rfl
theorem sz79 : szOf Tryz.prog 79 = 1 := by kernel_rfl
theorem ti80 : tiOf Tryz.prog 80 = some { sz := 1, bytes := 8, zero := [.nilFunc], k := .func, eg := false, fl := none, za := false } := by kernel_rfl
theorem sz80 : szOf Tryz.prog 80 = 1 := by kernel_rfl
theorem ti81 : tiOf Tryz.prog 81 = some { sz := 1, bytes := 8, zero := [.nilFunc], k := .func, eg := false, fl := none, za := false } := by kernel_rfl
theorem sz81 : szOf Tryz.prog 81 = 1 := by kernel_rfl
theorem ti82 : tiOf Tryz.prog 82 = some { sz := 1, bytes := 8, zero := [.nilFunc], k := .func, eg := false, fl := none, za := false } := by kernel_rfl
theorem sz82 : szOf Tryz.prog 82 = 1 := by kernel_rfl
theorem ti83 : tiOf Tryz.prog 83 = some { sz := 1, bytes := 16, zero := [.nilIface], k := .iface false, eg := true, fl := none, za := false } := by kernel_rfl
theorem sz83 : szOf Tryz.prog 83 = 1 := by kernel_rfl
theorem ti84 : tiOf Tryz.prog 84 = some { sz := 1, bytes := 16, zero := [.nilIface], k := .iface false, eg := true, fl := none, za := false } := by kernel_rfl
theorem sz84 : szOf Tryz.prog 84 = 1 := by kernel_rfl
theorem ti86 : tiOf Tryz.prog 86 = some { sz := 1, bytes := 8, zero := [.nilFunc], k := .func, eg := false, fl := none, za := false } := by kernel_rfl
theorem sz86 : szOf Tryz.prog 86 = 1 := by kernel_rfl
theorem ti88 : tiOf Tryz.prog 88 = some { sz := 1, bytes := 8, zero := [.nilFunc], k := .func, eg := false, fl := none, za := false } := by kernel_rfl
theorem sz88 : szOf Tryz.prog 88 = 1 := by kernel_rfl
theorem ti89 : tiOf Tryz.prog 89 = some { sz := 1, bytes := 8, zero := [.nilFunc], k := .func, eg := false, fl := none, za := false } := by kernel_rfl
theorem sz89 : szOf Tryz.prog 89 = 1 := by kernel_rfl
theorem ti90 : tiOf Tryz.prog 90 = some { sz := 1, bytes := 8, zero := [.nilFunc], k := .func, eg := false, fl := none, za := false } := by kernel_rfl
theorem sz90 : szOf Tryz.prog 90 = 1 := by kernel_rfl
theorem ti91 : tiOf Tryz.prog 91 = some { sz := 1, bytes := 8, zero := [.nilFunc], k := .func, eg := false, fl := none, za := false } := by kernel_rfl
theorem sz91 : szOf Tryz.prog 91 = 1 := by kernel_rfl
theorem ti92 : tiOf Tryz.prog 92 = some { sz := 3, bytes := 32, zero := [.int .i64 0, .string ⟨#[]⟩, .int .i64 0], k := .strct [(0, 45, false), (2, 3, false)], eg := false, fl := some [.int, .str, .int], za := true } := by kernel_rfl
theorem sz92 : szOf Tryz.prog 92 = 3 := by kernel_rfl
theorem ti93 : tiOf Tryz.prog 93 = some { sz := 1, bytes := 8, zero := [.nilFunc], k := .func, eg := false, fl := none, za := false } := by kernel_rfl
theorem sz93 : szOf Tryz.prog 93 = 1 := by kernel_rfl
theorem ti94 : tiOf Tryz.prog 94 = some { sz := 1, bytes := 8, zero := [.nilFunc], k := .func, eg := false, fl := none, za := false } := by kernel_rfl
theorem sz94 : szOf Tryz.prog 94 = 1 := by kernel_rfl
theorem ti95 : tiOf Tryz.prog 95 = some { sz := 1, bytes := 8, zero := [.nilFunc], k := .func, eg := false, fl := none, za := false } := by kernel_rfl
theorem sz95 : szOf Tryz.prog 95 = 1 := by kernel_rfl
theorem ti96 : tiOf Tryz.prog 96 = some { sz := 1, bytes := 8, zero := [.nilFunc], k := .func, eg := false, fl := none, za := false } := by kernel_rfl
theorem sz96 : szOf Tryz.prog 96 = 1 := by kernel_rfl
theorem ti97 : tiOf Tryz.prog 97 = some { sz := 1, bytes := 8, zero := [.nilFunc], k := .func, eg := false, fl := none, za := false } := by kernel_rfl
theorem sz97 : szOf Tryz.prog 97 = 1 := by kernel_rfl
theorem ti98 : tiOf Tryz.prog 98 = some { sz := 1, bytes := 8, zero := [.nilFunc], k := .func, eg := false, fl := none, za := false } := by kernel_rfl
theorem sz98 : szOf Tryz.prog 98 = 1 := by kernel_rfl
theorem ti99 : tiOf Tryz.prog 99 = some { sz := 1, bytes := 8, zero := [.nilFunc], k := .func, eg := false, fl := none, za := false } := by kernel_rfl
theorem sz99 : szOf Tryz.prog 99 = 1 := by kernel_rfl
theorem ti100 : tiOf Tryz.prog 100 = some { sz := 1, bytes := 8, zero := [.map none], k := .map 3 4, eg := false, fl := none, za := false } := by kernel_rfl
theorem sz100 : szOf Tryz.prog 100 = 1 := by kernel_rfl
theorem ti101 : tiOf Tryz.prog 101 = some { sz := 1, bytes := 8, zero := [.nilFunc], k := .func, eg := false, fl := none, za := false } := by kernel_rfl
theorem sz101 : szOf Tryz.prog 101 = 1 := by kernel_rfl
theorem ti102 : tiOf Tryz.prog 102 = some { sz := 1, bytes := 8, zero := [.map none], k := .map 45 4, eg := false, fl := none, za := false } := by kernel_rfl
theorem sz102 : szOf Tryz.prog 102 = 1 := by kernel_rfl
theorem ti103 : tiOf Tryz.prog 103 = some { sz := 1, bytes := 8, zero := [.map none], k := .map 45 4, eg := false, fl := none, za := false } := by kernel_rfl
theorem sz103 : szOf Tryz.prog 103 = 1 := by kernel_rfl
theorem ti104 : tiOf Tryz.prog 104 = some { sz := 1, bytes := 8, zero := [.nilFunc], k := .func, eg := false, fl := none, za := false } := by kernel_rfl
theorem sz104 : szOf Tryz.prog 104 = 1 := by kernel_rfl
theorem ti105 : tiOf Tryz.prog 105 = some { sz := 1, bytes := 8, zero := [.nilFunc], k := .func, eg := false, fl := none, za := false } := by kernel_rfl
theorem sz105 : szOf Tryz.prog 105 = 1 := by kernel_rfl
theorem ti106 : tiOf Tryz.prog 106 = some { sz := 1, bytes := 8, zero := [.nilFunc], k := .func, eg := false, fl := none, za := false } := by kernel_rfl
theorem sz106 : szOf Tryz.prog 106 = 1 := by kernel_rfl
theorem ti107 : tiOf Tryz.prog 107 = some { sz := 1, bytes := 8, zero := [.nilFunc], k := .func, eg := false, fl := none, za := false } := by kernel_rfl
theorem sz107 : szOf Tryz.prog 107 = 1 := by kernel_rfl
theorem ti108 : tiOf Tryz.prog 108 = some { sz := 1, bytes := 8, zero := [.nilFunc], k := .func, eg := false, fl := none, za := false } := by kernel_rfl
theorem sz108 : szOf Tryz.prog 108 = 1 := by kernel_rfl
theorem ti109 : tiOf Tryz.prog 109 = some { sz := 1, bytes := 8, zero := [.nilFunc], k := .func, eg := false, fl := none, za := false } := by kernel_rfl
theorem sz109 : szOf Tryz.prog 109 = 1 := by kernel_rfl
theorem ti110 : tiOf Tryz.prog 110 = some { sz := 1, bytes := 8, zero := [.nilFunc], k := .func, eg := false, fl := none, za := false } := by kernel_rfl
theorem sz110 : szOf Tryz.prog 110 = 1 := by kernel_rfl
theorem ti111 : tiOf Tryz.prog 111 = some { sz := 1, bytes := 8, zero := [.nilFunc], k := .func, eg := false, fl := none, za := false } := by kernel_rfl
theorem sz111 : szOf Tryz.prog 111 = 1 := by kernel_rfl
theorem ti112 : tiOf Tryz.prog 112 = some { sz := 1, bytes := 8, zero := [.nilFunc], k := .func, eg := false, fl := none, za := false } := by kernel_rfl
theorem sz112 : szOf Tryz.prog 112 = 1 := by kernel_rfl
theorem ti113 : tiOf Tryz.prog 113 = some { sz := 1, bytes := 24, zero := [.slice none 0 0], k := .slc 118, eg := false, fl := none, za := false } := by kernel_rfl
theorem sz113 : szOf Tryz.prog 113 = 1 := by kernel_rfl
theorem ti114 : tiOf Tryz.prog 114 = some { sz := 3, bytes := 56, zero := [.string ⟨#[]⟩, .string ⟨#[]⟩, .slice none 0 0], k := .strct [(0, 9, false), (1, 9, false), (2, 113, false)], eg := false, fl := none, za := true } := by kernel_rfl
theorem sz114 : szOf Tryz.prog 114 = 3 := by kernel_rfl
theorem ti115 : tiOf Tryz.prog 115 = some { sz := 3, bytes := 56, zero := [.string ⟨#[]⟩, .string ⟨#[]⟩, .slice none 0 0], k := .strct [(0, 9, false), (1, 9, false), (2, 113, false)], eg := false, fl := none, za := true } := by kernel_rfl
theorem sz115 : szOf Tryz.prog 115 = 3 := by kernel_rfl
theorem ti116 : tiOf Tryz.prog 116 = some { sz := 1, bytes := 8, zero := [.nilFunc], k := .func, eg := false, fl := none, za := false } := by kernel_rfl
theorem sz116 : szOf Tryz.prog 116 = 1 := by kernel_rfl
theorem ti117 : tiOf Tryz.prog 117 = some { sz := 2, bytes := 24, zero := [.string ⟨#[]⟩, .int .i64 0], k := .strct [(0, 9, false), (1, 3, false)], eg := false, fl := some [.str, .int], za := true } := by kernel_rfl
theorem sz117 : szOf Tryz.prog 117 = 2 := by kernel_rfl
theorem ti118 : tiOf Tryz.prog 118 = some { sz := 2, bytes := 24, zero := [.string ⟨#[]⟩, .int .i64 0], k := .strct [(0, 9, false), (1, 3, false)], eg := false, fl := some [.str, .int], za := true } := by kernel_rfl
theorem sz118 : szOf Tryz.prog 118 = 2 := by kernel_rfl
theorem ti119 : tiOf Tryz.prog 119 = some { sz := 1, bytes := 8, zero := [.nilFunc], k := .func, eg := false, fl := none, za := false } := by kernel_rfl
theorem sz119 : szOf Tryz.prog 119 = 1 := by kernel_rfl
theorem ti120 : tiOf Tryz.prog 120 = some { sz := 1, bytes := 8, zero := [.nilFunc], k := .func, eg := false, fl := none, za := false } := by kernel_rfl
theorem sz120 : szOf Tryz.prog 120 = 1 := by kernel_rfl
theorem ti121 : tiOf Tryz.prog 121 = some { sz := 1, bytes := 8, zero := [.nilFunc], k := .func, eg := false, fl := none, za := false } := by kernel_rfl
theorem sz121 : szOf Tryz.prog 121 = 1 := by kernel_rfl
theorem ti122 : tiOf Tryz.prog 122 = some { sz := 1, bytes := 8, zero := [.nilFunc], k := .func, eg := false, fl := none, za := false } := by kernel_rfl
theorem sz122 : szOf Tryz.prog 122 = 1 := by kernel_rfl
theorem ti124 : tiOf Tryz.prog 124 = some { sz := 1, bytes := 8, zero := [.nilFunc], k := .func, eg := false, fl := none, za := false } := by kernel_rfl
theorem sz124 : szOf Tryz.prog 124 = 1 := by kernel_rfl
theorem ti125 : tiOf Tryz.prog 125 = some { sz := 3, bytes := 24, zero := [.int .i64 0, .int .i64 0, .int .i64 0], k := .strct [(0, 3, false), (1, 3, false), (2, 3, false)], eg := false, fl := some [.int, .int, .int], za := true } := by kernel_rfl
theorem sz125 : szOf Tryz.prog 125 = 3 := by kernel_rfl
theorem ti126 : tiOf Tryz.prog 126 = some { sz := 3, bytes := 24, zero := [.int .i64 0, .int .i64 0, .int .i64 0], k := .strct [(0, 3, false), (1, 3, false), (2, 3, false)], eg := false, fl := some [.int, .int, .int], za := true } := by kernel_rfl
theorem sz126 : szOf Tryz.prog 126 = 3 := by kernel_rfl
theorem ti127 : tiOf Tryz.prog 127 = some { sz := 1, bytes := 8, zero := [.nilFunc], k := .func, eg := false, fl := none, za := false } := by kernel_rfl
theorem sz127 : szOf Tryz.prog 127 = 1 := by kernel_rfl
theorem ti128 : tiOf Tryz.prog 128 = some { sz := 1, bytes := 8, zero := [.nilFunc], k := .func, eg := false, fl := none, za := false } := by kernel_rfl
theorem sz128 : szOf Tryz.prog 128 = 1 := by kernel_rfl
theorem ti129 : tiOf Tryz.prog 129 = some { sz := 1, bytes := 8, zero := [.nilFunc], k := .func, eg := false, fl := none, za := false } := by kernel_rfl
theorem sz129 : szOf Tryz.prog 129 = 1 := by kernel_rfl
theorem ti130 : tiOf Tryz.prog 130 = some { sz := 1, bytes := 8, zero := [.nilFunc], k := .func, eg := false, fl := none, za := false } := by kernel_rfl
theorem sz130 : szOf Tryz.prog 130 = 1 := by kernel_rfl
theorem ti131 : tiOf Tryz.prog 131 = some { sz := 1, bytes := 8, zero := [.nilFunc], k := .func, eg := false, fl := none, za := false } := by kernel_rfl
theorem sz131 : szOf Tryz.prog 131 = 1 := by kernel_rfl
theorem ti132 : tiOf Tryz.prog 132 = some { sz := 1, bytes := 8, zero := [.nilFunc], k := .func, eg := false, fl := none, za := false } := by kernel_rfl
theorem sz132 : szOf Tryz.prog 132 = 1 := by kernel_rfl
theorem ti133 : tiOf Tryz.prog 133 = some { sz := 1, bytes := 8, zero := [.nilFunc], k := .func, eg := false, fl := none, za := false } := by kernel_rfl
theorem sz133 : szOf Tryz.prog 133 = 1 := by kernel_rfl
theorem ti134 : tiOf Tryz.prog 134 = some { sz := 1, bytes := 8, zero := [.map none], k := .map 45 51, eg := false, fl := none, za := false } := by kernel_rfl
theorem sz134 : szOf Tryz.prog 134 = 1 := by kernel_rfl
theorem ti135 : tiOf Tryz.prog 135 = some { sz := 1, bytes := 8, zero := [.nilFunc], k := .func, eg := false, fl := none, za := false } := by kernel_rfl
theorem sz135 : szOf Tryz.prog 135 = 1 := by kernel_rfl
theorem ti136 : tiOf Tryz.prog 136 = some { sz := 1, bytes := 8, zero := [.nilFunc], k := .func, eg := false, fl := none, za := false } := by kernel_rfl
theorem sz136 : szOf Tryz.prog 136 = 1 := by kernel_rfl
theorem ti137 : tiOf Tryz.prog 137 = some { sz := 1, bytes := 8, zero := [.nilFunc], k := .func, eg := false, fl := none, za := false } := by kernel_rfl
theorem sz137 : szOf Tryz.prog 137 = 1 := by kernel_rfl
theorem ti138 : tiOf Tryz.prog 138 = some { sz := 1, bytes := 8, zero := [.nilFunc], k := .func, eg := false, fl := none, za := false } := by kernel_rfl
theorem sz138 : szOf Tryz.prog 138 = 1 := by kernel_rfl
theorem ti139 : tiOf Tryz.prog 139 = some { sz := 1, bytes := 8, zero := [.nilFunc], k := .func, eg := false, fl := none, za := false } := by kernel_rfl
theorem sz139 : szOf Tryz.prog 139 = 1 := by kernel_rfl
theorem ti140 : tiOf Tryz.prog 140 = some { sz := 1, bytes := 8, zero := [.pointer none], k := .ptr 144, eg := false, fl := none, za := false } := by kernel_rfl
theorem sz140 : szOf Tryz.prog 140 = 1 := by kernel_rfl
theorem ti141 : tiOf Tryz.prog 141 = some { sz := 1, bytes := 8, zero := [.nilFunc], k := .func, eg := false, fl := none, za := false } := by kernel_rfl
theorem sz141 : szOf Tryz.prog 141 = 1 := by kernel_rfl
theorem ti142 : tiOf Tryz.prog 142 = some { sz := 1, bytes := 8, zero := [.pointer none], k := .ptr 140, eg := false, fl := none, za := false } := by kernel_rfl
theorem sz142 : szOf Tryz.prog 142 = 1 := by kernel_rfl
theorem ti143 : tiOf Tryz.prog 143 = some { sz := 2, bytes := 16, zero := [.int .i64 0, .int .i64 0], k := .strct [(0, 38, false), (1, 3, false)], eg := false, fl := some [.int, .int], za := true } := by kernel_rfl
theorem sz143 : szOf Tryz.prog 143 = 2 := by kernel_rfl
theorem ti144 : tiOf Tryz.prog 144 = some { sz := 2, bytes := 16, zero := [.int .i64 0, .int .i64 0], k := .strct [(0, 38, false), (1, 3, false)], eg := false, fl := some [.int, .int], za := true } := by kernel_rfl
theorem sz144 : szOf Tryz.prog 144 = 2 := by kernel_rfl
theorem ti145 : tiOf Tryz.prog 145 = some { sz := 1, bytes := 8, zero := [.nilFunc], k := .func, eg := false, fl := none, za := false } := by kernel_rfl
theorem sz145 : szOf Tryz.prog 145 = 1 := by kernel_rfl
theorem ti146 : tiOf Tryz.prog 146 = some { sz := 1, bytes := 8, zero := [.nilFunc], k := .func, eg := false, fl := none, za := false } := by kernel_rfl
theorem sz146 : szOf Tryz.prog 146 = 1 := by kernel_rfl
theorem ti147 : tiOf Tryz.prog 147 = some { sz := 1, bytes := 8, zero := [.nilFunc], k := .func, eg := false, fl := none, za := false } := by kernel_rfl
theorem sz147 : szOf Tryz.prog 147 = 1 := by kernel_rfl
theorem ti148 : tiOf Tryz.prog 148 = some { sz := 1, bytes := 8, zero := [.nilFunc], k := .func, eg := false, fl := none, za := false } := by kernel_rfl
theorem sz148 : szOf Tryz.prog 148 = 1 := by kernel_rfl
theorem ti149 : tiOf Tryz.prog 149 = some { sz := 1, bytes := 8, zero := [.nilFunc], k := .func, eg := false, fl := none, za := false } := by kernel_rfl
theorem sz149 : szOf Tryz.prog 149 = 1 := by kernel_rfl
theorem ti150 : tiOf Tryz.prog 150 = some { sz := 1, bytes := 8, zero := [.nilFunc], k := .func, eg := false, fl := none, za := false } := by kernel_rfl
theorem sz150 : szOf Tryz.prog 150 = 1 := by kernel_rfl
theorem ti151 : tiOf Tryz.prog 151 = some { sz := 1, bytes := 8, zero := [.nilFunc], k := .func, eg := false, fl := none, za := false } := by kernel_rfl
theorem sz151 : szOf Tryz.prog 151 = 1 := by kernel_rfl
theorem ti152 : tiOf Tryz.prog 152 = some { sz := 1, bytes := 8, zero := [.int .u64 0], k := .int .u64, eg := false, fl := some [.int], za := false } := by kernel_rfl
theorem sz152 : szOf Tryz.prog 152 = 1 := by kernel_rfl
theorem ti153 : tiOf Tryz.prog 153 = some { sz := 1, bytes := 8, zero := [.nilFunc], k := .func, eg := false, fl := none, za := false } := by kernel_rfl
theorem sz153 : szOf Tryz.prog 153 = 1 := by kernel_rfl
theorem ti154 : tiOf Tryz.prog 154 = some { sz := 1, bytes := 8, zero := [.nilFunc], k := .func, eg := false, fl := none, za := false } := by kernel_rfl
theorem sz154 : szOf Tryz.prog 154 = 1 := by kernel_rfl
theorem ti155 : tiOf Tryz.prog 155 = some { sz := 1, bytes := 8, zero := [.nilFunc], k := .func, eg := false, fl := none, za := false } := by kernel_rfl
theorem sz155 : szOf Tryz.prog 155 = 1 := by kernel_rfl
theorem ti156 : tiOf Tryz.prog 156 = some { sz := 1, bytes := 8, zero := [.nilFunc], k := .func, eg := false, fl := none, za := false } := by kernel_rfl
theorem sz156 : szOf Tryz.prog 156 = 1 := by kernel_rfl
theorem ti157 : tiOf Tryz.prog 157 = some { sz := 1, bytes := 8, zero := [.nilFunc], k := .func, eg := false, fl := none, za := false } := by kernel_rfl
theorem sz157 : szOf Tryz.prog 157 = 1 := by kernel_rfl
theorem ti158 : tiOf Tryz.prog 158 = some { sz := 1, bytes := 8, zero := [.nilFunc], k := .func, eg := false, fl := none, za := false } := by kernel_rfl
theorem sz158 : szOf Tryz.prog 158 = 1 := by kernel_rfl
theorem ti159 : tiOf Tryz.prog 159 = some { sz := 1, bytes := 8, zero := [.nilFunc], k := .func, eg := false, fl := none, za := false } := by kernel_rfl
theorem sz159 : szOf Tryz.prog 159 = 1 := by kernel_rfl
theorem ti160 : tiOf Tryz.prog 160 = some { sz := 1, bytes := 8, zero := [.nilFunc], k := .func, eg := false, fl := none, za := false } := by kernel_rfl
theorem sz160 : szOf Tryz.prog 160 = 1 := by kernel_rfl
theorem ti173 : tiOf Tryz.prog 173 = some { sz := 1, bytes := 8, zero := [.nilFunc], k := .func, eg := false, fl := none, za := false } := by kernel_rfl
theorem sz173 : szOf Tryz.prog 173 = 1 := by kernel_rfl
theorem ti174 : tiOf Tryz.prog 174 = some { sz := 1, bytes := 8, zero := [.nilFunc], k := .func, eg := false, fl := none, za := false } := by kernel_rfl
theorem sz174 : szOf Tryz.prog 174 = 1 := by kernel_rfl
theorem ti175 : tiOf Tryz.prog 175 = some { sz := 1, bytes := 8, zero := [.nilFunc], k := .func, eg := false, fl := none, za := false } := by kernel_rfl
theorem sz175 : szOf Tryz.prog 175 = 1 := by kernel_rfl
theorem ti176 : tiOf Tryz.prog 176 = some { sz := 4, bytes := 4, zero := [.bool false, .bool false, .bool false, .bool false], k := .strct [(0, 4, false), (1, 4, false), (2, 4, false), (3, 4, false)], eg := false, fl := some [.bool, .bool, .bool, .bool], za := true } := by kernel_rfl
theorem sz176 : szOf Tryz.prog 176 = 4 := by kernel_rfl
theorem ti177 : tiOf Tryz.prog 177 = some { sz := 4, bytes := 4, zero := [.bool false, .bool false, .bool false, .bool false], k := .strct [(0, 4, false), (1, 4, false), (2, 4, false), (3, 4, false)], eg := false, fl := some [.bool, .bool, .bool, .bool], za := true } := by kernel_rfl
theorem sz177 : szOf Tryz.prog 177 = 4 := by kernel_rfl
theorem ti178 : tiOf Tryz.prog 178 = some { sz := 1, bytes := 8, zero := [.nilFunc], k := .func, eg := false, fl := none, za := false } := by kernel_rfl
theorem sz178 : szOf Tryz.prog 178 = 1 := by kernel_rfl
theorem ti179 : tiOf Tryz.prog 179 = some { sz := 1, bytes := 8, zero := [.nilFunc], k := .func, eg := false, fl := none, za := false } := by kernel_rfl
theorem sz179 : szOf Tryz.prog 179 = 1 := by kernel_rfl
theorem ti180 : tiOf Tryz.prog 180 = some { sz := 1, bytes := 8, zero := [.nilFunc], k := .func, eg := false, fl := none, za := false } := by kernel_rfl
theorem sz180 : szOf Tryz.prog 180 = 1 := by kernel_rfl
theorem ti181 : tiOf Tryz.prog 181 = some { sz := 1, bytes := 8, zero := [.nilFunc], k := .func, eg := false, fl := none, za := false } := by kernel_rfl
theorem sz181 : szOf Tryz.prog 181 = 1 := by kernel_rfl
theorem ti182 : tiOf Tryz.prog 182 = some { sz := 1, bytes := 8, zero := [.nilFunc], k := .func, eg := false, fl := none, za := false } := by kernel_rfl
theorem sz182 : szOf Tryz.prog 182 = 1 := by kernel_rfl
theorem ti183 : tiOf Tryz.prog 183 = some { sz := 1, bytes := 8, zero := [.nilFunc], k := .func, eg := false, fl := none, za := false } := by kernel_rfl
theorem sz183 : szOf Tryz.prog 183 = 1 := by kernel_rfl
theorem ti184 : tiOf Tryz.prog 184 = some { sz := 1, bytes := 8, zero := [.nilFunc], k := .func, eg := false, fl := none, za := false } := by kernel_rfl
theorem sz184 : szOf Tryz.prog 184 = 1 := by kernel_rfl
theorem ti185 : tiOf Tryz.prog 185 = some { sz := 1, bytes := 8, zero := [.int .i64 0], k := .int .i64, eg := false, fl := some [.int], za := false } := by kernel_rfl
theorem sz185 : szOf Tryz.prog 185 = 1 := by kernel_rfl
theorem ti187 : tiOf Tryz.prog 187 = some { sz := 1, bytes := 8, zero := [.nilFunc], k := .func, eg := false, fl := none, za := false } := by kernel_rfl
theorem sz187 : szOf Tryz.prog 187 = 1 := by kernel_rfl
theorem ti188 : tiOf Tryz.prog 188 = some { sz := 1, bytes := 8, zero := [.nilFunc], k := .func, eg := false, fl := none, za := false } := by kernel_rfl
theorem sz188 : szOf Tryz.prog 188 = 1 := by kernel_rfl
theorem ti189 : tiOf Tryz.prog 189 = some { sz := 1, bytes := 8, zero := [.nilFunc], k := .func, eg := false, fl := none, za := false } := by kernel_rfl
theorem sz189 : szOf Tryz.prog 189 = 1 := by kernel_rfl
theorem ti191 : tiOf Tryz.prog 191 = some { sz := 1, bytes := 8, zero := [.nilFunc], k := .func, eg := false, fl := none, za := false } := by kernel_rfl
theorem sz191 : szOf Tryz.prog 191 = 1 := by kernel_rfl
theorem ti192 : tiOf Tryz.prog 192 = some { sz := 1, bytes := 8, zero := [.nilFunc], k := .func, eg := false, fl := none, za := false } := by kernel_rfl
theorem sz192 : szOf Tryz.prog 192 = 1 := by kernel_rfl
theorem ti193 : tiOf Tryz.prog 193 = some { sz := 1, bytes := 4, zero := [.int .u32 0], k := .int .u32, eg := false, fl := some [.int], za := false } := by kernel_rfl
theorem sz193 : szOf Tryz.prog 193 = 1 := by kernel_rfl
theorem ti194 : tiOf Tryz.prog 194 = some { sz := 1, bytes := 8, zero := [.nilFunc], k := .func, eg := false, fl := none, za := false } := by kernel_rfl
theorem sz194 : szOf Tryz.prog 194 = 1 := by kernel_rfl
theorem ti195 : tiOf Tryz.prog 195 = some { sz := 1, bytes := 8, zero := [.int .u64 0], k := .int .u64, eg := false, fl := some [.int], za := false } := by kernel_rfl
theorem sz195 : szOf Tryz.prog 195 = 1 := by kernel_rfl
theorem ti196 : tiOf Tryz.prog 196 = some { sz := 1, bytes := 8, zero := [.map none], k := .map 45 37, eg := false, fl := none, za := false } := by kernel_rfl
theorem sz196 : szOf Tryz.prog 196 = 1 := by kernel_rfl
theorem ti197 : tiOf Tryz.prog 197 = some { sz := 1, bytes := 8, zero := [.nilFunc], k := .func, eg := false, fl := none, za := false } := by kernel_rfl
theorem sz197 : szOf Tryz.prog 197 = 1 := by kernel_rfl
theorem ti198 : tiOf Tryz.prog 198 = some { sz := 1, bytes := 8, zero := [.nilFunc], k := .func, eg := false, fl := none, za := false } := by kernel_rfl
theorem sz198 : szOf Tryz.prog 198 = 1 := by kernel_rfl
theorem ti199 : tiOf Tryz.prog 199 = some { sz := 1, bytes := 8, zero := [.nilFunc], k := .func, eg := false, fl := none, za := false } := by kernel_rfl
theorem sz199 : szOf Tryz.prog 199 = 1 := by kernel_rfl
theorem ti206 : tiOf Tryz.prog 206 = some { sz := 1, bytes := 16, zero := [.nilIface], k := .iface false, eg := true, fl := none, za := false } := by kernel_rfl
theorem sz206 : szOf Tryz.prog 206 = 1 := by kernel_rfl
theorem ti208 : tiOf Tryz.prog 208 = some { sz := 1, bytes := 8, zero := [.nilFunc], k := .func, eg := false, fl := none, za := false } := by kernel_rfl
theorem sz208 : szOf Tryz.prog 208 = 1 := by kernel_rfl
theorem ti209 : tiOf Tryz.prog 209 = some { sz := 1, bytes := 16, zero := [.nilIface], k := .iface false, eg := true, fl := none, za := false } := by kernel_rfl
theorem sz209 : szOf Tryz.prog 209 = 1 := by kernel_rfl
theorem ti210 : tiOf Tryz.prog 210 = some { sz := 1, bytes := 8, zero := [.nilFunc], k := .func, eg := false, fl := none, za := false } := by kernel_rfl
theorem sz210 : szOf Tryz.prog 210 = 1 := by kernel_rfl
theorem ti211 : tiOf Tryz.prog 211 = some { sz := 1, bytes := 16, zero := [.nilIface], k := .iface false, eg := true, fl := none, za := false } := by kernel_rfl
theorem sz211 : szOf Tryz.prog 211 = 1 := by kernel_rfl
theorem ti212 : tiOf Tryz.prog 212 = some { sz := 1, bytes := 24, zero := [.slice none 0 0], k := .slc 84, eg := false, fl := none, za := false } := by kernel_rfl
theorem sz212 : szOf Tryz.prog 212 = 1 := by kernel_rfl
theorem ti213 : tiOf Tryz.prog 213 = some { sz := 1, bytes := 8, zero := [.nilFunc], k := .func, eg := false, fl := none, za := false } := by kernel_rfl
theorem sz213 : szOf Tryz.prog 213 = 1 := by kernel_rfl
theorem ti214 : tiOf Tryz.prog 214 = some { sz := 1, bytes := 8, zero := [.nilFunc], k := .func, eg := false, fl := none, za := false } := by kernel_rfl
theorem sz214 : szOf Tryz.prog 214 = 1 := by kernel_rfl
theorem ti215 : tiOf Tryz.prog 215 = some { sz := 1, bytes := 8, zero := [.nilFunc], k := .func, eg := false, fl := none, za := false } := by kernel_rfl
theorem sz215 : szOf Tryz.prog 215 = 1 := by kernel_rfl
theorem ti216 : tiOf Tryz.prog 216 = some { sz := 1, bytes := 8, zero := [.nilFunc], k := .func, eg := false, fl := none, za := false } := by kernel_rfl
theorem sz216 : szOf Tryz.prog 216 = 1 := by kernel_rfl
theorem ti217 : tiOf Tryz.prog 217 = some { sz := 1, bytes := 8, zero := [.int .u64 0], k := .int .u64, eg := false, fl := some [.int], za := false } := by kernel_rfl
theorem sz217 : szOf Tryz.prog 217 = 1 := by kernel_rfl
theorem ti218 : tiOf Tryz.prog 218 = some { sz := 1, bytes := 8, zero := [.nilFunc], k := .func, eg := false, fl := none, za := false } := by kernel_rfl
theorem sz218 : szOf Tryz.prog 218 = 1 := by kernel_rfl
theorem ti219 : tiOf Tryz.prog 219 = some { sz := 1, bytes := 8, zero := [.nilFunc], k := .func, eg := false, fl := none, za := false } := by kernel_rfl
theorem sz219 : szOf Tryz.prog 219 = 1 := by kernel_rfl
theorem ti220 : tiOf Tryz.prog 220 = some { sz := 1, bytes := 8, zero := [.nilFunc], k := .func, eg := false, fl := none, za := false } := by kernel_rfl
theorem sz220 : szOf Tryz.prog 220 = 1 := by kernel_rfl
theorem ti221 : tiOf Tryz.prog 221 = some { sz := 1, bytes := 8, zero := [.pointer none], k := .ptr 3, eg := false, fl := none, za := false } := by kernel_rfl
theorem sz221 : szOf Tryz.prog 221 = 1 := by kernel_rfl
theorem ti222 : tiOf Tryz.prog 222 = some { sz := 1, bytes := 8, zero := [.nilFunc], k := .func, eg := false, fl := none, za := false } := by kernel_rfl
theorem sz222 : szOf Tryz.prog 222 = 1 := by kernel_rfl
theorem ti223 : tiOf Tryz.prog 223 = some { sz := 1, bytes := 8, zero := [.nilFunc], k := .func, eg := false, fl := none, za := false } := by kernel_rfl
theorem sz223 : szOf Tryz.prog 223 = 1 := by kernel_rfl
theorem ti224 : tiOf Tryz.prog 224 = some { sz := 1, bytes := 8, zero := [.nilFunc], k := .func, eg := false, fl := none, za := false } := by kernel_rfl
theorem sz224 : szOf Tryz.prog 224 = 1 := by kernel_rfl
theorem ti225 : tiOf Tryz.prog 225 = some { sz := 1, bytes := 8, zero := [.nilFunc], k := .func, eg := false, fl := none, za := false } := by kernel_rfl
theorem sz225 : szOf Tryz.prog 225 = 1 := by kernel_rfl
theorem ti226 : tiOf Tryz.prog 226 = some { sz := 1, bytes := 8, zero := [.nilFunc], k := .func, eg := false, fl := none, za := false } := by kernel_rfl
theorem sz226 : szOf Tryz.prog 226 = 1 := by kernel_rfl
theorem ti227 : tiOf Tryz.prog 227 = some { sz := 1, bytes := 8, zero := [.nilFunc], k := .func, eg := false, fl := none, za := false } := by kernel_rfl
theorem sz227 : szOf Tryz.prog 227 = 1 := by kernel_rfl
theorem ti228 : tiOf Tryz.prog 228 = some { sz := 1, bytes := 8, zero := [.pointer none], k := .ptr 217, eg := false, fl := none, za := false } := by kernel_rfl
theorem sz228 : szOf Tryz.prog 228 = 1 := by kernel_rfl
theorem ti230 : tiOf Tryz.prog 230 = some { sz := 1, bytes := 8, zero := [.nilFunc], k := .func, eg := false, fl := none, za := false } := by kernel_rfl
theorem sz230 : szOf Tryz.prog 230 = 1 := by kernel_rfl
theorem ti231 : tiOf Tryz.prog 231 = some { sz := 1, bytes := 8, zero := [.nilFunc], k := .func, eg := false, fl := none, za := false } := by kernel_rfl
theorem sz231 : szOf Tryz.prog 231 = 1 := by kernel_rfl
theorem ti232 : tiOf Tryz.prog 232 = some { sz := 1, bytes := 8, zero := [.nilFunc], k := .func, eg := false, fl := none, za := false } := by kernel_rfl
theorem sz232 : szOf Tryz.prog 232 = 1 := by kernel_rfl
theorem ti233 : tiOf Tryz.prog 233 = some { sz := 1, bytes := 8, zero := [.nilFunc], k := .func, eg := false, fl := none, za := false } := by kernel_rfl
theorem sz233 : szOf Tryz.prog 233 = 1 := by kernel_rfl
theorem ti234 : tiOf Tryz.prog 234 = some { sz := 1, bytes := 8, zero := [.nilFunc], k := .func, eg := false, fl := none, za := false } := by kernel_rfl
theorem sz234 : szOf Tryz.prog 234 = 1 := by kernel_rfl
theorem ti235 : tiOf Tryz.prog 235 = some { sz := 1, bytes := 8, zero := [.nilFunc], k := .func, eg := false, fl := none, za := false } := by kernel_rfl
theorem sz235 : szOf Tryz.prog 235 = 1 := by kernel_rfl
theorem ti237 : tiOf Tryz.prog 237 = some { sz := 1, bytes := 8, zero := [.nilFunc], k := .func, eg := false, fl := none, za := false } := by kernel_rfl
theorem sz237 : szOf Tryz.prog 237 = 1 := by kernel_rfl
theorem ti239 : tiOf Tryz.prog 239 = some { sz := 2, bytes := 2, zero := [.int .u8 0, .int .u8 0], k := .strct [(0, 5, false), (1, 5, false)], eg := false, fl := some [.int, .int], za := true } := by kernel_rfl
theorem sz239 : szOf Tryz.prog 239 = 2 := by kernel_rfl
theorem ti240 : tiOf Tryz.prog 240 = some { sz := 2, bytes := 2, zero := [.int .u8 0, .int .u8 0], k := .strct [(0, 5, false), (1, 5, false)], eg := false, fl := some [.int, .int], za := true } := by kernel_rfl
theorem sz240 : szOf Tryz.prog 240 = 2 := by kernel_rfl
theorem ti241 : tiOf Tryz.prog 241 = some { sz := 32, bytes := 32, zero := [.int .u8 0, .int .u8 0, .int .u8 0, .int .u8 0, .int .u8 0, .int .u8 0, .int .u8 0, .int .u8 0, .int .u8 0, .int .u8 0, .int .u8 0, .int .u8 0, .int .u8 0, .int .u8 0, .int .u8 0, .int .u8 0, .int .u8 0, .int .u8 0, .int .u8 0, .int .u8 0, .int .u8 0, .int .u8 0, .int .u8 0, .int .u8 0, .int .u8 0, .int .u8 0, .int .u8 0, .int .u8 0, .int .u8 0, .int .u8 0, .int .u8 0, .int .u8 0], k := .arr 16 240, eg := false, fl := some [.int, .int, .int, .int, .int, .int, .int, .int, .int, .int, .int, .int, .int, .int, .int, .int, .int, .int, .int, .int, .int, .int, .int, .int, .int, .int, .int, .int, .int, .int, .int, .int], za := true } := by kernel_rfl
theorem sz241 : szOf Tryz.prog 241 = 32 := by kernel_rfl
theorem ti242 : tiOf Tryz.prog 242 = some { sz := 1, bytes := 8, zero := [.nilFunc], k := .func, eg := false, fl := none, za := false } := by kernel_rfl
theorem sz242 : szOf Tryz.prog 242 = 1 := by kernel_rfl
theorem ti244 : tiOf Tryz.prog 244 = some { sz := 1, bytes := 8, zero := [.nilFunc], k := .func, eg := false, fl := none, za := false } := by kernel_rfl
theorem sz244 : szOf Tryz.prog 244 = 1 := by kernel_rfl
theorem ti245 : tiOf Tryz.prog 245 = some { sz := 1, bytes := 8, zero := [.nilFunc], k := .func, eg := false, fl := none, za := false } := by kernel_rfl
theorem sz245 : szOf Tryz.prog 245 = 1 := by kernel_rfl
theorem ti251 : tiOf Tryz.prog 251 = some { sz := 1, bytes := 8, zero := [.nilFunc], k := .func, eg := false, fl := none, za := false } := by kernel_rfl
theorem sz251 : szOf Tryz.prog 251 = 1 := by kernel_rfl
theorem ti254 : tiOf Tryz.prog 254 = some { sz := 1, bytes := 8, zero := [.nilFunc], k := .func, eg := false, fl := none, za := false } := by kernel_rfl
theorem sz254 : szOf Tryz.prog 254 = 1 := by kernel_rfl
theorem ti255 : tiOf Tryz.prog 255 = some { sz := 1, bytes := 8, zero := [.pointer none], k := .ptr 5, eg := false, fl := none, za := false } := by kernel_rfl
theorem sz255 : szOf Tryz.prog 255 = 1 := by kernel_rfl
theorem ti260 : tiOf Tryz.prog 260 = some { sz := 1, bytes := 8, zero := [.nilFunc], k := .func, eg := false, fl := none, za := false } := by kernel_rfl
theorem sz260 : szOf Tryz.prog 260 = 1 := by kernel_rfl
theorem ti266 : tiOf Tryz.prog 266 = some { sz := 1, bytes := 2, zero := [.int .u16 0], k := .int .u16, eg := false, fl := some [.int], za := false } := by kernel_rfl
theorem sz266 : szOf Tryz.prog 266 = 1 := by kernel_rfl
theorem ti273 : tiOf Tryz.prog 273 = some { sz := 1, bytes := 8, zero := [.pointer none], k := .ptr 84, eg := false, fl := none, za := false } := by kernel_rfl
theorem sz273 : szOf Tryz.prog 273 = 1 := by kernel_rfl
theorem mi100 : miOf Tryz.prog 100 = some ⟨3, 4, false, [.int], { sz := 1, bytes := 1, zero := [.bool false], k := .bool, eg := false, fl := some [.bool], za := false }⟩ := by kernel_rfl
theorem mi102 : miOf Tryz.prog 102 = some ⟨45, 4, true, [.int, .str], { sz := 1, bytes := 1, zero := [.bool false], k := .bool, eg := false, fl := some [.bool], za := false }⟩ := by kernel_rfl
theorem mi103 : miOf Tryz.prog 103 = some ⟨45, 4, true, [.int, .str], { sz := 1, bytes := 1, zero := [.bool false], k := .bool, eg := false, fl := some [.bool], za := false }⟩ := by kernel_rfl
theorem mi134 : miOf Tryz.prog 134 = some ⟨45, 51, true, [.int, .str], { sz := 7, bytes := 104, zero := [.int .i64 0, .string ⟨#[]⟩, .int .i64 0, .int .i64 0, .string ⟨#[]⟩, .slice none 0 0, .slice none 0 0], k := .strct [(0, 3, false), (1, 9, false), (2, 3, false), (3, 3, false), (4, 9, false), (5, 48, false), (6, 49, false)], eg := false, fl := none, za := true }⟩ := by kernel_rfl
theorem mi196 : miOf Tryz.prog 196 = some ⟨45, 37, true, [.int, .str], { sz := 1, bytes := 24, zero := [.slice none 0 0], k := .slc 45, eg := false, fl := none, za := false }⟩ := by kernel_rfl
attribute [simp] ti1 sz1 ti2 sz2 ti3 sz3 ti4 sz4 ti5 sz5 ti9 sz9 ti12 sz12 ti20 sz20 ti21 sz21 ti22 sz22 ti23 sz23 ti24 sz24 ti25 sz25 ti26 sz26 ti27 sz27 ti28 sz28 ti29 sz29 ti31 sz31 ti32 sz32 ti33 sz33 ti34 sz34 ti35 sz35 ti36 sz36 ti37 sz37 ti38 sz38 ti39 sz39 ti40 sz40 ti41 sz41 ti42 sz42 ti43 sz43 ti44 sz44 ti45 sz45 ti46 sz46 ti47 sz47 ti48 sz48 ti49 sz49 ti50 sz50 ti51 sz51 ti53 sz53 ti54 sz54 ti55 sz55 ti56 sz56 ti57 sz57 ti58 sz58 ti59 sz59 ti61 sz61 ti63 sz63 ti64 sz64 ti65 sz65 ti66 sz66 ti67 sz67 ti68 sz68 ti69 sz69 ti70 sz70 ti71 sz71 ti72 sz72 ti73 sz73 ti74 sz74 ti75 sz75 ti76 sz76 ti77 sz77 ti79 sz79 ti80 sz80 ti81 sz81 ti82 sz82 ti83 sz83 ti84 sz84 ti86 sz86 ti88 sz88 ti89 sz89 ti90 sz90 ti91 sz91 ti92 sz92 ti93 sz93 ti94 sz94 ti95 sz95 ti96 sz96 ti97 sz97 ti98 sz98 ti99 sz99 ti100 sz100 ti101 sz101 ti102 sz102 ti103 sz103 ti104 sz104 ti105 sz105 ti106 sz106 ti107 sz107 ti108 sz108 ti109 sz109 ti110 sz110 ti111 sz111 ti112 sz112 ti113 sz113 ti114 sz114 ti115 sz115 ti116 sz116 ti117 sz117 ti118 sz118 ti119 sz119 ti120 sz120 ti121 sz121 ti122 sz122 ti124 sz124 ti125 sz125 ti126 sz126 ti127 sz127 ti128 sz128 ti129 sz129 ti130 sz130 ti131 sz131 ti132 sz132 ti133 sz133 ti134 sz134 ti135 sz135 ti136 sz136 ti137 sz137 ti138 sz138 ti139 sz139 ti140 sz140 ti141 sz141 ti142 sz142 ti143 sz143 ti144 sz144 ti145 sz145 ti146 sz146 ti147 sz147 ti148 sz148 ti149 sz149 ti150 sz150 ti151 sz151 ti152 sz152 ti153 sz153 ti154 sz154 ti155 sz155 ti156 sz156 ti157 sz157 ti158 sz158 ti159 sz159 ti160 sz160 ti173 sz173 ti174 sz174 ti175 sz175 ti176 sz176 ti177 sz177 ti178 sz178 ti179 sz179 ti180 sz180 ti181 sz181 ti182 sz182 ti183 sz183 ti184 sz184 ti185 sz185 ti187 sz187 ti188 sz188 ti189 sz189 ti191 sz191 ti192 sz192 ti193 sz193 ti194 sz194 ti195 sz195 ti196 sz196 ti197 sz197 ti198 sz198 ti199 sz199 ti206 sz206 ti208 sz208 ti209 sz209 ti210 sz210 ti211 sz211 ti212 sz212 ti213 sz213 ti214 sz214 ti215 sz215 ti216 sz216 ti217 sz217 ti218 sz218 ti219 sz219 ti220 sz220 ti221 sz221 ti222 sz222 ti223 sz223 ti224 sz224 ti225 sz225 ti226 sz226 ti227 sz227 ti228 sz228 ti230 sz230 ti231 sz231 ti232 sz232 ti233 sz233 ti234 sz234 ti235 sz235 ti237 sz237 ti239 sz239 ti240 sz240 ti241 sz241 ti242 sz242 ti244 sz244 ti245 sz245 ti251 sz251 ti254 sz254 ti255 sz255 ti260 sz260 ti266 sz266 ti273 sz273 mi100 mi102 mi103 mi134 mi196
end Go.Proofs.YtnmocaniljacpaaGreatDoor
end
section
namespace Go.Proofs
open Go.Shelf
def Tryz.lays106_ren : Go.Shelf.Ren := ⟨fun | 106 => 136 | 213 => 165 | 265 => 181 | n => n, fun | 9 => 9 | 3 => 3 | n => n, fun | n => n⟩
theorem Tryz.lays106 : Go.Proofs.Lays.n106 Tryz.prog Tryz.lays106_ren := {
  mixed := by kernel_rfl
  f106 := Tryz.func136.trans (congrArg some (by kernel_rfl))
  f213 := Tryz.func165.trans (congrArg some (by kernel_rfl))
  f265 := Tryz.func181.trans (congrArg some (by kernel_rfl))
  t3 := Tryz.underlying3
  a3 := Tryz.isAgg3
  z3 := Tryz.sizeOf3
  v3 := Tryz.zeroValue3
  t9 := Tryz.underlying9
  a9 := Tryz.isAgg9
  z9 := Tryz.sizeOf9
  v9 := Tryz.zeroValue9 }
open Go.RowKit in
/-- strings.Compare: "Compare returns an integer comparing two strings lexicographically. The result will be 0 if a == b, -1 if a < b, and +1 if a > b.": IT RETURNS 'Lib.compareBytes a b'; the world is as it was. (LAID: no walk: one application.) -/
theorem Tryz.strings_Compare (a b : ByteArray) (w : World) :
    Calls Tryz.prog 136 #[.string a, .string b] w fun e w' => e = .returned (.int .i64 (Lib.compareBytes a.data.toList b.data.toList)) ∧ w' = w := Any.strings_Compare Tryz.lays106 a b w
def Tryz.lays143_ren : Go.Shelf.Ren := ⟨fun | 143 => 202 | 219 => 204 | 217 => 205 | 225 => 206 | 224 => 207 | 267 => 208 | 266 => 209 | 314 => 210 | n => n, fun | 9 => 9 | 3 => 3 | 4 => 4 | 5 => 5 | 46 => 152 | 146 => 243 | 51 => 193 | n => n, fun | 1 => 1 | n => n⟩
theorem Tryz.lays143 : Go.Proofs.Lays.n143 Tryz.prog Tryz.lays143_ren := {
  mixed := by kernel_rfl
  f143 := Tryz.func202.trans (congrArg some (by kernel_rfl))
  f217 := Tryz.func205.trans (congrArg some (by kernel_rfl))
  f219 := Tryz.func204.trans (congrArg some (by kernel_rfl))
  f224 := Tryz.func207.trans (congrArg some (by kernel_rfl))
  f225 := Tryz.func206.trans (congrArg some (by kernel_rfl))
  f266 := Tryz.func209.trans (congrArg some (by kernel_rfl))
  f267 := Tryz.func208.trans (congrArg some (by kernel_rfl))
  f314 := Tryz.func210.trans (congrArg some (by kernel_rfl))
  t3 := Tryz.underlying3
  a3 := Tryz.isAgg3
  z3 := Tryz.sizeOf3
  v3 := Tryz.zeroValue3
  t4 := Tryz.underlying4
  a4 := Tryz.isAgg4
  z4 := Tryz.sizeOf4
  v4 := Tryz.zeroValue4
  t5 := Tryz.underlying5
  a5 := Tryz.isAgg5
  z5 := Tryz.sizeOf5
  v5 := Tryz.zeroValue5
  t9 := Tryz.underlying9
  a9 := Tryz.isAgg9
  z9 := Tryz.sizeOf9
  v9 := Tryz.zeroValue9
  t46 := Tryz.underlying152
  a46 := Tryz.isAgg152
  z46 := Tryz.sizeOf152
  v46 := Tryz.zeroValue152
  t51 := Tryz.underlying193
  a51 := Tryz.isAgg193
  z51 := Tryz.sizeOf193
  v51 := Tryz.zeroValue193
  t146 := Tryz.underlying243
  a146 := Tryz.isAgg243
  z146 := Tryz.sizeOf243
  v146 := Tryz.zeroValue243
  g1 := by kernel_rfl }
open Go.RowKit Go.Lib in
/-- strings.Index: "Index returns the index of the first instance of substr in s, or -1 if substr is not present in s.": AT A substr OF ONE BYTE c: IT RETURNS 'Lib.indexByte s c'; the world is as it was. (LAID: no walk: one application.) -/
theorem Tryz.strings_Index_one (s : ByteArray) (c : UInt8) (w : World) :
    Calls Tryz.prog 202 #[.string s, .string ⟨#[c]⟩] w fun e w' => e = .returned (.int .i64 (Lib.indexByte s.data.toList c)) ∧ w' = w := Any.strings_Index_one Tryz.lays143 s c w
def Tryz.sortKeys_ren : Go.Shelf.Ren := ⟨fun | 6 => 58 | 15 => 103 | 14 => 102 | 28 => 145 | 29 => 146 | 20 => 137 | 21 => 138 | 22 => 139 | 23 => 140 | 24 => 141 | 25 => 142 | 26 => 143 | 27 => 144 | 46 => 166 | 47 => 167 | 48 => 168 | 49 => 169 | 50 => 170 | 57 => 182 | n => n, fun | 22 => 37 | 24 => 45 | 25 => 99 | 3 => 3 | 39 => 152 | 0 => 0 | 53 => 193 | 55 => 195 | 4 => 4 | 46 => 186 | 45 => 185 | 50 => 190 | 5 => 5 | 9 => 9 | 66 => 217 | 70 => 221 | 76 => 228 | 77 => 229 | n => n, fun | n => n⟩
theorem Tryz.sortKeys : Go.Proofs.SlLaysF0.n6 Tryz.prog Tryz.sortKeys_ren := {
  mixed := by kernel_rfl
  f6 := ⟨Tryz.f58.name, by decide, Tryz.func58.trans (congrArg some (by kernel_rfl))⟩
  f14 := ⟨Tryz.f102.name, by decide, Tryz.func102.trans (congrArg some (by kernel_rfl))⟩
  f15 := Tryz.func103.trans (congrArg some (by kernel_rfl))
  f20 := ⟨Tryz.f137.name, by decide, Tryz.func137.trans (congrArg some (by kernel_rfl))⟩
  f21 := ⟨Tryz.f138.name, by decide, Tryz.func138.trans (congrArg some (by kernel_rfl))⟩
  f22 := ⟨Tryz.f139.name, by decide, Tryz.func139.trans (congrArg some (by kernel_rfl))⟩
  f23 := ⟨Tryz.f140.name, by decide, Tryz.func140.trans (congrArg some (by kernel_rfl))⟩
  f24 := ⟨Tryz.f141.name, by decide, Tryz.func141.trans (congrArg some (by kernel_rfl))⟩
  f25 := ⟨Tryz.f142.name, by decide, Tryz.func142.trans (congrArg some (by kernel_rfl))⟩
  f26 := ⟨Tryz.f143.name, by decide, Tryz.func143.trans (congrArg some (by kernel_rfl))⟩
  f27 := ⟨Tryz.f144.name, by decide, Tryz.func144.trans (congrArg some (by kernel_rfl))⟩
  f28 := Tryz.func145.trans (congrArg some (by kernel_rfl))
  f29 := Tryz.func146.trans (congrArg some (by kernel_rfl))
  f46 := ⟨Tryz.f166.name, by decide, Tryz.func166.trans (congrArg some (by kernel_rfl))⟩
  f47 := Tryz.func167.trans (congrArg some (by kernel_rfl))
  f48 := Tryz.func168.trans (congrArg some (by kernel_rfl))
  f49 := ⟨Tryz.f169.name, by decide, Tryz.func169.trans (congrArg some (by kernel_rfl))⟩
  f50 := ⟨Tryz.f170.name, by decide, Tryz.func170.trans (congrArg some (by kernel_rfl))⟩
  f57 := ⟨Tryz.f182.name, by decide, Tryz.func182.trans (congrArg some (by kernel_rfl))⟩
  t0 := Tryz.underlying0
  a0 := Tryz.isAgg0
  z0 := Tryz.sizeOf0
  v0 := Tryz.zeroValue0
  t3 := Tryz.underlying3
  a3 := Tryz.isAgg3
  z3 := Tryz.sizeOf3
  v3 := Tryz.zeroValue3
  t4 := Tryz.underlying4
  a4 := Tryz.isAgg4
  z4 := Tryz.sizeOf4
  v4 := Tryz.zeroValue4
  t5 := Tryz.underlying5
  a5 := Tryz.isAgg5
  z5 := Tryz.sizeOf5
  v5 := Tryz.zeroValue5
  t9 := Tryz.underlying9
  a9 := Tryz.isAgg9
  z9 := Tryz.sizeOf9
  v9 := Tryz.zeroValue9
  t22 := Tryz.underlying37
  a22 := Tryz.isAgg37
  z22 := Tryz.sizeOf37
  v22 := Tryz.zeroValue37
  t25 := Tryz.underlying99
  a25 := Tryz.isAgg99
  z25 := Tryz.sizeOf99
  v25 := Tryz.zeroValue99
  t39 := Tryz.underlying152
  a39 := Tryz.isAgg152
  z39 := Tryz.sizeOf152
  v39 := Tryz.zeroValue152
  t45 := Tryz.underlying185
  a45 := Tryz.isAgg185
  z45 := Tryz.sizeOf185
  v45 := Tryz.zeroValue185
  t46 := Tryz.underlying186
  a46 := Tryz.isAgg186
  z46 := Tryz.sizeOf186
  v46 := Tryz.zeroValue186
  t50 := Tryz.underlying190
  a50 := Tryz.isAgg190
  z50 := Tryz.sizeOf190
  v50 := Tryz.zeroValue190
  t53 := Tryz.underlying193
  a53 := Tryz.isAgg193
  z53 := Tryz.sizeOf193
  v53 := Tryz.zeroValue193
  t55 := Tryz.underlying195
  a55 := Tryz.isAgg195
  z55 := Tryz.sizeOf195
  v55 := Tryz.zeroValue195
  t66 := Tryz.underlying217
  a66 := Tryz.isAgg217
  z66 := Tryz.sizeOf217
  v66 := Tryz.zeroValue217
  t70 := Tryz.underlying221
  a70 := Tryz.isAgg221
  z70 := Tryz.sizeOf221
  v70 := Tryz.zeroValue221
  t76 := Tryz.underlying228
  a76 := Tryz.isAgg228
  z76 := Tryz.sizeOf228
  v76 := Tryz.zeroValue228
  t77 := Tryz.underlying229
  a77 := Tryz.isAgg229
  z77 := Tryz.sizeOf229
  v77 := Tryz.zeroValue229 }
end Go.Proofs
end
