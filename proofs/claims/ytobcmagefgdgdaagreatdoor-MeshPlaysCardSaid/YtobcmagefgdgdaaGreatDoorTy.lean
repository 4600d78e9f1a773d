/- Facts about the program's types -/
import Derived.Test.YtobcmagefgdgdaaGreatDoorFc
import Derived.Test.YtobcmagefgdgdaaGreatDoorProg
import Derived.Shelf.Small.Strs
import Derived.Shelf.Strings.Search1
import Derived.Shelf.Strings.Search2
import Derived.Shelf.Strings.Search3
import Derived.Shelf.SlSortCmp.NoneTotal
import Derived.Ground.SlsfProg
set_option linter.unusedSimpArgs false
set_option linter.unusedVariables false
set_option maxRecDepth 100000
set_option maxHeartbeats 8000000
namespace Go.Proofs.YtobcmagefgdgdaaGreatDoor
open Go.AI Tryz
abbrev C0 f a r:=Ct prog f a [] [] r []
abbrev C1:=Ct prog
theorem Cj :aS prog 51=some ⟨1,8,[.int .i64 0],.int .i64,false,some [.int],false⟩:=by kernel_rfl
theorem Ci :aS prog 93=some ⟨4,32,[.int .i64 0,.int .i64 0,.int .i64 0,.int .i64 0],.arr 4 51,false,some [.int,.int,.int,.int],true⟩:=by kernel_rfl
theorem UF :aS prog 277=some ⟨3,40,[.int .i64 0,.int .i64 0,.slice none 0 0],.dN [(0,3,false),(1,3,false),(2,65,false)],false,none,true⟩:=by kernel_rfl
theorem UE :aS prog 306=some ⟨13,144,[.int .i64 0,.int .i64 0,.string ⟨#[]⟩,.string ⟨#[]⟩,.int .i64 0,.int .i64 0,.int .i64 0,.int .i64 0,.string ⟨#[]⟩,.string ⟨#[]⟩,.int .i64 0,.string ⟨#[]⟩,.int .i64 0],.dN [(0,3,false),(1,304,false)],false,some [.int,.int,.str,.str,.int,.int,.int,.int,.str,.str,.int,.str,.int],true⟩:=by kernel_rfl
@[simp] theorem tj0 :aS prog 3=some ⟨1,8,[.int .i64 0],.int .i64,false,some [.int],false⟩/\bV prog 3=1/\aS prog 4=some ⟨1,1,[.bool false],.bool,false,some [.bool],false⟩/\bV prog 4=1/\aS prog 5=some ⟨1,1,[.int .u8 0],.int .u8,false,some [.int],false⟩/\aS prog 9=some ⟨1,16,[.string ⟨#[]⟩],.str,false,some [.str],false⟩/\bV prog 9=1/\aS prog 21=some ⟨1,4,[.int .i32 0],.int .i32,false,some [.int],false⟩:=by and_intros<;>kernel_rfl
@[simp] theorem tj1 :aS prog 23=some ⟨4,32,[.int .i64 0,.int .i64 0,.int .i64 0,.int .i64 0],.dN [(0,3,false),(1,3,false),(2,3,false),(3,3,false)],false,some [.int,.int,.int,.int],true⟩/\bV prog 23=4/\aS prog 24=some ⟨1,24,[.slice none 0 0],.dX 5,false,none,false⟩/\bV prog 24=1/\aS prog 26=some ⟨1,24,[.slice none 0 0],.dX 76,false,none,false⟩/\aS prog 29=some ⟨1,24,[.slice none 0 0],.dX 59,false,none,false⟩/\aS prog 31=some ⟨4,32,[.int .i64 0,.int .i64 0,.int .i64 0,.int .i64 0],.dN [(0,3,false),(1,3,false),(2,3,false),(3,3,false)],false,some [.int,.int,.int,.int],true⟩/\bV prog 31=4:=by and_intros<;>kernel_rfl
@[simp] theorem tj2 :aS prog 34=some ⟨1,24,[.slice none 0 0],.dX 57,false,none,false⟩/\aS prog 37=some ⟨1,8,[.pointer none],.ptr 87,false,none,false⟩/\aS prog 40=some ⟨1,24,[.slice none 0 0],.dX 69,false,none,false⟩/\aS prog 43=some ⟨1,24,[.slice none 0 0],.dX 65,false,none,false⟩/\bV prog 43=1/\aS prog 45=some ⟨2,32,[.int .i64 0,.slice none 0 0],.dN [(0,3,false),(1,43,false)],false,none,true⟩/\bV prog 45=2/\aS prog 46=some ⟨1,24,[.slice none 0 0],.dX 145,false,none,false⟩:=by and_intros<;>kernel_rfl
@[simp] theorem tj3 :bV prog 46=1/\aS prog 48=some ⟨8,96,[.int .i64 0,.int .i64 0,.int .i64 0,.int .i64 0,.int .i64 0,.slice none 0 0,.slice none 0 0,.int .i64 0],.dN [(0,23,false),(4,45,false),(6,46,false),(7,3,false)],false,none,true⟩/\bV prog 51=1/\aS prog 53=some ⟨3,32,[.int .i64 0,.string ⟨#[]⟩,.int .i64 0],.dN [(0,3,false),(1,9,false),(2,3,false)],false,some [.int,.str,.int],true⟩/\bV prog 53=3/\aS prog 54=some ⟨1,24,[.slice none 0 0],.dX 3,false,none,false⟩/\bV prog 54=1/\aS prog 55=some ⟨1,24,[.slice none 0 0],.dX 184,false,none,false⟩:=by and_intros<;>kernel_rfl
@[simp] theorem tj4 :bV prog 55=1/\aS prog 57=some ⟨7,96,[.int .i64 0,.int .i64 0,.int .i64 0,.string ⟨#[]⟩,.int .i64 0,.slice none 0 0,.slice none 0 0],.dN [(0,51,false),(1,3,false),(2,53,false),(5,54,false),(6,55,false)],false,none,true⟩/\aS prog 59=some ⟨7,96,[.int .i64 0,.int .i64 0,.int .i64 0,.string ⟨#[]⟩,.int .i64 0,.slice none 0 0,.slice none 0 0],.dN [(0,51,false),(1,3,false),(2,53,false),(5,54,false),(6,55,false)],false,none,true⟩/\aS prog 64=some ⟨1,8,[.nilFunc],.func,false,none,false⟩/\aS prog 65=some ⟨1,24,[.slice none 0 0],.dX 174,false,none,false⟩/\bV prog 65=1/\aS prog 67=some ⟨5,56,[.int .i64 0,.string ⟨#[]⟩,.string ⟨#[]⟩,.int .i64 0,.int .i64 0],.dN [(0,3,false),(1,9,false),(2,9,false),(3,3,false),(4,3,false)],false,some [.int,.str,.str,.int,.int],true⟩/\bV prog 67=5:=by and_intros<;>kernel_rfl
@[simp] theorem tj5 :aS prog 69=some ⟨11,136,[.int .i64 0,.int .i64 0,.int .i64 0,.int .i64 0,.slice none 0 0,.slice none 0 0,.int .i64 0,.string ⟨#[]⟩,.string ⟨#[]⟩,.int .i64 0,.int .i64 0],.dN [(0,3,false),(1,3,false),(2,3,false),(3,3,false),(4,65,false),(5,55,false),(6,67,false)],false,none,true⟩/\aS prog 74=some ⟨2,32,[.slice none 0 0,.int .i64 0],.dN [(0,24,false),(1,51,false)],false,none,true⟩/\aS prog 76=some ⟨11,136,[.int .i64 0,.int .i64 0,.int .i64 0,.int .i64 0,.slice none 0 0,.slice none 0 0,.int .i64 0,.string ⟨#[]⟩,.string ⟨#[]⟩,.int .i64 0,.int .i64 0],.dN [(0,3,false),(1,3,false),(2,3,false),(3,3,false),(4,65,false),(5,55,false),(6,67,false)],false,none,true⟩/\aS prog 84=some ⟨2,32,[.int .i64 0,.slice none 0 0],.dN [(0,3,false),(1,43,false)],false,none,true⟩/\bV prog 84=2/\aS prog 85=some ⟨1,24,[.slice none 0 0],.dX 88,false,none,false⟩/\bV prog 85=1/\aS prog 87=some ⟨8,96,[.int .i64 0,.int .i64 0,.int .i64 0,.int .i64 0,.int .i64 0,.slice none 0 0,.slice none 0 0,.int .i64 0],.dN [(0,31,false),(4,84,false),(6,85,false),(7,3,false)],false,none,true⟩:=by and_intros<;>kernel_rfl
@[simp] theorem tj6 :aS prog 88=some ⟨1,8,[.pointer none],.ptr 121,false,none,false⟩/\aS prog 90=some ⟨4,32,[.int .i64 0,.int .i64 0,.int .i64 0,.int .i64 0],.arr 4 3,false,some [.int,.int,.int,.int],true⟩/\bV prog 90=4/\aS prog 92=some ⟨5,40,[.int .i64 0,.int .i64 0,.int .i64 0,.int .i64 0,.int .i64 0],.dN [(0,90,false),(4,3,false)],false,some [.int,.int,.int,.int,.int],true⟩/\bV prog 92=5/\bV prog 93=4/\aS prog 95=some ⟨2,32,[.int .i64 0,.slice none 0 0],.dN [(0,3,false),(1,65,false)],false,none,true⟩/\bV prog 95=2:=by and_intros<;>kernel_rfl
@[simp] theorem tj7 :aS prog 97=some ⟨4,64,[.int .i64 0,.slice none 0 0,.bool false,.slice none 0 0],.dN [(0,95,false),(2,4,false),(3,65,false)],false,none,true⟩/\bV prog 97=4/\aS prog 98=some ⟨1,24,[.slice none 0 0],.dX 277,false,none,false⟩/\bV prog 98=1/\aS prog 100=some ⟨2,32,[.int .i64 0,.slice none 0 0],.dN [(0,3,false),(1,98,false)],false,none,true⟩/\bV prog 100=2/\aS prog 102=some ⟨18,192,[.int .i64 0,.int .i64 0,.bool false,.int .i64 0,.int .i64 0,.int .i64 0,.int .i64 0,.int .i64 0,.int .i64 0,.int .i64 0,.int .i64 0,.int .i64 0,.int .i64 0,.slice none 0 0,.bool false,.slice none 0 0,.int .i64 0,.slice none 0 0],.dN [(0,3,false),(1,3,false),(2,4,false),(3,92,false),(8,93,false),(12,97,false),(16,100,false)],false,none,true⟩/\bV prog 102=18:=by and_intros<;>kernel_rfl
@[simp] theorem tj8 :aS prog 103=some ⟨4,4,[.bool false,.bool false,.bool false,.bool false],.arr 4 4,false,some [.bool,.bool,.bool,.bool],true⟩/\bV prog 103=4/\aS prog 105=some ⟨9,48,[.int .i64 0,.int .i64 0,.int .i64 0,.int .i64 0,.bool false,.bool false,.bool false,.bool false,.int .i64 0],.dN [(0,90,false),(4,103,false),(8,3,false)],false,some [.int,.int,.int,.int,.bool,.bool,.bool,.bool,.int],true⟩/\bV prog 105=9/\aS prog 106=some ⟨1,24,[.slice none 0 0],.dX 352,false,none,false⟩/\bV prog 106=1/\aS prog 108=some ⟨10,144,[.int .i64 0,.int .i64 0,.int .i64 0,.int .i64 0,.int .i64 0,.slice none 0 0,.slice none 0 0,.int .i64 0,.slice none 0 0,.slice none 0 0],.dN [(0,3,false),(1,3,false),(2,3,false),(3,3,false),(4,3,false),(5,65,false),(6,55,false),(7,51,false),(8,106,false),(9,55,false)],false,none,true⟩/\bV prog 108=10:=by and_intros<;>kernel_rfl
@[simp] theorem tj9 :aS prog 110=some ⟨14,208,[.slice none 0 0,.slice none 0 0,.int .i64 0,.int .i64 0,.int .i64 0,.int .i64 0,.int .i64 0,.int .i64 0,.slice none 0 0,.slice none 0 0,.int .i64 0,.slice none 0 0,.slice none 0 0,.bool false],.dN [(0,65,false),(1,55,false),(2,3,false),(3,108,false),(13,4,false)],false,none,true⟩/\bV prog 110=14/\aS prog 112=some ⟨27,288,[.int .i64 0,.bool false,.int .i64 0,.int .i64 0,.int .i64 0,.int .i64 0,.bool false,.bool false,.bool false,.bool false,.int .i64 0,.slice none 0 0,.slice none 0 0,.int .i64 0,.int .i64 0,.int .i64 0,.int .i64 0,.int .i64 0,.int .i64 0,.slice none 0 0,.slice none 0 0,.int .i64 0,.slice none 0 0,.slice none 0 0,.bool false,.int .i64 0,.int .i64 0],.dN [(0,3,false),(1,4,false),(2,105,false),(11,110,false),(25,51,false),(26,3,false)],false,none,true⟩/\bV prog 112=27/\aS prog 113=some ⟨1,24,[.slice none 0 0],.dX 24,false,none,false⟩/\bV prog 113=1/\aS prog 115=some ⟨2,32,[.int .i64 0,.slice none 0 0],.dN [(0,3,false),(1,113,false)],false,none,true⟩/\aS prog 116=some ⟨4,64,[.int .i64 0,.slice none 0 0,.int .i64 0,.slice none 0 0],.arr 2 115,false,none,true⟩:=by and_intros<;>kernel_rfl
@[simp] theorem tj10 :bV prog 116=4/\aS prog 117=some ⟨1,24,[.slice none 0 0],.dX 306,false,none,false⟩/\bV prog 117=1/\aS prog 119=some ⟨3,56,[.int .i64 0,.slice none 0 0,.slice none 0 0],.dN [(0,3,false),(1,117,false),(2,117,false)],false,none,true⟩/\bV prog 119=3/\aS prog 121=some ⟨52,600,[.int .i64 0,.int .i64 0,.bool false,.int .i64 0,.int .i64 0,.int .i64 0,.int .i64 0,.int .i64 0,.int .i64 0,.int .i64 0,.int .i64 0,.int .i64 0,.int .i64 0,.slice none 0 0,.bool false,.slice none 0 0,.int .i64 0,.slice none 0 0,.int .i64 0,.bool false,.int .i64 0,.int .i64 0,.int .i64 0,.int .i64 0,.bool false,.bool false,.bool false,.bool false,.int .i64 0,.slice none 0 0,.slice none 0 0,.int .i64 0,.int .i64 0,.int .i64 0,.int .i64 0,.int .i64 0,.int .i64 0,.slice none 0 0,.slice none 0 0,.int .i64 0,.slice none 0 0,.slice none 0 0,.bool false,.int .i64 0,.int .i64 0,.int .i64 0,.slice none 0 0,.int .i64 0,.slice none 0 0,.int .i64 0,.slice none 0 0,.slice none 0 0],.dN [(0,102,false),(18,112,false),(45,116,false),(49,119,false)],false,none,true⟩/\aS prog 122=some ⟨5,40,[.int .i64 0,.int .i64 0,.int .i64 0,.int .i64 0,.int .i64 0],.dN [(0,90,false),(4,3,false)],false,some [.int,.int,.int,.int,.int],true⟩/\bV prog 122=5:=by and_intros<;>kernel_rfl
@[simp] theorem tj11 :aS prog 123=some ⟨2,32,[.int .i64 0,.slice none 0 0],.dN [(0,3,false),(1,65,false)],false,none,true⟩/\bV prog 123=2/\aS prog 125=some ⟨4,64,[.int .i64 0,.slice none 0 0,.bool false,.slice none 0 0],.dN [(0,123,false),(2,4,false),(3,65,false)],false,none,true⟩/\bV prog 125=4/\aS prog 126=some ⟨1,24,[.slice none 0 0],.dX 276,false,none,false⟩/\bV prog 126=1/\aS prog 128=some ⟨2,32,[.int .i64 0,.slice none 0 0],.dN [(0,3,false),(1,126,false)],false,none,true⟩/\bV prog 128=2:=by and_intros<;>kernel_rfl
@[simp] theorem tj12 :aS prog 130=some ⟨18,192,[.int .i64 0,.int .i64 0,.bool false,.int .i64 0,.int .i64 0,.int .i64 0,.int .i64 0,.int .i64 0,.int .i64 0,.int .i64 0,.int .i64 0,.int .i64 0,.int .i64 0,.slice none 0 0,.bool false,.slice none 0 0,.int .i64 0,.slice none 0 0],.dN [(0,3,false),(1,3,false),(2,4,false),(3,122,false),(8,93,false),(12,125,false),(16,128,false)],false,none,true⟩/\bV prog 130=18/\aS prog 131=some ⟨9,48,[.int .i64 0,.int .i64 0,.int .i64 0,.int .i64 0,.bool false,.bool false,.bool false,.bool false,.int .i64 0],.dN [(0,90,false),(4,103,false),(8,3,false)],false,some [.int,.int,.int,.int,.bool,.bool,.bool,.bool,.int],true⟩/\bV prog 131=9/\aS prog 132=some ⟨1,24,[.slice none 0 0],.dX 325,false,none,false⟩/\bV prog 132=1/\aS prog 134=some ⟨10,144,[.int .i64 0,.int .i64 0,.int .i64 0,.int .i64 0,.int .i64 0,.slice none 0 0,.slice none 0 0,.int .i64 0,.slice none 0 0,.slice none 0 0],.dN [(0,3,false),(1,3,false),(2,3,false),(3,3,false),(4,3,false),(5,65,false),(6,55,false),(7,51,false),(8,132,false),(9,55,false)],false,none,true⟩/\bV prog 134=10:=by and_intros<;>kernel_rfl
@[simp] theorem tj13 :aS prog 136=some ⟨14,208,[.slice none 0 0,.slice none 0 0,.int .i64 0,.int .i64 0,.int .i64 0,.int .i64 0,.int .i64 0,.int .i64 0,.slice none 0 0,.slice none 0 0,.int .i64 0,.slice none 0 0,.slice none 0 0,.bool false],.dN [(0,65,false),(1,55,false),(2,3,false),(3,134,false),(13,4,false)],false,none,true⟩/\bV prog 136=14/\aS prog 138=some ⟨27,288,[.int .i64 0,.bool false,.int .i64 0,.int .i64 0,.int .i64 0,.int .i64 0,.bool false,.bool false,.bool false,.bool false,.int .i64 0,.slice none 0 0,.slice none 0 0,.int .i64 0,.int .i64 0,.int .i64 0,.int .i64 0,.int .i64 0,.int .i64 0,.slice none 0 0,.slice none 0 0,.int .i64 0,.slice none 0 0,.slice none 0 0,.bool false,.int .i64 0,.int .i64 0],.dN [(0,3,false),(1,4,false),(2,131,false),(11,136,false),(25,51,false),(26,3,false)],false,none,true⟩/\bV prog 138=27/\aS prog 139=some ⟨2,32,[.int .i64 0,.slice none 0 0],.dN [(0,3,false),(1,113,false)],false,none,true⟩/\bV prog 139=2/\aS prog 140=some ⟨4,64,[.int .i64 0,.slice none 0 0,.int .i64 0,.slice none 0 0],.arr 2 139,false,none,true⟩/\bV prog 140=4:=by and_intros<;>kernel_rfl
@[simp] theorem tj14 :aS prog 141=some ⟨1,24,[.slice none 0 0],.dX 261,false,none,false⟩/\bV prog 141=1/\aS prog 143=some ⟨3,56,[.int .i64 0,.slice none 0 0,.slice none 0 0],.dN [(0,3,false),(1,141,false),(2,141,false)],false,none,true⟩/\bV prog 143=3/\aS prog 145=some ⟨52,600,[.int .i64 0,.int .i64 0,.bool false,.int .i64 0,.int .i64 0,.int .i64 0,.int .i64 0,.int .i64 0,.int .i64 0,.int .i64 0,.int .i64 0,.int .i64 0,.int .i64 0,.slice none 0 0,.bool false,.slice none 0 0,.int .i64 0,.slice none 0 0,.int .i64 0,.bool false,.int .i64 0,.int .i64 0,.int .i64 0,.int .i64 0,.bool false,.bool false,.bool false,.bool false,.int .i64 0,.slice none 0 0,.slice none 0 0,.int .i64 0,.int .i64 0,.int .i64 0,.int .i64 0,.int .i64 0,.int .i64 0,.slice none 0 0,.slice none 0 0,.int .i64 0,.slice none 0 0,.slice none 0 0,.bool false,.int .i64 0,.int .i64 0,.int .i64 0,.slice none 0 0,.int .i64 0,.slice none 0 0,.int .i64 0,.slice none 0 0,.slice none 0 0],.dN [(0,130,false),(18,138,false),(45,140,false),(49,143,false)],false,none,true⟩/\aS prog 172=some ⟨1,24,[.slice none 0 0],.dX 179,false,none,false⟩/\bV prog 172=1/\aS prog 174=some ⟨7,104,[.int .i64 0,.string ⟨#[]⟩,.int .i64 0,.int .i64 0,.string ⟨#[]⟩,.slice none 0 0,.slice none 0 0],.dN [(0,3,false),(1,9,false),(2,3,false),(3,3,false),(4,9,false),(5,172,false),(6,54,false)],false,none,true⟩:=by and_intros<;>kernel_rfl
@[simp] theorem tj15 :aS prog 176=some ⟨2,24,[.string ⟨#[]⟩,.int .i64 0],.dN [(0,9,false),(1,3,false)],false,some [.str,.int],true⟩/\aS prog 177=some ⟨1,24,[.slice none 0 0],.dX 176,false,none,false⟩/\bV prog 177=1/\aS prog 179=some ⟨3,56,[.string ⟨#[]⟩,.string ⟨#[]⟩,.slice none 0 0],.dN [(0,9,false),(1,9,false),(2,177,false)],false,none,true⟩/\aS prog 184=some ⟨2,24,[.int .i64 0,.string ⟨#[]⟩],.dN [(0,3,false),(1,9,false)],false,some [.int,.str],true⟩/\bV prog 184=2/\aS prog 189=some ⟨1,8,[.pointer none],.ptr 190,false,none,false⟩/\aS prog 190=some ⟨2,32,[.slice none 0 0,.int .i64 0],.dN [(0,24,false),(1,51,false)],false,none,true⟩:=by and_intros<;>kernel_rfl
@[simp] theorem tj16 :aS prog 223=some ⟨10,160,[.string ⟨#[]⟩,.string ⟨#[]⟩,.string ⟨#[]⟩,.string ⟨#[]⟩,.string ⟨#[]⟩,.string ⟨#[]⟩,.string ⟨#[]⟩,.string ⟨#[]⟩,.string ⟨#[]⟩,.string ⟨#[]⟩],.arr 10 9,false,some [.str,.str,.str,.str,.str,.str,.str,.str,.str,.str],true⟩/\aS prog 226=some ⟨1,8,[.nilFunc],.func,false,none,false⟩/\aS prog 230=some ⟨1,8,[.nilFunc],.func,false,none,false⟩/\aS prog 231=some ⟨1,8,[.nilFunc],.func,false,none,false⟩/\aS prog 239=some ⟨1,24,[.slice none 0 0],.dX 134,false,none,false⟩/\aS prog 258=some ⟨12,136,[.int .i64 0,.string ⟨#[]⟩,.string ⟨#[]⟩,.int .i64 0,.int .i64 0,.int .i64 0,.int .i64 0,.string ⟨#[]⟩,.string ⟨#[]⟩,.int .i64 0,.string ⟨#[]⟩,.int .i64 0],.dN [(0,67,false),(5,3,false),(6,3,false),(7,9,false),(8,9,false),(9,53,false)],false,some [.int,.str,.str,.int,.int,.int,.int,.str,.str,.int,.str,.int],true⟩/\bV prog 258=12/\aS prog 261=some ⟨13,144,[.int .i64 0,.int .i64 0,.string ⟨#[]⟩,.string ⟨#[]⟩,.int .i64 0,.int .i64 0,.int .i64 0,.int .i64 0,.string ⟨#[]⟩,.string ⟨#[]⟩,.int .i64 0,.string ⟨#[]⟩,.int .i64 0],.dN [(0,3,false),(1,258,false)],false,some [.int,.int,.str,.str,.int,.int,.int,.int,.str,.str,.int,.str,.int],true⟩:=by and_intros<;>kernel_rfl
@[simp] theorem tj17 :aS prog 276=some ⟨3,40,[.int .i64 0,.int .i64 0,.slice none 0 0],.dN [(0,3,false),(1,3,false),(2,65,false)],false,none,true⟩/\aS prog 284=some ⟨1,24,[.slice none 0 0],.dX 108,false,none,false⟩/\bV prog 284=1/\aS prog 304=some ⟨12,136,[.int .i64 0,.string ⟨#[]⟩,.string ⟨#[]⟩,.int .i64 0,.int .i64 0,.int .i64 0,.int .i64 0,.string ⟨#[]⟩,.string ⟨#[]⟩,.int .i64 0,.string ⟨#[]⟩,.int .i64 0],.dN [(0,67,false),(5,3,false),(6,3,false),(7,9,false),(8,9,false),(9,53,false)],false,some [.int,.str,.str,.int,.int,.int,.int,.str,.str,.int,.str,.int],true⟩/\bV prog 304=12/\aS prog 325=some ⟨3,32,[.int .i64 0,.string ⟨#[]⟩,.int .i64 0],.dN [(0,184,false),(2,3,false)],false,some [.int,.str,.int],true⟩/\aS prog 352=some ⟨3,32,[.int .i64 0,.string ⟨#[]⟩,.int .i64 0],.dN [(0,184,false),(2,3,false)],false,some [.int,.str,.int],true⟩/\aS prog 354=some ⟨1,16,[.nilIface],.iface false,true,none,false⟩:=by and_intros<;>kernel_rfl
@[simp] theorem tj18 :aS prog 385=some ⟨1,8,[.int .u64 0],.int .u64,false,some [.int],false⟩/\aS prog 394=some ⟨3,56,[.int .i64 0,.slice none 0 0,.slice none 0 0],.dN [(0,3,false),(1,65,false),(2,55,false)],false,none,true⟩/\aS prog 436=some ⟨1,8,[.pointer none],.ptr 440,false,none,false⟩/\aS prog 440=some ⟨2,16,[.int .i64 0,.int .i64 0],.dN [(0,51,false),(1,3,false)],false,some [.int,.int],true⟩/\aS prog 441=some ⟨3,56,[.int .i64 0,.slice none 0 0,.slice none 0 0],.dN [(0,3,false),(1,65,false),(2,55,false)],false,none,true⟩/\aS prog 448=some ⟨1,24,[.slice none 0 0],.dX 113,false,none,false⟩/\aS prog 469=some ⟨31,352,[.int .i64 0,.string ⟨#[]⟩,.string ⟨#[]⟩,.int .i64 0,.int .i64 0,.int .i64 0,.int .i64 0,.string ⟨#[]⟩,.string ⟨#[]⟩,.int .i64 0,.string ⟨#[]⟩,.int .i64 0,.int .i64 0,.int .i64 0,.bool false,.int .i64 0,.int .i64 0,.int .i64 0,.int .i64 0,.int .i64 0,.int .i64 0,.int .i64 0,.int .i64 0,.int .i64 0,.int .i64 0,.slice none 0 0,.bool false,.slice none 0 0,.int .i64 0,.slice none 0 0,.slice none 0 0],.dN [(0,304,false),(12,102,false),(30,284,false)],false,none,true⟩/\aS prog 510=some ⟨1,24,[.slice none 0 0],.dX 516,false,none,false⟩:=by and_intros<;>kernel_rfl
@[simp] theorem tj19 :aS prog 511=some ⟨1,8,[.pointer none],.ptr 600,false,none,false⟩/\aS prog 514=some ⟨1,8,[.nilFunc],.func,false,none,false⟩/\bV prog 514=1/\aS prog 516=some ⟨2,32,[.slice none 0 0,.nilFunc],.dN [(0,54,false),(1,514,false)],false,none,true⟩/\aS prog 519=some ⟨1,24,[.slice none 0 0],.dX 51,false,none,false⟩/\aS prog 524=some ⟨5,72,[.int .i64 0,.slice none 0 0,.bool false,.slice none 0 0,.bool false],.dN [(0,97,false),(4,4,false)],false,none,true⟩/\aS prog 557=some ⟨4,4,[.bool false,.bool false,.bool false,.bool false],.dN [(0,4,false),(1,4,false),(2,4,false),(3,4,false)],false,some [.bool,.bool,.bool,.bool],true⟩/\aS prog 580=some ⟨1,8,[.map none],.map 184 4,false,none,false⟩:=by and_intros<;>kernel_rfl
@[simp] theorem tj20 :bV prog 580=1/\aS prog 581=some ⟨1,8,[.map none],.map 184 4,false,none,false⟩/\aS prog 600=some ⟨5,104,[.slice none 0 0,.slice none 0 0,.map none,.slice none 0 0,.slice none 0 0],.dN [(0,65,false),(1,55,false),(2,580,false),(3,65,false),(4,55,false)],false,none,true⟩/\aS prog 619=some ⟨3,24,[.int .i64 0,.int .i64 0,.int .i64 0],.dN [(0,3,false),(1,3,false),(2,3,false)],false,some [.int,.int,.int],true⟩/\aS prog 635=some ⟨1,8,[.map none],.map 184 174,false,none,false⟩/\aS prog 658=some ⟨1,8,[.map none],.map 184 55,false,none,false⟩/\aS prog 660=some ⟨1,8,[.nilFunc],.func,false,none,false⟩/\xL prog 544=some ⟨3,4,false,[.int],⟨1,1,[.bool false],.bool,false,some [.bool],false⟩⟩:=by and_intros<;>kernel_rfl
@[simp] theorem tj21 :xL prog 580=some ⟨184,4,true,[.int,.str],⟨1,1,[.bool false],.bool,false,some [.bool],false⟩⟩/\xL prog 581=some ⟨184,4,true,[.int,.str],⟨1,1,[.bool false],.bool,false,some [.bool],false⟩⟩/\xL prog 635=some ⟨184,174,true,[.int,.str],⟨7,104,[.int .i64 0,.string ⟨#[]⟩,.int .i64 0,.int .i64 0,.string ⟨#[]⟩,.slice none 0 0,.slice none 0 0],.dN [(0,3,false),(1,9,false),(2,3,false),(3,3,false),(4,9,false),(5,172,false),(6,54,false)],false,none,true⟩⟩/\xL prog 658=some ⟨184,55,true,[.int,.str],⟨1,24,[.slice none 0 0],.dX 184,false,none,false⟩⟩:=by and_intros<;>kernel_rfl
attribute [simp] Cj Ci UF UE
end Go.Proofs.YtobcmagefgdgdaaGreatDoor
namespace Go.Proofs
open Go.Shelf
def Tryz.lays106_ren :Go.Shelf.Ren:=⟨λ|106=>573|213=>598|265=>606|n=>n,λ|9=>9|3=>3|n=>n,λ|n=>n⟩
theorem Tryz.lays106 :Go.Proofs.Lays.n106 Tryz.prog Tryz.lays106_ren:={
 mixed:=by kernel_rfl
 f106:=Tryz.func573.trans (jW some (by kernel_rfl))
 f213:=Tryz.func598.trans (jW some (by kernel_rfl))
 f265:=Tryz.func606.trans (jW some (by kernel_rfl))
 t3:=Tryz.underlying3
 a3:=Tryz.isAgg3
 z3:=Tryz.sizeOf3
 v3:=Tryz.zeroValue3
 t9:=Tryz.underlying9
 a9:=Tryz.isAgg9
 z9:=Tryz.sizeOf9
 v9:=Tryz.zeroValue9}
open Go.RowKit in
theorem Tryz.strings_Compare (a b:ByteArray)(w:World):
  Calls Tryz.prog 573 #[.string a,.string b] w λe w'=>e=.returned (.int .i64 (Lib.compareBytes a.data.toList b.data.toList))/\w'=w:=Any.strings_Compare Tryz.lays106 a b w
def Tryz.lays143_ren :Go.Shelf.Ren:=⟨λ|143=>610|219=>612|217=>613|225=>614|224=>615|267=>616|266=>617|314=>618|n=>n,λ|9=>9|3=>3|4=>4|5=>5|46=>385|146=>689|51=>655|n=>n,λ|1=>1|n=>n⟩
theorem Tryz.lays143 :Go.Proofs.Lays.n143 Tryz.prog Tryz.lays143_ren:={
 mixed:=by kernel_rfl
 f143:=Tryz.func610.trans (jW some (by kernel_rfl))
 f217:=Tryz.func613.trans (jW some (by kernel_rfl))
 f219:=Tryz.func612.trans (jW some (by kernel_rfl))
 f224:=Tryz.func615.trans (jW some (by kernel_rfl))
 f225:=Tryz.func614.trans (jW some (by kernel_rfl))
 f266:=Tryz.func617.trans (jW some (by kernel_rfl))
 f267:=Tryz.func616.trans (jW some (by kernel_rfl))
 f314:=Tryz.func618.trans (jW some (by kernel_rfl))
 t3:=Tryz.underlying3
 a3:=Tryz.isAgg3
 z3:=Tryz.sizeOf3
 v3:=Tryz.zeroValue3
 t4:=Tryz.underlying4
 a4:=Tryz.isAgg4
 z4:=Tryz.sizeOf4
 v4:=Tryz.zeroValue4
 t5:=Tryz.underlying5
 a5:=Tryz.isAgg5
 z5:=Tryz.sizeOf5
 v5:=Tryz.zeroValue5
 t9:=Tryz.underlying9
 a9:=Tryz.isAgg9
 z9:=Tryz.sizeOf9
 v9:=Tryz.zeroValue9
 t46:=Tryz.underlying385
 a46:=Tryz.isAgg385
 z46:=Tryz.sizeOf385
 v46:=Tryz.zeroValue385
 t51:=Tryz.underlying655
 a51:=Tryz.isAgg655
 z51:=Tryz.sizeOf655
 v51:=Tryz.zeroValue655
 t146:=Tryz.underlying689
 a146:=Tryz.isAgg689
 z146:=Tryz.sizeOf689
 v146:=Tryz.zeroValue689
 g1:=by kernel_rfl}
open Go.RowKit Go.Lib in
theorem Tryz.strings_Index_one (s:ByteArray)(c:UInt8)(w:World):
  Calls Tryz.prog 610 #[.string s,.string ⟨#[c]⟩] w λe w'=>e=.returned (.int .i64 (Lib.indexByte s.data.toList c))/\w'=w:=Any.strings_Index_one Tryz.lays143 s c w
def Tryz.sortKeys_ren :Go.Shelf.Ren:=⟨λ|6=>475|15=>539|14=>538|28=>582|29=>583|20=>574|21=>575|22=>576|23=>577|24=>578|25=>579|26=>580|27=>581|46=>599|47=>600|48=>601|49=>602|50=>603|57=>607|n=>n,λ|22=>55|24=>184|25=>488|3=>3|39=>385|0=>0|53=>655|55=>657|4=>4|46=>649|45=>648|50=>297|5=>5|9=>9|66=>671|70=>675|76=>679|77=>680|n=>n,λ|n=>n⟩
theorem Tryz.sortKeys :Go.Proofs.SlLaysF0.n6 Tryz.prog Tryz.sortKeys_ren:={
 mixed:=by kernel_rfl
 f6:=⟨Tryz.f475.name,by decide,Tryz.func475.trans (jW some (by kernel_rfl))⟩
 f14:=⟨Tryz.f538.name,by decide,Tryz.func538.trans (jW some (by kernel_rfl))⟩
 f15:=Tryz.func539.trans (jW some (by kernel_rfl))
 f20:=⟨Tryz.f574.name,by decide,Tryz.func574.trans (jW some (by kernel_rfl))⟩
 f21:=⟨Tryz.f575.name,by decide,Tryz.func575.trans (jW some (by kernel_rfl))⟩
 f22:=⟨Tryz.f576.name,by decide,Tryz.func576.trans (jW some (by kernel_rfl))⟩
 f23:=⟨Tryz.f577.name,by decide,Tryz.func577.trans (jW some (by kernel_rfl))⟩
 f24:=⟨Tryz.f578.name,by decide,Tryz.func578.trans (jW some (by kernel_rfl))⟩
 f25:=⟨Tryz.f579.name,by decide,Tryz.func579.trans (jW some (by kernel_rfl))⟩
 f26:=⟨Tryz.f580.name,by decide,Tryz.func580.trans (jW some (by kernel_rfl))⟩
 f27:=⟨Tryz.f581.name,by decide,Tryz.func581.trans (jW some (by kernel_rfl))⟩
 f28:=Tryz.func582.trans (jW some (by kernel_rfl))
 f29:=Tryz.func583.trans (jW some (by kernel_rfl))
 f46:=⟨Tryz.f599.name,by decide,Tryz.func599.trans (jW some (by kernel_rfl))⟩
 f47:=Tryz.func600.trans (jW some (by kernel_rfl))
 f48:=Tryz.func601.trans (jW some (by kernel_rfl))
 f49:=⟨Tryz.f602.name,by decide,Tryz.func602.trans (jW some (by kernel_rfl))⟩
 f50:=⟨Tryz.f603.name,by decide,Tryz.func603.trans (jW some (by kernel_rfl))⟩
 f57:=⟨Tryz.f607.name,by decide,Tryz.func607.trans (jW some (by kernel_rfl))⟩
 t0:=Tryz.underlying0
 a0:=Tryz.isAgg0
 z0:=Tryz.sizeOf0
 v0:=Tryz.zeroValue0
 t3:=Tryz.underlying3
 a3:=Tryz.isAgg3
 z3:=Tryz.sizeOf3
 v3:=Tryz.zeroValue3
 t4:=Tryz.underlying4
 a4:=Tryz.isAgg4
 z4:=Tryz.sizeOf4
 v4:=Tryz.zeroValue4
 t5:=Tryz.underlying5
 a5:=Tryz.isAgg5
 z5:=Tryz.sizeOf5
 v5:=Tryz.zeroValue5
 t9:=Tryz.underlying9
 a9:=Tryz.isAgg9
 z9:=Tryz.sizeOf9
 v9:=Tryz.zeroValue9
 t22:=Tryz.underlying55
 a22:=Tryz.isAgg55
 z22:=Tryz.sizeOf55
 v22:=Tryz.zeroValue55
 t25:=Tryz.underlying488
 a25:=Tryz.isAgg488
 z25:=Tryz.sizeOf488
 v25:=Tryz.zeroValue488
 t39:=Tryz.underlying385
 a39:=Tryz.isAgg385
 z39:=Tryz.sizeOf385
 v39:=Tryz.zeroValue385
 t45:=Tryz.underlying648
 a45:=Tryz.isAgg648
 z45:=Tryz.sizeOf648
 v45:=Tryz.zeroValue648
 t46:=Tryz.underlying649
 a46:=Tryz.isAgg649
 z46:=Tryz.sizeOf649
 v46:=Tryz.zeroValue649
 t50:=Tryz.underlying297
 a50:=Tryz.isAgg297
 z50:=Tryz.sizeOf297
 v50:=Tryz.zeroValue297
 t53:=Tryz.underlying655
 a53:=Tryz.isAgg655
 z53:=Tryz.sizeOf655
 v53:=Tryz.zeroValue655
 t55:=Tryz.underlying657
 a55:=Tryz.isAgg657
 z55:=Tryz.sizeOf657
 v55:=Tryz.zeroValue657
 t66:=Tryz.underlying671
 a66:=Tryz.isAgg671
 z66:=Tryz.sizeOf671
 v66:=Tryz.zeroValue671
 t70:=Tryz.underlying675
 a70:=Tryz.isAgg675
 z70:=Tryz.sizeOf675
 v70:=Tryz.zeroValue675
 t76:=Tryz.underlying679
 a76:=Tryz.isAgg679
 z76:=Tryz.sizeOf679
 v76:=Tryz.zeroValue679
 t77:=Tryz.underlying680
 a77:=Tryz.isAgg680
 z77:=Tryz.sizeOf680
 v77:=Tryz.zeroValue680}
end Go.Proofs
