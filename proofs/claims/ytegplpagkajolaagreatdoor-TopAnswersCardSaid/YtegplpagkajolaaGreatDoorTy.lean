/-
  Facts about the types of this program, and the library's contracts laid at it.
-/
import Derived.Test.YtegplpagkajolaaGreatDoorFc
import Derived.Test.YtegplpagkajolaaGreatDoorProg
import Derived.Shelf.Small.Strs
import Derived.Shelf.Strings.Search1
import Derived.Shelf.Strings.Search2
import Derived.Shelf.Strings.Search3
import Derived.Shelf.SlSortCmp.NoneTotal
import Derived.Ground.SlsfProg
set_option linter.unusedSimpArgs false
set_option linter.unusedVariables false
set_option maxRecDepth 100000
set_option maxHeartbeats 8000000
namespace Go.Proofs.YtegplpagkajolaaGreatDoor
open Go.AI Tryz
theorem Cq :aZ prog 36=some ⟨1,8,[.int .i64 0],.int .i64,false,some [.int],false⟩:=by kernel_rfl
theorem Cp :aZ prog 52=some ⟨4,32,[.int .i64 0,.int .i64 0,.int .i64 0,.int .i64 0],.arr 4 36,false,some [.int,.int,.int,.int],true⟩:=by kernel_rfl
theorem UY :aZ prog 145=some ⟨3,40,[.int .i64 0,.int .i64 0,.slice none 0 0],.gJ [(0,3,false),(1,3,false),(2,44,false)],false,none,true⟩:=by kernel_rfl
theorem UX :aZ prog 220=some ⟨13,144,[.int .i64 0,.int .i64 0,.string ⟨#[]⟩,.string ⟨#[]⟩,.int .i64 0,.int .i64 0,.int .i64 0,.int .i64 0,.string ⟨#[]⟩,.string ⟨#[]⟩,.int .i64 0,.string ⟨#[]⟩,.int .i64 0],.gJ [(0,3,false),(1,218,false)],false,some [.int,.int,.str,.str,.int,.int,.int,.int,.str,.str,.int,.str,.int],true⟩:=by kernel_rfl
@[simp] theorem tj0 :aZ prog 3=some ⟨1,8,[.int .i64 0],.int .i64,false,some [.int],false⟩/\dC prog 3=1/\aZ prog 4=some ⟨1,1,[.bool false],.bool,false,some [.bool],false⟩/\dC prog 4=1/\aZ prog 5=some ⟨1,1,[.int .u8 0],.int .u8,false,some [.int],false⟩/\aZ prog 9=some ⟨1,16,[.string ⟨#[]⟩],.str,false,some [.str],false⟩/\dC prog 9=1/\aZ prog 21=some ⟨1,4,[.int .i32 0],.int .i32,false,some [.int],false⟩:=by and_intros<;>kernel_rfl
@[simp] theorem tj1 :aZ prog 23=some ⟨4,32,[.int .i64 0,.int .i64 0,.int .i64 0,.int .i64 0],.gJ [(0,3,false),(1,3,false),(2,3,false),(3,3,false)],false,some [.int,.int,.int,.int],true⟩/\aZ prog 24=some ⟨1,24,[.slice none 0 0],.fL 115,false,none,false⟩/\aZ prog 27=some ⟨1,8,[.pointer none],.ptr 92,false,none,false⟩/\aZ prog 29=some ⟨4,32,[.int .i64 0,.int .i64 0,.int .i64 0,.int .i64 0],.gJ [(0,3,false),(1,3,false),(2,3,false),(3,3,false)],false,some [.int,.int,.int,.int],true⟩/\dC prog 29=4/\aZ prog 31=some ⟨1,24,[.slice none 0 0],.fL 48,false,none,false⟩/\aZ prog 33=some ⟨1,24,[.slice none 0 0],.fL 44,false,none,false⟩/\dC prog 33=1:=by and_intros<;>kernel_rfl
@[simp] theorem tj2 :aZ prog 34=some ⟨1,24,[.slice none 0 0],.fL 4,false,none,false⟩/\aZ prog 35=some ⟨1,24,[.slice none 0 0],.fL 67,false,none,false⟩/\dC prog 36=1/\aZ prog 38=some ⟨3,32,[.int .i64 0,.string ⟨#[]⟩,.int .i64 0],.gJ [(0,3,false),(1,9,false),(2,3,false)],false,some [.int,.str,.int],true⟩/\dC prog 38=3/\aZ prog 39=some ⟨1,24,[.slice none 0 0],.fL 3,false,none,false⟩/\dC prog 39=1/\aZ prog 40=some ⟨1,24,[.slice none 0 0],.fL 149,false,none,false⟩:=by and_intros<;>kernel_rfl
@[simp] theorem tj3 :dC prog 40=1/\aZ prog 42=some ⟨7,96,[.int .i64 0,.int .i64 0,.int .i64 0,.string ⟨#[]⟩,.int .i64 0,.slice none 0 0,.slice none 0 0],.gJ [(0,36,false),(1,3,false),(2,38,false),(5,39,false),(6,40,false)],false,none,true⟩/\aZ prog 43=some ⟨1,8,[.nilFunc],.func,false,none,false⟩/\aZ prog 44=some ⟨1,24,[.slice none 0 0],.fL 126,false,none,false⟩/\dC prog 44=1/\aZ prog 46=some ⟨5,56,[.int .i64 0,.string ⟨#[]⟩,.string ⟨#[]⟩,.int .i64 0,.int .i64 0],.gJ [(0,3,false),(1,9,false),(2,9,false),(3,3,false),(4,3,false)],false,some [.int,.str,.str,.int,.int],true⟩/\dC prog 46=5/\aZ prog 48=some ⟨11,136,[.int .i64 0,.int .i64 0,.int .i64 0,.int .i64 0,.slice none 0 0,.slice none 0 0,.int .i64 0,.string ⟨#[]⟩,.string ⟨#[]⟩,.int .i64 0,.int .i64 0],.gJ [(0,3,false),(1,3,false),(2,3,false),(3,3,false),(4,44,false),(5,40,false),(6,46,false)],false,none,true⟩:=by and_intros<;>kernel_rfl
@[simp] theorem tj4 :aZ prog 49=some ⟨4,32,[.int .i64 0,.int .i64 0,.int .i64 0,.int .i64 0],.arr 4 3,false,some [.int,.int,.int,.int],true⟩/\dC prog 49=4/\aZ prog 51=some ⟨5,40,[.int .i64 0,.int .i64 0,.int .i64 0,.int .i64 0,.int .i64 0],.gJ [(0,49,false),(4,3,false)],false,some [.int,.int,.int,.int,.int],true⟩/\dC prog 51=5/\dC prog 52=4/\aZ prog 54=some ⟨2,32,[.int .i64 0,.slice none 0 0],.gJ [(0,3,false),(1,44,false)],false,none,true⟩/\dC prog 54=2/\aZ prog 56=some ⟨4,64,[.int .i64 0,.slice none 0 0,.bool false,.slice none 0 0],.gJ [(0,54,false),(2,4,false),(3,44,false)],false,none,true⟩:=by and_intros<;>kernel_rfl
@[simp] theorem tj5 :dC prog 56=4/\aZ prog 57=some ⟨1,24,[.slice none 0 0],.fL 145,false,none,false⟩/\dC prog 57=1/\aZ prog 59=some ⟨2,32,[.int .i64 0,.slice none 0 0],.gJ [(0,3,false),(1,57,false)],false,none,true⟩/\dC prog 59=2/\aZ prog 61=some ⟨18,192,[.int .i64 0,.int .i64 0,.bool false,.int .i64 0,.int .i64 0,.int .i64 0,.int .i64 0,.int .i64 0,.int .i64 0,.int .i64 0,.int .i64 0,.int .i64 0,.int .i64 0,.slice none 0 0,.bool false,.slice none 0 0,.int .i64 0,.slice none 0 0],.gJ [(0,3,false),(1,3,false),(2,4,false),(3,51,false),(8,52,false),(12,56,false),(16,59,false)],false,none,true⟩/\dC prog 61=18/\aZ prog 67=some ⟨8,80,[.int .i64 0,.int .i64 0,.int .i64 0,.int .i64 0,.string ⟨#[]⟩,.string ⟨#[]⟩,.int .i64 0,.int .i64 0],.gJ [(0,3,false),(1,3,false),(2,3,false),(3,46,false)],false,some [.int,.int,.int,.int,.str,.str,.int,.int],true⟩:=by and_intros<;>kernel_rfl
@[simp] theorem tj6 :aZ prog 72=some ⟨1,24,[.slice none 0 0],.fL 42,false,none,false⟩/\aZ prog 78=some ⟨2,32,[.int .i64 0,.slice none 0 0],.gJ [(0,3,false),(1,33,false)],false,none,true⟩/\dC prog 78=2/\aZ prog 86=some ⟨1,24,[.slice none 0 0],.fL 46,false,none,false⟩/\aZ prog 90=some ⟨1,24,[.slice none 0 0],.fL 93,false,none,false⟩/\dC prog 90=1/\aZ prog 92=some ⟨8,96,[.int .i64 0,.int .i64 0,.int .i64 0,.int .i64 0,.int .i64 0,.slice none 0 0,.slice none 0 0,.int .i64 0],.gJ [(0,29,false),(4,78,false),(6,90,false),(7,3,false)],false,none,true⟩/\aZ prog 93=some ⟨1,8,[.pointer none],.ptr 114,false,none,false⟩:=by and_intros<;>kernel_rfl
@[simp] theorem tj7 :aZ prog 95=some ⟨4,4,[.bool false,.bool false,.bool false,.bool false],.arr 4 4,false,some [.bool,.bool,.bool,.bool],true⟩/\dC prog 95=4/\aZ prog 97=some ⟨9,48,[.int .i64 0,.int .i64 0,.int .i64 0,.int .i64 0,.bool false,.bool false,.bool false,.bool false,.int .i64 0],.gJ [(0,49,false),(4,95,false),(8,3,false)],false,some [.int,.int,.int,.int,.bool,.bool,.bool,.bool,.int],true⟩/\dC prog 97=9/\aZ prog 98=some ⟨1,24,[.slice none 0 0],.fL 376,false,none,false⟩/\dC prog 98=1/\aZ prog 100=some ⟨10,144,[.int .i64 0,.int .i64 0,.int .i64 0,.int .i64 0,.int .i64 0,.slice none 0 0,.slice none 0 0,.int .i64 0,.slice none 0 0,.slice none 0 0],.gJ [(0,3,false),(1,3,false),(2,3,false),(3,3,false),(4,3,false),(5,44,false),(6,40,false),(7,36,false),(8,98,false),(9,40,false)],false,none,true⟩/\dC prog 100=10:=by and_intros<;>kernel_rfl
@[simp] theorem tj8 :aZ prog 102=some ⟨14,208,[.slice none 0 0,.slice none 0 0,.int .i64 0,.int .i64 0,.int .i64 0,.int .i64 0,.int .i64 0,.int .i64 0,.slice none 0 0,.slice none 0 0,.int .i64 0,.slice none 0 0,.slice none 0 0,.bool false],.gJ [(0,44,false),(1,40,false),(2,3,false),(3,100,false),(13,4,false)],false,none,true⟩/\dC prog 102=14/\aZ prog 104=some ⟨27,288,[.int .i64 0,.bool false,.int .i64 0,.int .i64 0,.int .i64 0,.int .i64 0,.bool false,.bool false,.bool false,.bool false,.int .i64 0,.slice none 0 0,.slice none 0 0,.int .i64 0,.int .i64 0,.int .i64 0,.int .i64 0,.int .i64 0,.int .i64 0,.slice none 0 0,.slice none 0 0,.int .i64 0,.slice none 0 0,.slice none 0 0,.bool false,.int .i64 0,.int .i64 0],.gJ [(0,3,false),(1,4,false),(2,97,false),(11,102,false),(25,36,false),(26,3,false)],false,none,true⟩/\dC prog 104=27/\aZ prog 106=some ⟨1,24,[.slice none 0 0],.fL 200,false,none,false⟩/\dC prog 106=1/\aZ prog 108=some ⟨2,32,[.int .i64 0,.slice none 0 0],.gJ [(0,3,false),(1,106,false)],false,none,true⟩/\aZ prog 109=some ⟨4,64,[.int .i64 0,.slice none 0 0,.int .i64 0,.slice none 0 0],.arr 2 108,false,none,true⟩:=by and_intros<;>kernel_rfl
@[simp] theorem tj9 :dC prog 109=4/\aZ prog 110=some ⟨1,24,[.slice none 0 0],.fL 220,false,none,false⟩/\dC prog 110=1/\aZ prog 112=some ⟨3,56,[.int .i64 0,.slice none 0 0,.slice none 0 0],.gJ [(0,3,false),(1,110,false),(2,110,false)],false,none,true⟩/\dC prog 112=3/\aZ prog 114=some ⟨52,600,[.int .i64 0,.int .i64 0,.bool false,.int .i64 0,.int .i64 0,.int .i64 0,.int .i64 0,.int .i64 0,.int .i64 0,.int .i64 0,.int .i64 0,.int .i64 0,.int .i64 0,.slice none 0 0,.bool false,.slice none 0 0,.int .i64 0,.slice none 0 0,.int .i64 0,.bool false,.int .i64 0,.int .i64 0,.int .i64 0,.int .i64 0,.bool false,.bool false,.bool false,.bool false,.int .i64 0,.slice none 0 0,.slice none 0 0,.int .i64 0,.int .i64 0,.int .i64 0,.int .i64 0,.int .i64 0,.int .i64 0,.slice none 0 0,.slice none 0 0,.int .i64 0,.slice none 0 0,.slice none 0 0,.bool false,.int .i64 0,.int .i64 0,.int .i64 0,.slice none 0 0,.int .i64 0,.slice none 0 0,.int .i64 0,.slice none 0 0,.slice none 0 0],.gJ [(0,61,false),(18,104,false),(45,109,false),(49,112,false)],false,none,true⟩/\aZ prog 115=some ⟨11,136,[.int .i64 0,.int .i64 0,.int .i64 0,.int .i64 0,.slice none 0 0,.slice none 0 0,.int .i64 0,.string ⟨#[]⟩,.string ⟨#[]⟩,.int .i64 0,.int .i64 0],.gJ [(0,3,false),(1,3,false),(2,3,false),(3,3,false),(4,44,false),(5,40,false),(6,46,false)],false,none,true⟩/\aZ prog 124=some ⟨1,24,[.slice none 0 0],.fL 131,false,none,false⟩:=by and_intros<;>kernel_rfl
@[simp] theorem tj10 :dC prog 124=1/\aZ prog 126=some ⟨7,104,[.int .i64 0,.string ⟨#[]⟩,.int .i64 0,.int .i64 0,.string ⟨#[]⟩,.slice none 0 0,.slice none 0 0],.gJ [(0,3,false),(1,9,false),(2,3,false),(3,3,false),(4,9,false),(5,124,false),(6,39,false)],false,none,true⟩/\aZ prog 129=some ⟨1,24,[.slice none 0 0],.fL 163,false,none,false⟩/\dC prog 129=1/\aZ prog 131=some ⟨3,56,[.string ⟨#[]⟩,.string ⟨#[]⟩,.slice none 0 0],.gJ [(0,9,false),(1,9,false),(2,129,false)],false,none,true⟩/\aZ prog 141=some ⟨1,8,[.nilFunc],.func,false,none,false⟩/\aZ prog 149=some ⟨2,24,[.int .i64 0,.string ⟨#[]⟩],.gJ [(0,3,false),(1,9,false)],false,some [.int,.str],true⟩/\dC prog 149=2:=by and_intros<;>kernel_rfl
@[simp] theorem tj11 :aZ prog 157=some ⟨1,8,[.map none],.map 149 4,false,none,false⟩/\dC prog 157=1/\aZ prog 158=some ⟨1,8,[.map none],.map 149 4,false,none,false⟩/\aZ prog 163=some ⟨2,24,[.string ⟨#[]⟩,.int .i64 0],.gJ [(0,9,false),(1,3,false)],false,some [.str,.int],true⟩/\aZ prog 170=some ⟨10,160,[.string ⟨#[]⟩,.string ⟨#[]⟩,.string ⟨#[]⟩,.string ⟨#[]⟩,.string ⟨#[]⟩,.string ⟨#[]⟩,.string ⟨#[]⟩,.string ⟨#[]⟩,.string ⟨#[]⟩,.string ⟨#[]⟩],.arr 10 9,false,some [.str,.str,.str,.str,.str,.str,.str,.str,.str,.str],true⟩/\aZ prog 173=some ⟨1,8,[.nilFunc],.func,false,none,false⟩/\aZ prog 185=some ⟨1,8,[.int .u64 0],.int .u64,false,some [.int],false⟩/\aZ prog 190=some ⟨1,8,[.map none],.map 149 40,false,none,false⟩:=by and_intros<;>kernel_rfl
@[simp] theorem tj12 :aZ prog 192=some ⟨1,8,[.nilFunc],.func,false,none,false⟩/\aZ prog 197=some ⟨1,24,[.slice none 0 0],.fL 100,false,none,false⟩/\dC prog 197=1/\aZ prog 200=some ⟨1,24,[.slice none 0 0],.fL 5,false,none,false⟩/\dC prog 200=1/\aZ prog 218=some ⟨12,136,[.int .i64 0,.string ⟨#[]⟩,.string ⟨#[]⟩,.int .i64 0,.int .i64 0,.int .i64 0,.int .i64 0,.string ⟨#[]⟩,.string ⟨#[]⟩,.int .i64 0,.string ⟨#[]⟩,.int .i64 0],.gJ [(0,46,false),(5,3,false),(6,3,false),(7,9,false),(8,9,false),(9,38,false)],false,some [.int,.str,.str,.int,.int,.int,.int,.str,.str,.int,.str,.int],true⟩/\dC prog 218=12/\aZ prog 224=some ⟨1,24,[.slice none 0 0],.fL 36,false,none,false⟩:=by and_intros<;>kernel_rfl
@[simp] theorem tj13 :aZ prog 252=some ⟨1,16,[.nilIface],.iface false,true,none,false⟩/\aZ prog 300=some ⟨1,8,[.pointer none],.ptr 304,false,none,false⟩/\aZ prog 304=some ⟨2,16,[.int .i64 0,.int .i64 0],.gJ [(0,36,false),(1,3,false)],false,some [.int,.int],true⟩/\aZ prog 306=some ⟨3,56,[.int .i64 0,.slice none 0 0,.slice none 0 0],.gJ [(0,3,false),(1,44,false),(2,40,false)],false,none,true⟩/\aZ prog 315=some ⟨1,24,[.slice none 0 0],.fL 106,false,none,false⟩/\aZ prog 317=some ⟨1,8,[.pointer none],.ptr 319,false,none,false⟩/\aZ prog 319=some ⟨2,32,[.slice none 0 0,.int .i64 0],.gJ [(0,200,false),(1,36,false)],false,none,true⟩/\aZ prog 339=some ⟨31,352,[.int .i64 0,.string ⟨#[]⟩,.string ⟨#[]⟩,.int .i64 0,.int .i64 0,.int .i64 0,.int .i64 0,.string ⟨#[]⟩,.string ⟨#[]⟩,.int .i64 0,.string ⟨#[]⟩,.int .i64 0,.int .i64 0,.int .i64 0,.bool false,.int .i64 0,.int .i64 0,.int .i64 0,.int .i64 0,.int .i64 0,.int .i64 0,.int .i64 0,.int .i64 0,.int .i64 0,.int .i64 0,.slice none 0 0,.bool false,.slice none 0 0,.int .i64 0,.slice none 0 0,.slice none 0 0],.gJ [(0,218,false),(12,61,false),(30,197,false)],false,none,true⟩:=by and_intros<;>kernel_rfl
@[simp] theorem tj14 :aZ prog 366=some ⟨1,24,[.slice none 0 0],.fL 372,false,none,false⟩/\aZ prog 367=some ⟨1,8,[.pointer none],.ptr 447,false,none,false⟩/\aZ prog 370=some ⟨1,8,[.nilFunc],.func,false,none,false⟩/\dC prog 370=1/\aZ prog 372=some ⟨2,32,[.slice none 0 0,.nilFunc],.gJ [(0,39,false),(1,370,false)],false,none,true⟩/\aZ prog 376=some ⟨3,32,[.int .i64 0,.string ⟨#[]⟩,.int .i64 0],.gJ [(0,149,false),(2,3,false)],false,some [.int,.str,.int],true⟩/\aZ prog 389=some ⟨5,72,[.int .i64 0,.slice none 0 0,.bool false,.slice none 0 0,.bool false],.gJ [(0,56,false),(4,4,false)],false,none,true⟩/\aZ prog 401=some ⟨1,8,[.nilFunc],.func,false,none,false⟩:=by and_intros<;>kernel_rfl
@[simp] theorem tj15 :aZ prog 425=some ⟨4,4,[.bool false,.bool false,.bool false,.bool false],.gJ [(0,4,false),(1,4,false),(2,4,false),(3,4,false)],false,some [.bool,.bool,.bool,.bool],true⟩/\aZ prog 447=some ⟨5,104,[.slice none 0 0,.slice none 0 0,.map none,.slice none 0 0,.slice none 0 0],.gJ [(0,44,false),(1,40,false),(2,157,false),(3,44,false),(4,40,false)],false,none,true⟩/\aZ prog 469=some ⟨3,24,[.int .i64 0,.int .i64 0,.int .i64 0],.gJ [(0,3,false),(1,3,false),(2,3,false)],false,some [.int,.int,.int],true⟩/\aZ prog 479=some ⟨1,8,[.map none],.map 149 126,false,none,false⟩/\x8 prog 157=some ⟨149,4,true,[.int,.str],⟨1,1,[.bool false],.bool,false,some [.bool],false⟩⟩/\x8 prog 158=some ⟨149,4,true,[.int,.str],⟨1,1,[.bool false],.bool,false,some [.bool],false⟩⟩/\x8 prog 190=some ⟨149,40,true,[.int,.str],⟨1,24,[.slice none 0 0],.fL 149,false,none,false⟩⟩/\x8 prog 409=some ⟨3,4,false,[.int],⟨1,1,[.bool false],.bool,false,some [.bool],false⟩⟩:=by and_intros<;>kernel_rfl
@[simp] theorem tj16 :x8 prog 479=some ⟨149,126,true,[.int,.str],⟨7,104,[.int .i64 0,.string ⟨#[]⟩,.int .i64 0,.int .i64 0,.string ⟨#[]⟩,.slice none 0 0,.slice none 0 0],.gJ [(0,3,false),(1,9,false),(2,3,false),(3,3,false),(4,9,false),(5,124,false),(6,39,false)],false,none,true⟩⟩:=by and_intros<;>kernel_rfl
attribute [simp] Cq Cp UY UX
end Go.Proofs.YtegplpagkajolaaGreatDoor
namespace Go.Proofs
open Go.Shelf
def Tryz.zfF :Go.Shelf.Ren:=⟨fun|106=>153|213=>202|265=>261|n=>n,fun|9=>9|3=>3|n=>n,fun|n=>n⟩
theorem Tryz.zfG :Go.Proofs.Lays.n106 Tryz.prog Tryz.zfF:={
 mixed:=by kernel_rfl
 f106:=Tryz.func153.trans (dH some (by kernel_rfl))
 f213:=Tryz.func202.trans (dH some (by kernel_rfl))
 f265:=Tryz.func261.trans (dH some (by kernel_rfl))
 t3:=Tryz.underlying3
 a3:=Tryz.isAgg3
 z3:=Tryz.sizeOf3
 v3:=Tryz.zeroValue3
 t9:=Tryz.underlying9
 a9:=Tryz.isAgg9
 z9:=Tryz.sizeOf9
 v9:=Tryz.zeroValue9}
open Go.RowKit in
theorem Tryz.strings_Compare (a b:ByteArray)(w:World):
  Calls Tryz.prog 153 #[.string a,.string b] w fun e w'=>e=.returned (.int .i64 (Lib.compareBytes a.data.toList b.data.toList))/\w'=w:=Any.strings_Compare Tryz.zfG a b w
def Tryz.zfD :Go.Shelf.Ren:=⟨fun|143=>412|219=>420|217=>422|225=>423|224=>424|267=>425|266=>426|314=>427|n=>n,fun|9=>9|3=>3|4=>4|5=>5|46=>185|146=>505|51=>242|n=>n,fun|1=>0|n=>n⟩
theorem Tryz.zfE :Go.Proofs.Lays.n143 Tryz.prog Tryz.zfD:={
 mixed:=by kernel_rfl
 f143:=Tryz.func412.trans (dH some (by kernel_rfl))
 f217:=Tryz.func422.trans (dH some (by kernel_rfl))
 f219:=Tryz.func420.trans (dH some (by kernel_rfl))
 f224:=Tryz.func424.trans (dH some (by kernel_rfl))
 f225:=Tryz.func423.trans (dH some (by kernel_rfl))
 f266:=Tryz.func426.trans (dH some (by kernel_rfl))
 f267:=Tryz.func425.trans (dH some (by kernel_rfl))
 f314:=Tryz.func427.trans (dH some (by kernel_rfl))
 t3:=Tryz.underlying3
 a3:=Tryz.isAgg3
 z3:=Tryz.sizeOf3
 v3:=Tryz.zeroValue3
 t4:=Tryz.underlying4
 a4:=Tryz.isAgg4
 z4:=Tryz.sizeOf4
 v4:=Tryz.zeroValue4
 t5:=Tryz.underlying5
 a5:=Tryz.isAgg5
 z5:=Tryz.sizeOf5
 v5:=Tryz.zeroValue5
 t9:=Tryz.underlying9
 a9:=Tryz.isAgg9
 z9:=Tryz.sizeOf9
 v9:=Tryz.zeroValue9
 t46:=Tryz.underlying185
 a46:=Tryz.isAgg185
 z46:=Tryz.sizeOf185
 v46:=Tryz.zeroValue185
 t51:=Tryz.underlying242
 a51:=Tryz.isAgg242
 z51:=Tryz.sizeOf242
 v51:=Tryz.zeroValue242
 t146:=Tryz.underlying505
 a146:=Tryz.isAgg505
 z146:=Tryz.sizeOf505
 v146:=Tryz.zeroValue505
 g1:=by kernel_rfl}
open Go.RowKit Go.Lib in
theorem Tryz.strings_Index_one (s:ByteArray)(c:UInt8)(w:World):
  Calls Tryz.prog 412 #[.string s,.string ⟨#[c]⟩] w fun e w'=>e=.returned (.int .i64 (Lib.indexByte s.data.toList c))/\w'=w:=Any.strings_Index_one Tryz.zfE s c w
def Tryz.Zx :Go.Shelf.Ren:=⟨fun|6=>56|15=>99|14=>98|28=>150|29=>151|20=>142|21=>143|22=>144|23=>145|24=>146|25=>147|26=>148|27=>149|46=>197|47=>198|48=>199|49=>200|50=>201|57=>260|n=>n,fun|22=>40|24=>149|25=>150|3=>3|39=>185|0=>0|53=>242|55=>244|4=>4|46=>236|45=>235|50=>138|5=>5|9=>9|66=>288|70=>292|76=>347|77=>348|n=>n,fun|n=>n⟩
theorem Tryz.Dx :Go.Proofs.SlLaysF0.n6 Tryz.prog Tryz.Zx:={
 mixed:=by kernel_rfl
 f6:=⟨Tryz.f56.name,by decide,Tryz.func56.trans (dH some (by kernel_rfl))⟩
 f14:=⟨Tryz.f98.name,by decide,Tryz.func98.trans (dH some (by kernel_rfl))⟩
 f15:=Tryz.func99.trans (dH some (by kernel_rfl))
 f20:=⟨Tryz.f142.name,by decide,Tryz.func142.trans (dH some (by kernel_rfl))⟩
 f21:=⟨Tryz.f143.name,by decide,Tryz.func143.trans (dH some (by kernel_rfl))⟩
 f22:=⟨Tryz.f144.name,by decide,Tryz.func144.trans (dH some (by kernel_rfl))⟩
 f23:=⟨Tryz.f145.name,by decide,Tryz.func145.trans (dH some (by kernel_rfl))⟩
 f24:=⟨Tryz.f146.name,by decide,Tryz.func146.trans (dH some (by kernel_rfl))⟩
 f25:=⟨Tryz.f147.name,by decide,Tryz.func147.trans (dH some (by kernel_rfl))⟩
 f26:=⟨Tryz.f148.name,by decide,Tryz.func148.trans (dH some (by kernel_rfl))⟩
 f27:=⟨Tryz.f149.name,by decide,Tryz.func149.trans (dH some (by kernel_rfl))⟩
 f28:=Tryz.func150.trans (dH some (by kernel_rfl))
 f29:=Tryz.func151.trans (dH some (by kernel_rfl))
 f46:=⟨Tryz.f197.name,by decide,Tryz.func197.trans (dH some (by kernel_rfl))⟩
 f47:=Tryz.func198.trans (dH some (by kernel_rfl))
 f48:=Tryz.func199.trans (dH some (by kernel_rfl))
 f49:=⟨Tryz.f200.name,by decide,Tryz.func200.trans (dH some (by kernel_rfl))⟩
 f50:=⟨Tryz.f201.name,by decide,Tryz.func201.trans (dH some (by kernel_rfl))⟩
 f57:=⟨Tryz.f260.name,by decide,Tryz.func260.trans (dH some (by kernel_rfl))⟩
 t0:=Tryz.underlying0
 a0:=Tryz.isAgg0
 z0:=Tryz.sizeOf0
 v0:=Tryz.zeroValue0
 t3:=Tryz.underlying3
 a3:=Tryz.isAgg3
 z3:=Tryz.sizeOf3
 v3:=Tryz.zeroValue3
 t4:=Tryz.underlying4
 a4:=Tryz.isAgg4
 z4:=Tryz.sizeOf4
 v4:=Tryz.zeroValue4
 t5:=Tryz.underlying5
 a5:=Tryz.isAgg5
 z5:=Tryz.sizeOf5
 v5:=Tryz.zeroValue5
 t9:=Tryz.underlying9
 a9:=Tryz.isAgg9
 z9:=Tryz.sizeOf9
 v9:=Tryz.zeroValue9
 t22:=Tryz.underlying40
 a22:=Tryz.isAgg40
 z22:=Tryz.sizeOf40
 v22:=Tryz.zeroValue40
 t25:=Tryz.underlying150
 a25:=Tryz.isAgg150
 z25:=Tryz.sizeOf150
 v25:=Tryz.zeroValue150
 t39:=Tryz.underlying185
 a39:=Tryz.isAgg185
 z39:=Tryz.sizeOf185
 v39:=Tryz.zeroValue185
 t45:=Tryz.underlying235
 a45:=Tryz.isAgg235
 z45:=Tryz.sizeOf235
 v45:=Tryz.zeroValue235
 t46:=Tryz.underlying236
 a46:=Tryz.isAgg236
 z46:=Tryz.sizeOf236
 v46:=Tryz.zeroValue236
 t50:=Tryz.underlying138
 a50:=Tryz.isAgg138
 z50:=Tryz.sizeOf138
 v50:=Tryz.zeroValue138
 t53:=Tryz.underlying242
 a53:=Tryz.isAgg242
 z53:=Tryz.sizeOf242
 v53:=Tryz.zeroValue242
 t55:=Tryz.underlying244
 a55:=Tryz.isAgg244
 z55:=Tryz.sizeOf244
 v55:=Tryz.zeroValue244
 t66:=Tryz.underlying288
 a66:=Tryz.isAgg288
 z66:=Tryz.sizeOf288
 v66:=Tryz.zeroValue288
 t70:=Tryz.underlying292
 a70:=Tryz.isAgg292
 z70:=Tryz.sizeOf292
 v70:=Tryz.zeroValue292
 t76:=Tryz.underlying347
 a76:=Tryz.isAgg347
 z76:=Tryz.sizeOf347
 v76:=Tryz.zeroValue347
 t77:=Tryz.underlying348
 a77:=Tryz.isAgg348
 z77:=Tryz.sizeOf348
 v77:=Tryz.zeroValue348}
end Go.Proofs
