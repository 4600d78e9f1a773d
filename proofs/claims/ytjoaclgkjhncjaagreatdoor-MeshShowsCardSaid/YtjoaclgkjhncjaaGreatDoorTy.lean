/-
  Facts about the types of this program, and the library's contracts laid at it.
-/
import Derived.Test.YtjoaclgkjhncjaaGreatDoorFc
import Derived.Test.YtjoaclgkjhncjaaGreatDoorProg
import Derived.Shelf.Small.Strs
import Derived.Shelf.Strings.Search1
import Derived.Shelf.Strings.Search2
import Derived.Shelf.Strings.Search3
import Derived.Shelf.SlSortCmp.NoneTotal
import Derived.Ground.SlsfProg
set_option linter.unusedSimpArgs false
set_option linter.unusedVariables false
namespace Go.Proofs.YtjoaclgkjhncjaaGreatDoor
open Go.AI Tryz
theorem ti35 :tiOf prog 35=some ⟨1,8,[.int .i64 0],.int .i64,false,some [.int],false⟩:=by kernel_rfl
theorem ti51 :tiOf prog 51=some ⟨4,32,[.int .i64 0,.int .i64 0,.int .i64 0,.int .i64 0],.arr 4 35,false,some [.int,.int,.int,.int],true⟩:=by kernel_rfl
theorem ti78 :tiOf prog 78=some ⟨3,40,[.int .i64 0,.int .i64 0,.slice none 0 0],.strct [(0,3,false),(1,3,false),(2,43,false)],false,none,true⟩:=by kernel_rfl
theorem qp1 :tiOf prog 220=some ⟨13,144,[.int .i64 0,.int .i64 0,.string ⟨#[]⟩,.string ⟨#[]⟩,.int .i64 0,.int .i64 0,.int .i64 0,.int .i64 0,.string ⟨#[]⟩,.string ⟨#[]⟩,.int .i64 0,.string ⟨#[]⟩,.int .i64 0],.strct [(0,3,false),(1,218,false)],false,some [.int,.int,.str,.str,.int,.int,.int,.int,.str,.str,.int,.str,.int],true⟩:=by kernel_rfl
@[simp] theorem tj0 :tiOf prog 3=some ⟨1,8,[.int .i64 0],.int .i64,false,some [.int],false⟩∧szOf prog 3=1∧tiOf prog 4=some ⟨1,1,[.bool false],.bool,false,some [.bool],false⟩∧szOf prog 4=1∧tiOf prog 5=some ⟨1,1,[.int .u8 0],.int .u8,false,some [.int],false⟩∧tiOf prog 9=some ⟨1,16,[.string ⟨#[]⟩],.str,false,some [.str],false⟩∧szOf prog 9=1∧tiOf prog 21=some ⟨1,4,[.int .i32 0],.int .i32,false,some [.int],false⟩:=by and_intros<;>kernel_rfl
@[simp] theorem tj1 :tiOf prog 23=some ⟨4,32,[.int .i64 0,.int .i64 0,.int .i64 0,.int .i64 0],.strct [(0,3,false),(1,3,false),(2,3,false),(3,3,false)],false,some [.int,.int,.int,.int],true⟩∧tiOf prog 24=some ⟨1,24,[.slice none 0 0],.slc 121,false,none,false⟩∧tiOf prog 26=some ⟨2,24,[.int .i64 0,.string ⟨#[]⟩],.strct [(0,3,false),(1,9,false)],false,some [.int,.str],true⟩∧szOf prog 26=2∧tiOf prog 29=some ⟨1,8,[.pointer none],.ptr 108,false,none,false⟩∧tiOf prog 31=some ⟨4,32,[.int .i64 0,.int .i64 0,.int .i64 0,.int .i64 0],.strct [(0,3,false),(1,3,false),(2,3,false),(3,3,false)],false,some [.int,.int,.int,.int],true⟩∧szOf prog 31=4∧tiOf prog 33=some ⟨1,24,[.slice none 0 0],.slc 47,false,none,false⟩:=by and_intros<;>kernel_rfl
@[simp] theorem tj2 :szOf prog 35=1∧tiOf prog 37=some ⟨3,32,[.int .i64 0,.string ⟨#[]⟩,.int .i64 0],.strct [(0,3,false),(1,9,false),(2,3,false)],false,some [.int,.str,.int],true⟩∧szOf prog 37=3∧tiOf prog 38=some ⟨1,24,[.slice none 0 0],.slc 3,false,none,false⟩∧szOf prog 38=1∧tiOf prog 39=some ⟨1,24,[.slice none 0 0],.slc 26,false,none,false⟩∧szOf prog 39=1∧tiOf prog 41=some ⟨7,96,[.int .i64 0,.int .i64 0,.int .i64 0,.string ⟨#[]⟩,.int .i64 0,.slice none 0 0,.slice none 0 0],.strct [(0,35,false),(1,3,false),(2,37,false),(5,38,false),(6,39,false)],false,none,true⟩:=by and_intros<;>kernel_rfl
@[simp] theorem tj3 :tiOf prog 42=some ⟨1,8,[.nilFunc],.func,false,none,false⟩∧tiOf prog 43=some ⟨1,24,[.slice none 0 0],.slc 67,false,none,false⟩∧szOf prog 43=1∧tiOf prog 45=some ⟨5,56,[.int .i64 0,.string ⟨#[]⟩,.string ⟨#[]⟩,.int .i64 0,.int .i64 0],.strct [(0,3,false),(1,9,false),(2,9,false),(3,3,false),(4,3,false)],false,some [.int,.str,.str,.int,.int],true⟩∧szOf prog 45=5∧tiOf prog 47=some ⟨11,136,[.int .i64 0,.int .i64 0,.int .i64 0,.int .i64 0,.slice none 0 0,.slice none 0 0,.int .i64 0,.string ⟨#[]⟩,.string ⟨#[]⟩,.int .i64 0,.int .i64 0],.strct [(0,3,false),(1,3,false),(2,3,false),(3,3,false),(4,43,false),(5,39,false),(6,45,false)],false,none,true⟩∧tiOf prog 48=some ⟨4,32,[.int .i64 0,.int .i64 0,.int .i64 0,.int .i64 0],.arr 4 3,false,some [.int,.int,.int,.int],true⟩∧szOf prog 48=4:=by and_intros<;>kernel_rfl
@[simp] theorem tj4 :tiOf prog 50=some ⟨5,40,[.int .i64 0,.int .i64 0,.int .i64 0,.int .i64 0,.int .i64 0],.strct [(0,48,false),(4,3,false)],false,some [.int,.int,.int,.int,.int],true⟩∧szOf prog 50=5∧szOf prog 51=4∧tiOf prog 53=some ⟨2,32,[.int .i64 0,.slice none 0 0],.strct [(0,3,false),(1,43,false)],false,none,true⟩∧szOf prog 53=2∧tiOf prog 55=some ⟨4,64,[.int .i64 0,.slice none 0 0,.bool false,.slice none 0 0],.strct [(0,53,false),(2,4,false),(3,43,false)],false,none,true⟩∧szOf prog 55=4∧tiOf prog 56=some ⟨1,24,[.slice none 0 0],.slc 78,false,none,false⟩:=by and_intros<;>kernel_rfl
@[simp] theorem tj5 :szOf prog 56=1∧tiOf prog 58=some ⟨2,32,[.int .i64 0,.slice none 0 0],.strct [(0,3,false),(1,56,false)],false,none,true⟩∧szOf prog 58=2∧tiOf prog 60=some ⟨18,192,[.int .i64 0,.int .i64 0,.bool false,.int .i64 0,.int .i64 0,.int .i64 0,.int .i64 0,.int .i64 0,.int .i64 0,.int .i64 0,.int .i64 0,.int .i64 0,.int .i64 0,.slice none 0 0,.bool false,.slice none 0 0,.int .i64 0,.slice none 0 0],.strct [(0,3,false),(1,3,false),(2,4,false),(3,50,false),(8,51,false),(12,55,false),(16,58,false)],false,none,true⟩∧szOf prog 60=18∧tiOf prog 65=some ⟨1,24,[.slice none 0 0],.slc 160,false,none,false⟩∧szOf prog 65=1∧tiOf prog 67=some ⟨7,104,[.int .i64 0,.string ⟨#[]⟩,.int .i64 0,.int .i64 0,.string ⟨#[]⟩,.slice none 0 0,.slice none 0 0],.strct [(0,3,false),(1,9,false),(2,3,false),(3,3,false),(4,9,false),(5,65,false),(6,38,false)],false,none,true⟩:=by and_intros<;>kernel_rfl
@[simp] theorem tj6 :tiOf prog 73=some ⟨1,24,[.slice none 0 0],.slc 43,false,none,false⟩∧szOf prog 73=1∧tiOf prog 75=some ⟨2,32,[.int .i64 0,.slice none 0 0],.strct [(0,3,false),(1,73,false)],false,none,true⟩∧szOf prog 75=2∧tiOf prog 81=some ⟨4,4,[.bool false,.bool false,.bool false,.bool false],.arr 4 4,false,some [.bool,.bool,.bool,.bool],true⟩∧szOf prog 81=4∧tiOf prog 83=some ⟨9,48,[.int .i64 0,.int .i64 0,.int .i64 0,.int .i64 0,.bool false,.bool false,.bool false,.bool false,.int .i64 0],.strct [(0,48,false),(4,81,false),(8,3,false)],false,some [.int,.int,.int,.int,.bool,.bool,.bool,.bool,.int],true⟩∧szOf prog 83=9:=by and_intros<;>kernel_rfl
@[simp] theorem tj7 :tiOf prog 84=some ⟨1,24,[.slice none 0 0],.slc 362,false,none,false⟩∧szOf prog 84=1∧tiOf prog 86=some ⟨10,144,[.int .i64 0,.int .i64 0,.int .i64 0,.int .i64 0,.int .i64 0,.slice none 0 0,.slice none 0 0,.int .i64 0,.slice none 0 0,.slice none 0 0],.strct [(0,3,false),(1,3,false),(2,3,false),(3,3,false),(4,3,false),(5,43,false),(6,39,false),(7,35,false),(8,84,false),(9,39,false)],false,none,true⟩∧szOf prog 86=10∧tiOf prog 88=some ⟨14,208,[.slice none 0 0,.slice none 0 0,.int .i64 0,.int .i64 0,.int .i64 0,.int .i64 0,.int .i64 0,.int .i64 0,.slice none 0 0,.slice none 0 0,.int .i64 0,.slice none 0 0,.slice none 0 0,.bool false],.strct [(0,43,false),(1,39,false),(2,3,false),(3,86,false),(13,4,false)],false,none,true⟩∧szOf prog 88=14∧tiOf prog 90=some ⟨27,288,[.int .i64 0,.bool false,.int .i64 0,.int .i64 0,.int .i64 0,.int .i64 0,.bool false,.bool false,.bool false,.bool false,.int .i64 0,.slice none 0 0,.slice none 0 0,.int .i64 0,.int .i64 0,.int .i64 0,.int .i64 0,.int .i64 0,.int .i64 0,.slice none 0 0,.slice none 0 0,.int .i64 0,.slice none 0 0,.slice none 0 0,.bool false,.int .i64 0,.int .i64 0],.strct [(0,3,false),(1,4,false),(2,83,false),(11,88,false),(25,35,false),(26,3,false)],false,none,true⟩∧szOf prog 90=27:=by and_intros<;>kernel_rfl
@[simp] theorem tj8 :tiOf prog 98=some ⟨3,56,[.int .i64 0,.slice none 0 0,.slice none 0 0],.strct [(0,3,false),(1,43,false),(2,39,false)],false,none,true⟩∧tiOf prog 106=some ⟨1,24,[.slice none 0 0],.slc 109,false,none,false⟩∧szOf prog 106=1∧tiOf prog 108=some ⟨8,96,[.int .i64 0,.int .i64 0,.int .i64 0,.int .i64 0,.int .i64 0,.slice none 0 0,.slice none 0 0,.int .i64 0],.strct [(0,31,false),(4,75,false),(6,106,false),(7,3,false)],false,none,true⟩∧tiOf prog 109=some ⟨1,8,[.pointer none],.ptr 120,false,none,false⟩∧tiOf prog 112=some ⟨1,24,[.slice none 0 0],.slc 199,false,none,false⟩∧szOf prog 112=1∧tiOf prog 114=some ⟨2,32,[.int .i64 0,.slice none 0 0],.strct [(0,3,false),(1,112,false)],false,none,true⟩:=by and_intros<;>kernel_rfl
@[simp] theorem tj9 :tiOf prog 115=some ⟨4,64,[.int .i64 0,.slice none 0 0,.int .i64 0,.slice none 0 0],.arr 2 114,false,none,true⟩∧szOf prog 115=4∧tiOf prog 116=some ⟨1,24,[.slice none 0 0],.slc 220,false,none,false⟩∧szOf prog 116=1∧tiOf prog 118=some ⟨3,56,[.int .i64 0,.slice none 0 0,.slice none 0 0],.strct [(0,3,false),(1,116,false),(2,116,false)],false,none,true⟩∧szOf prog 118=3∧tiOf prog 120=some ⟨52,600,[.int .i64 0,.int .i64 0,.bool false,.int .i64 0,.int .i64 0,.int .i64 0,.int .i64 0,.int .i64 0,.int .i64 0,.int .i64 0,.int .i64 0,.int .i64 0,.int .i64 0,.slice none 0 0,.bool false,.slice none 0 0,.int .i64 0,.slice none 0 0,.int .i64 0,.bool false,.int .i64 0,.int .i64 0,.int .i64 0,.int .i64 0,.bool false,.bool false,.bool false,.bool false,.int .i64 0,.slice none 0 0,.slice none 0 0,.int .i64 0,.int .i64 0,.int .i64 0,.int .i64 0,.int .i64 0,.int .i64 0,.slice none 0 0,.slice none 0 0,.int .i64 0,.slice none 0 0,.slice none 0 0,.bool false,.int .i64 0,.int .i64 0,.int .i64 0,.slice none 0 0,.int .i64 0,.slice none 0 0,.int .i64 0,.slice none 0 0,.slice none 0 0],.strct [(0,60,false),(18,90,false),(45,115,false),(49,118,false)],false,none,true⟩∧tiOf prog 121=some ⟨11,136,[.int .i64 0,.int .i64 0,.int .i64 0,.int .i64 0,.slice none 0 0,.slice none 0 0,.int .i64 0,.string ⟨#[]⟩,.string ⟨#[]⟩,.int .i64 0,.int .i64 0],.strct [(0,3,false),(1,3,false),(2,3,false),(3,3,false),(4,43,false),(5,39,false),(6,45,false)],false,none,true⟩:=by and_intros<;>kernel_rfl
@[simp] theorem tj10 :tiOf prog 131=some ⟨1,8,[.nilFunc],.func,false,none,false⟩∧tiOf prog 144=some ⟨1,24,[.slice none 0 0],.slc 150,false,none,false⟩∧tiOf prog 145=some ⟨1,8,[.pointer none],.ptr 186,false,none,false⟩∧tiOf prog 148=some ⟨1,8,[.nilFunc],.func,false,none,false⟩∧szOf prog 148=1∧tiOf prog 150=some ⟨2,32,[.slice none 0 0,.nilFunc],.strct [(0,38,false),(1,148,false)],false,none,true⟩∧tiOf prog 152=some ⟨1,8,[.map none],.map 26 4,false,none,false⟩∧szOf prog 152=1:=by and_intros<;>kernel_rfl
@[simp] theorem tj11 :tiOf prog 153=some ⟨1,8,[.map none],.map 26 4,false,none,false⟩∧tiOf prog 157=some ⟨2,24,[.string ⟨#[]⟩,.int .i64 0],.strct [(0,9,false),(1,3,false)],false,some [.str,.int],true⟩∧tiOf prog 158=some ⟨1,24,[.slice none 0 0],.slc 157,false,none,false⟩∧szOf prog 158=1∧tiOf prog 160=some ⟨3,56,[.string ⟨#[]⟩,.string ⟨#[]⟩,.slice none 0 0],.strct [(0,9,false),(1,9,false),(2,158,false)],false,none,true⟩∧tiOf prog 169=some ⟨10,160,[.string ⟨#[]⟩,.string ⟨#[]⟩,.string ⟨#[]⟩,.string ⟨#[]⟩,.string ⟨#[]⟩,.string ⟨#[]⟩,.string ⟨#[]⟩,.string ⟨#[]⟩,.string ⟨#[]⟩,.string ⟨#[]⟩],.arr 10 9,false,some [.str,.str,.str,.str,.str,.str,.str,.str,.str,.str],true⟩∧tiOf prog 172=some ⟨1,8,[.nilFunc],.func,false,none,false⟩∧tiOf prog 180=some ⟨1,8,[.int .u64 0],.int .u64,false,some [.int],false⟩:=by and_intros<;>kernel_rfl
@[simp] theorem tj12 :tiOf prog 186=some ⟨5,104,[.slice none 0 0,.slice none 0 0,.map none,.slice none 0 0,.slice none 0 0],.strct [(0,43,false),(1,39,false),(2,152,false),(3,43,false),(4,39,false)],false,none,true⟩∧tiOf prog 189=some ⟨1,8,[.map none],.map 26 39,false,none,false⟩∧tiOf prog 191=some ⟨1,8,[.nilFunc],.func,false,none,false⟩∧tiOf prog 196=some ⟨1,24,[.slice none 0 0],.slc 86,false,none,false⟩∧szOf prog 196=1∧tiOf prog 199=some ⟨1,24,[.slice none 0 0],.slc 5,false,none,false⟩∧szOf prog 199=1∧tiOf prog 218=some ⟨12,136,[.int .i64 0,.string ⟨#[]⟩,.string ⟨#[]⟩,.int .i64 0,.int .i64 0,.int .i64 0,.int .i64 0,.string ⟨#[]⟩,.string ⟨#[]⟩,.int .i64 0,.string ⟨#[]⟩,.int .i64 0],.strct [(0,45,false),(5,3,false),(6,3,false),(7,9,false),(8,9,false),(9,37,false)],false,some [.int,.str,.str,.int,.int,.int,.int,.str,.str,.int,.str,.int],true⟩:=by and_intros<;>kernel_rfl
@[simp] theorem tj13 :szOf prog 218=12∧tiOf prog 224=some ⟨1,24,[.slice none 0 0],.slc 35,false,none,false⟩∧tiOf prog 232=some ⟨1,8,[.nilFunc],.func,false,none,false⟩∧tiOf prog 252=some ⟨1,8,[.map none],.map 26 67,false,none,false⟩∧tiOf prog 259=some ⟨1,16,[.nilIface],.iface false,true,none,false⟩∧tiOf prog 309=some ⟨1,8,[.pointer none],.ptr 313,false,none,false⟩∧tiOf prog 313=some ⟨2,16,[.int .i64 0,.int .i64 0],.strct [(0,35,false),(1,3,false)],false,some [.int,.int],true⟩∧tiOf prog 320=some ⟨1,24,[.slice none 0 0],.slc 112,false,none,false⟩:=by and_intros<;>kernel_rfl
@[simp] theorem tj14 :tiOf prog 322=some ⟨1,8,[.pointer none],.ptr 324,false,none,false⟩∧tiOf prog 324=some ⟨2,32,[.slice none 0 0,.int .i64 0],.strct [(0,199,false),(1,35,false)],false,none,true⟩∧tiOf prog 343=some ⟨31,352,[.int .i64 0,.string ⟨#[]⟩,.string ⟨#[]⟩,.int .i64 0,.int .i64 0,.int .i64 0,.int .i64 0,.string ⟨#[]⟩,.string ⟨#[]⟩,.int .i64 0,.string ⟨#[]⟩,.int .i64 0,.int .i64 0,.int .i64 0,.bool false,.int .i64 0,.int .i64 0,.int .i64 0,.int .i64 0,.int .i64 0,.int .i64 0,.int .i64 0,.int .i64 0,.int .i64 0,.int .i64 0,.slice none 0 0,.bool false,.slice none 0 0,.int .i64 0,.slice none 0 0,.slice none 0 0],.strct [(0,218,false),(12,60,false),(30,196,false)],false,none,true⟩∧tiOf prog 352=some ⟨4,4,[.bool false,.bool false,.bool false,.bool false],.strct [(0,4,false),(1,4,false),(2,4,false),(3,4,false)],false,some [.bool,.bool,.bool,.bool],true⟩∧tiOf prog 362=some ⟨3,32,[.int .i64 0,.string ⟨#[]⟩,.int .i64 0],.strct [(0,26,false),(2,3,false)],false,some [.int,.str,.int],true⟩∧tiOf prog 392=some ⟨5,72,[.int .i64 0,.slice none 0 0,.bool false,.slice none 0 0,.bool false],.strct [(0,55,false),(4,4,false)],false,none,true⟩∧tiOf prog 461=some ⟨3,24,[.int .i64 0,.int .i64 0,.int .i64 0],.strct [(0,3,false),(1,3,false),(2,3,false)],false,some [.int,.int,.int],true⟩∧miOf prog 152=some ⟨26,4,true,[.int,.str],⟨1,1,[.bool false],.bool,false,some [.bool],false⟩⟩:=by and_intros<;>kernel_rfl
@[simp] theorem tj15 :miOf prog 153=some ⟨26,4,true,[.int,.str],⟨1,1,[.bool false],.bool,false,some [.bool],false⟩⟩∧miOf prog 189=some ⟨26,39,true,[.int,.str],⟨1,24,[.slice none 0 0],.slc 26,false,none,false⟩⟩∧miOf prog 229=some ⟨3,4,false,[.int],⟨1,1,[.bool false],.bool,false,some [.bool],false⟩⟩∧miOf prog 252=some ⟨26,67,true,[.int,.str],⟨7,104,[.int .i64 0,.string ⟨#[]⟩,.int .i64 0,.int .i64 0,.string ⟨#[]⟩,.slice none 0 0,.slice none 0 0],.strct [(0,3,false),(1,9,false),(2,3,false),(3,3,false),(4,9,false),(5,65,false),(6,38,false)],false,none,true⟩⟩:=by and_intros<;>kernel_rfl
attribute [simp] ti35 ti51 ti78 qp1
end Go.Proofs.YtjoaclgkjhncjaaGreatDoor
namespace Go.Proofs
open Go.Shelf
def Tryz.lays106_ren :Go.Shelf.Ren:=⟨fun|106=>157|213=>214|265=>277|n=>n,fun|9=>9|3=>3|n=>n,fun|n=>n⟩
theorem Tryz.lays106 :Go.Proofs.Lays.n106 Tryz.prog Tryz.lays106_ren:={
 mixed:=by kernel_rfl
 f106:=Tryz.func157.trans (congrArg some (by kernel_rfl))
 f213:=Tryz.func214.trans (congrArg some (by kernel_rfl))
 f265:=Tryz.func277.trans (congrArg some (by kernel_rfl))
 t3:=Tryz.underlying3
 a3:=Tryz.isAgg3
 z3:=Tryz.sizeOf3
 v3:=Tryz.zeroValue3
 t9:=Tryz.underlying9
 a9:=Tryz.isAgg9
 z9:=Tryz.sizeOf9
 v9:=Tryz.zeroValue9}
open Go.RowKit in
theorem Tryz.strings_Compare (a b:ByteArray)(w:World):
  Calls Tryz.prog 157 #[.string a,.string b] w fun e w'=>e=.returned (.int .i64 (Lib.compareBytes a.data.toList b.data.toList))∧w'=w:=Any.strings_Compare Tryz.lays106 a b w
def Tryz.lays143_ren :Go.Shelf.Ren:=⟨fun|143=>409|219=>411|217=>412|225=>413|224=>414|267=>415|266=>416|314=>417|n=>n,fun|9=>9|3=>3|4=>4|5=>5|46=>180|146=>494|51=>247|n=>n,fun|1=>0|n=>n⟩
theorem Tryz.lays143 :Go.Proofs.Lays.n143 Tryz.prog Tryz.lays143_ren:={
 mixed:=by kernel_rfl
 f143:=Tryz.func409.trans (congrArg some (by kernel_rfl))
 f217:=Tryz.func412.trans (congrArg some (by kernel_rfl))
 f219:=Tryz.func411.trans (congrArg some (by kernel_rfl))
 f224:=Tryz.func414.trans (congrArg some (by kernel_rfl))
 f225:=Tryz.func413.trans (congrArg some (by kernel_rfl))
 f266:=Tryz.func416.trans (congrArg some (by kernel_rfl))
 f267:=Tryz.func415.trans (congrArg some (by kernel_rfl))
 f314:=Tryz.func417.trans (congrArg some (by kernel_rfl))
 t3:=Tryz.underlying3
 a3:=Tryz.isAgg3
 z3:=Tryz.sizeOf3
 v3:=Tryz.zeroValue3
 t4:=Tryz.underlying4
 a4:=Tryz.isAgg4
 z4:=Tryz.sizeOf4
 v4:=Tryz.zeroValue4
 t5:=Tryz.underlying5
 a5:=Tryz.isAgg5
 z5:=Tryz.sizeOf5
 v5:=Tryz.zeroValue5
 t9:=Tryz.underlying9
 a9:=Tryz.isAgg9
 z9:=Tryz.sizeOf9
 v9:=Tryz.zeroValue9
 t46:=Tryz.underlying180
 a46:=Tryz.isAgg180
 z46:=Tryz.sizeOf180
 v46:=Tryz.zeroValue180
 t51:=Tryz.underlying247
 a51:=Tryz.isAgg247
 z51:=Tryz.sizeOf247
 v51:=Tryz.zeroValue247
 t146:=Tryz.underlying494
 a146:=Tryz.isAgg494
 z146:=Tryz.sizeOf494
 v146:=Tryz.zeroValue494
 g1:=by kernel_rfl}
open Go.RowKit Go.Lib in
theorem Tryz.strings_Index_one (s:ByteArray)(c:UInt8)(w:World):
  Calls Tryz.prog 409 #[.string s,.string ⟨#[c]⟩] w fun e w'=>e=.returned (.int .i64 (Lib.indexByte s.data.toList c))∧w'=w:=Any.strings_Index_one Tryz.lays143 s c w
def Tryz.sortKeys_ren :Go.Shelf.Ren:=⟨fun|6=>50|15=>96|14=>95|28=>154|29=>155|20=>146|21=>147|22=>148|23=>149|24=>150|25=>151|26=>152|27=>153|46=>209|47=>210|48=>211|49=>212|50=>213|57=>276|n=>n,fun|22=>39|24=>26|25=>140|3=>3|39=>180|0=>0|53=>247|55=>249|4=>4|46=>241|45=>240|50=>210|5=>5|9=>9|66=>294|70=>298|76=>358|77=>359|n=>n,fun|n=>n⟩
theorem Tryz.sortKeys :Go.Proofs.SlLaysF0.n6 Tryz.prog Tryz.sortKeys_ren:={
 mixed:=by kernel_rfl
 f6:=⟨Tryz.f50.name,by decide,Tryz.func50.trans (congrArg some (by kernel_rfl))⟩
 f14:=⟨Tryz.f95.name,by decide,Tryz.func95.trans (congrArg some (by kernel_rfl))⟩
 f15:=Tryz.func96.trans (congrArg some (by kernel_rfl))
 f20:=⟨Tryz.f146.name,by decide,Tryz.func146.trans (congrArg some (by kernel_rfl))⟩
 f21:=⟨Tryz.f147.name,by decide,Tryz.func147.trans (congrArg some (by kernel_rfl))⟩
 f22:=⟨Tryz.f148.name,by decide,Tryz.func148.trans (congrArg some (by kernel_rfl))⟩
 f23:=⟨Tryz.f149.name,by decide,Tryz.func149.trans (congrArg some (by kernel_rfl))⟩
 f24:=⟨Tryz.f150.name,by decide,Tryz.func150.trans (congrArg some (by kernel_rfl))⟩
 f25:=⟨Tryz.f151.name,by decide,Tryz.func151.trans (congrArg some (by kernel_rfl))⟩
 f26:=⟨Tryz.f152.name,by decide,Tryz.func152.trans (congrArg some (by kernel_rfl))⟩
 f27:=⟨Tryz.f153.name,by decide,Tryz.func153.trans (congrArg some (by kernel_rfl))⟩
 f28:=Tryz.func154.trans (congrArg some (by kernel_rfl))
 f29:=Tryz.func155.trans (congrArg some (by kernel_rfl))
 f46:=⟨Tryz.f209.name,by decide,Tryz.func209.trans (congrArg some (by kernel_rfl))⟩
 f47:=Tryz.func210.trans (congrArg some (by kernel_rfl))
 f48:=Tryz.func211.trans (congrArg some (by kernel_rfl))
 f49:=⟨Tryz.f212.name,by decide,Tryz.func212.trans (congrArg some (by kernel_rfl))⟩
 f50:=⟨Tryz.f213.name,by decide,Tryz.func213.trans (congrArg some (by kernel_rfl))⟩
 f57:=⟨Tryz.f276.name,by decide,Tryz.func276.trans (congrArg some (by kernel_rfl))⟩
 t0:=Tryz.underlying0
 a0:=Tryz.isAgg0
 z0:=Tryz.sizeOf0
 v0:=Tryz.zeroValue0
 t3:=Tryz.underlying3
 a3:=Tryz.isAgg3
 z3:=Tryz.sizeOf3
 v3:=Tryz.zeroValue3
 t4:=Tryz.underlying4
 a4:=Tryz.isAgg4
 z4:=Tryz.sizeOf4
 v4:=Tryz.zeroValue4
 t5:=Tryz.underlying5
 a5:=Tryz.isAgg5
 z5:=Tryz.sizeOf5
 v5:=Tryz.zeroValue5
 t9:=Tryz.underlying9
 a9:=Tryz.isAgg9
 z9:=Tryz.sizeOf9
 v9:=Tryz.zeroValue9
 t22:=Tryz.underlying39
 a22:=Tryz.isAgg39
 z22:=Tryz.sizeOf39
 v22:=Tryz.zeroValue39
 t25:=Tryz.underlying140
 a25:=Tryz.isAgg140
 z25:=Tryz.sizeOf140
 v25:=Tryz.zeroValue140
 t39:=Tryz.underlying180
 a39:=Tryz.isAgg180
 z39:=Tryz.sizeOf180
 v39:=Tryz.zeroValue180
 t45:=Tryz.underlying240
 a45:=Tryz.isAgg240
 z45:=Tryz.sizeOf240
 v45:=Tryz.zeroValue240
 t46:=Tryz.underlying241
 a46:=Tryz.isAgg241
 z46:=Tryz.sizeOf241
 v46:=Tryz.zeroValue241
 t50:=Tryz.underlying210
 a50:=Tryz.isAgg210
 z50:=Tryz.sizeOf210
 v50:=Tryz.zeroValue210
 t53:=Tryz.underlying247
 a53:=Tryz.isAgg247
 z53:=Tryz.sizeOf247
 v53:=Tryz.zeroValue247
 t55:=Tryz.underlying249
 a55:=Tryz.isAgg249
 z55:=Tryz.sizeOf249
 v55:=Tryz.zeroValue249
 t66:=Tryz.underlying294
 a66:=Tryz.isAgg294
 z66:=Tryz.sizeOf294
 v66:=Tryz.zeroValue294
 t70:=Tryz.underlying298
 a70:=Tryz.isAgg298
 z70:=Tryz.sizeOf298
 v70:=Tryz.zeroValue298
 t76:=Tryz.underlying358
 a76:=Tryz.isAgg358
 z76:=Tryz.sizeOf358
 v76:=Tryz.zeroValue358
 t77:=Tryz.underlying359
 a77:=Tryz.isAgg359
 z77:=Tryz.sizeOf359
 v77:=Tryz.zeroValue359}
end Go.Proofs
