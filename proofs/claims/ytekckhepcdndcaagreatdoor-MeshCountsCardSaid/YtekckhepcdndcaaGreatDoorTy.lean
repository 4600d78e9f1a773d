/-
  Facts about the types of this program, and the library's contracts laid at it.
-/
import Derived.Test.YtekckhepcdndcaaGreatDoorFc
import Derived.Test.YtekckhepcdndcaaGreatDoorProg
import Derived.Shelf.Small.Strs
import Derived.Shelf.Strings.Search1
import Derived.Shelf.Strings.Search2
import Derived.Shelf.Strings.Search3
import Derived.Shelf.SlSortCmp.NoneTotal
import Derived.Ground.SlsfProg
set_option linter.unusedSimpArgs false
set_option linter.unusedVariables false
namespace Go.Proofs.YtekckhepcdndcaaGreatDoor
open Go.AI Tryz
theorem ti2 :tiOf prog 2=some ⟨1,8,[.int .i64 0],.int .i64,false,some [.int],false⟩:=by kernel_rfl
theorem ti42 :tiOf prog 42=some ⟨1,8,[.int .i64 0],.int .i64,false,some [.int],false⟩:=by kernel_rfl
theorem ti83 :tiOf prog 83=some ⟨4,32,[.int .i64 0,.int .i64 0,.int .i64 0,.int .i64 0],.arr 4 42,false,some [.int,.int,.int,.int],true⟩:=by kernel_rfl
theorem qot :tiOf prog 213=some ⟨13,144,[.int .i64 0,.int .i64 0,.string ⟨#[]⟩,.string ⟨#[]⟩,.int .i64 0,.int .i64 0,.int .i64 0,.int .i64 0,.string ⟨#[]⟩,.string ⟨#[]⟩,.int .i64 0,.string ⟨#[]⟩,.int .i64 0],.strct [(0,3,false),(1,211,false)],false,some [.int,.int,.str,.str,.int,.int,.int,.int,.str,.str,.int,.str,.int],true⟩:=by kernel_rfl
theorem qos :tiOf prog 312=some ⟨3,40,[.int .i64 0,.int .i64 0,.slice none 0 0],.strct [(0,3,false),(1,3,false),(2,45,false)],false,none,true⟩:=by kernel_rfl
@[simp] theorem tj0 :tiOf prog 1=some ⟨1,8,[.nilFunc],.func,false,none,false⟩∧tiOf prog 3=some ⟨1,8,[.int .i64 0],.int .i64,false,some [.int],false⟩∧szOf prog 3=1∧tiOf prog 4=some ⟨1,1,[.bool false],.bool,false,some [.bool],false⟩∧szOf prog 4=1∧tiOf prog 5=some ⟨1,1,[.int .u8 0],.int .u8,false,some [.int],false⟩∧tiOf prog 9=some ⟨1,16,[.string ⟨#[]⟩],.str,false,some [.str],false⟩∧szOf prog 9=1:=by and_intros<;>kernel_rfl
@[simp] theorem tj1 :tiOf prog 20=some ⟨1,16,[.nilIface],.iface true,false,none,false⟩∧tiOf prog 21=some ⟨1,4,[.int .i32 0],.int .i32,false,some [.int],false⟩∧tiOf prog 22=some ⟨4,32,[.int .i64 0,.int .i64 0,.int .i64 0,.int .i64 0],.strct [(0,3,false),(1,3,false),(2,3,false),(3,3,false)],false,some [.int,.int,.int,.int],true⟩∧tiOf prog 23=some ⟨4,32,[.int .i64 0,.int .i64 0,.int .i64 0,.int .i64 0],.strct [(0,3,false),(1,3,false),(2,3,false),(3,3,false)],false,some [.int,.int,.int,.int],true⟩∧tiOf prog 24=some ⟨1,24,[.slice none 0 0],.slc 106,false,none,false⟩∧tiOf prog 25=some ⟨1,8,[.nilFunc],.func,false,none,false⟩∧tiOf prog 26=some ⟨1,8,[.nilFunc],.func,false,none,false⟩∧tiOf prog 27=some ⟨1,8,[.pointer none],.ptr 109,false,none,false⟩:=by and_intros<;>kernel_rfl
@[simp] theorem tj2 :tiOf prog 28=some ⟨1,24,[.slice none 0 0],.slc 67,false,none,false⟩∧tiOf prog 30=some ⟨1,8,[.nilFunc],.func,false,none,false⟩∧tiOf prog 31=some ⟨4,32,[.int .i64 0,.int .i64 0,.int .i64 0,.int .i64 0],.strct [(0,3,false),(1,3,false),(2,3,false),(3,3,false)],false,some [.int,.int,.int,.int],true⟩∧szOf prog 31=4∧tiOf prog 32=some ⟨1,8,[.nilFunc],.func,false,none,false⟩∧tiOf prog 33=some ⟨1,24,[.slice none 0 0],.slc 72,false,none,false⟩∧tiOf prog 34=some ⟨1,8,[.nilFunc],.func,false,none,false⟩∧tiOf prog 35=some ⟨1,8,[.nilFunc],.func,false,none,false⟩:=by and_intros<;>kernel_rfl
@[simp] theorem tj3 :tiOf prog 36=some ⟨1,24,[.slice none 0 0],.slc 41,false,none,false⟩∧szOf prog 36=1∧tiOf prog 37=some ⟨2,32,[.int .i64 0,.slice none 0 0],.strct [(0,3,false),(1,36,false)],false,none,true⟩∧tiOf prog 38=some ⟨2,32,[.int .i64 0,.slice none 0 0],.strct [(0,3,false),(1,36,false)],false,none,true⟩∧tiOf prog 40=some ⟨1,8,[.nilFunc],.func,false,none,false⟩∧tiOf prog 41=some ⟨1,24,[.slice none 0 0],.slc 5,false,none,false⟩∧szOf prog 41=1∧szOf prog 42=1:=by and_intros<;>kernel_rfl
@[simp] theorem tj4 :tiOf prog 44=some ⟨1,8,[.nilFunc],.func,false,none,false⟩∧tiOf prog 45=some ⟨1,24,[.slice none 0 0],.slc 146,false,none,false⟩∧szOf prog 45=1∧tiOf prog 46=some ⟨1,24,[.slice none 0 0],.slc 135,false,none,false⟩∧szOf prog 46=1∧tiOf prog 47=some ⟨1,24,[.slice none 0 0],.slc 139,false,none,false⟩∧szOf prog 47=1∧tiOf prog 48=some ⟨10,144,[.int .i64 0,.int .i64 0,.int .i64 0,.int .i64 0,.int .i64 0,.slice none 0 0,.slice none 0 0,.int .i64 0,.slice none 0 0,.slice none 0 0],.strct [(0,3,false),(1,3,false),(2,3,false),(3,3,false),(4,3,false),(5,45,false),(6,46,false),(7,42,false),(8,47,false),(9,46,false)],false,none,true⟩:=by and_intros<;>kernel_rfl
@[simp] theorem tj5 :tiOf prog 49=some ⟨10,144,[.int .i64 0,.int .i64 0,.int .i64 0,.int .i64 0,.int .i64 0,.slice none 0 0,.slice none 0 0,.int .i64 0,.slice none 0 0,.slice none 0 0],.strct [(0,3,false),(1,3,false),(2,3,false),(3,3,false),(4,3,false),(5,45,false),(6,46,false),(7,42,false),(8,47,false),(9,46,false)],false,none,true⟩∧szOf prog 49=10∧tiOf prog 51=some ⟨1,8,[.nilFunc],.func,false,none,false⟩∧tiOf prog 52=some ⟨4,32,[.int .i64 0,.int .i64 0,.int .i64 0,.int .i64 0],.arr 4 3,false,some [.int,.int,.int,.int],true⟩∧szOf prog 52=4∧tiOf prog 53=some ⟨4,4,[.bool false,.bool false,.bool false,.bool false],.arr 4 4,false,some [.bool,.bool,.bool,.bool],true⟩∧szOf prog 53=4∧tiOf prog 54=some ⟨9,48,[.int .i64 0,.int .i64 0,.int .i64 0,.int .i64 0,.bool false,.bool false,.bool false,.bool false,.int .i64 0],.strct [(0,52,false),(4,53,false),(8,3,false)],false,some [.int,.int,.int,.int,.bool,.bool,.bool,.bool,.int],true⟩:=by and_intros<;>kernel_rfl
@[simp] theorem tj6 :tiOf prog 55=some ⟨9,48,[.int .i64 0,.int .i64 0,.int .i64 0,.int .i64 0,.bool false,.bool false,.bool false,.bool false,.int .i64 0],.strct [(0,52,false),(4,53,false),(8,3,false)],false,some [.int,.int,.int,.int,.bool,.bool,.bool,.bool,.int],true⟩∧szOf prog 55=9∧tiOf prog 56=some ⟨14,208,[.slice none 0 0,.slice none 0 0,.int .i64 0,.int .i64 0,.int .i64 0,.int .i64 0,.int .i64 0,.int .i64 0,.slice none 0 0,.slice none 0 0,.int .i64 0,.slice none 0 0,.slice none 0 0,.bool false],.strct [(0,45,false),(1,46,false),(2,3,false),(3,49,false),(13,4,false)],false,none,true⟩∧tiOf prog 57=some ⟨14,208,[.slice none 0 0,.slice none 0 0,.int .i64 0,.int .i64 0,.int .i64 0,.int .i64 0,.int .i64 0,.int .i64 0,.slice none 0 0,.slice none 0 0,.int .i64 0,.slice none 0 0,.slice none 0 0,.bool false],.strct [(0,45,false),(1,46,false),(2,3,false),(3,49,false),(13,4,false)],false,none,true⟩∧szOf prog 57=14∧tiOf prog 58=some ⟨27,288,[.int .i64 0,.bool false,.int .i64 0,.int .i64 0,.int .i64 0,.int .i64 0,.bool false,.bool false,.bool false,.bool false,.int .i64 0,.slice none 0 0,.slice none 0 0,.int .i64 0,.int .i64 0,.int .i64 0,.int .i64 0,.int .i64 0,.int .i64 0,.slice none 0 0,.slice none 0 0,.int .i64 0,.slice none 0 0,.slice none 0 0,.bool false,.int .i64 0,.int .i64 0],.strct [(0,3,false),(1,4,false),(2,55,false),(11,57,false),(25,42,false),(26,3,false)],false,none,true⟩∧tiOf prog 59=some ⟨27,288,[.int .i64 0,.bool false,.int .i64 0,.int .i64 0,.int .i64 0,.int .i64 0,.bool false,.bool false,.bool false,.bool false,.int .i64 0,.slice none 0 0,.slice none 0 0,.int .i64 0,.int .i64 0,.int .i64 0,.int .i64 0,.int .i64 0,.int .i64 0,.slice none 0 0,.slice none 0 0,.int .i64 0,.slice none 0 0,.slice none 0 0,.bool false,.int .i64 0,.int .i64 0],.strct [(0,3,false),(1,4,false),(2,55,false),(11,57,false),(25,42,false),(26,3,false)],false,none,true⟩∧szOf prog 59=27:=by and_intros<;>kernel_rfl
@[simp] theorem tj7 :tiOf prog 61=some ⟨1,8,[.nilFunc],.func,false,none,false⟩∧tiOf prog 62=some ⟨1,8,[.nilFunc],.func,false,none,false⟩∧tiOf prog 63=some ⟨3,32,[.int .i64 0,.string ⟨#[]⟩,.int .i64 0],.strct [(0,3,false),(1,9,false),(2,3,false)],false,some [.int,.str,.int],true⟩∧tiOf prog 64=some ⟨3,32,[.int .i64 0,.string ⟨#[]⟩,.int .i64 0],.strct [(0,3,false),(1,9,false),(2,3,false)],false,some [.int,.str,.int],true⟩∧szOf prog 64=3∧tiOf prog 65=some ⟨1,24,[.slice none 0 0],.slc 3,false,none,false⟩∧szOf prog 65=1∧tiOf prog 66=some ⟨7,96,[.int .i64 0,.int .i64 0,.int .i64 0,.string ⟨#[]⟩,.int .i64 0,.slice none 0 0,.slice none 0 0],.strct [(0,42,false),(1,3,false),(2,64,false),(5,65,false),(6,46,false)],false,none,true⟩:=by and_intros<;>kernel_rfl
@[simp] theorem tj8 :tiOf prog 67=some ⟨7,96,[.int .i64 0,.int .i64 0,.int .i64 0,.string ⟨#[]⟩,.int .i64 0,.slice none 0 0,.slice none 0 0],.strct [(0,42,false),(1,3,false),(2,64,false),(5,65,false),(6,46,false)],false,none,true⟩∧tiOf prog 68=some ⟨1,8,[.nilFunc],.func,false,none,false⟩∧tiOf prog 69=some ⟨5,56,[.int .i64 0,.string ⟨#[]⟩,.string ⟨#[]⟩,.int .i64 0,.int .i64 0],.strct [(0,3,false),(1,9,false),(2,9,false),(3,3,false),(4,3,false)],false,some [.int,.str,.str,.int,.int],true⟩∧tiOf prog 70=some ⟨5,56,[.int .i64 0,.string ⟨#[]⟩,.string ⟨#[]⟩,.int .i64 0,.int .i64 0],.strct [(0,3,false),(1,9,false),(2,9,false),(3,3,false),(4,3,false)],false,some [.int,.str,.str,.int,.int],true⟩∧szOf prog 70=5∧tiOf prog 72=some ⟨11,136,[.int .i64 0,.int .i64 0,.int .i64 0,.int .i64 0,.slice none 0 0,.slice none 0 0,.int .i64 0,.string ⟨#[]⟩,.string ⟨#[]⟩,.int .i64 0,.int .i64 0],.strct [(0,3,false),(1,3,false),(2,3,false),(3,3,false),(4,45,false),(5,46,false),(6,70,false)],false,none,true⟩∧tiOf prog 73=some ⟨1,24,[.slice none 0 0],.slc 45,false,none,false⟩∧szOf prog 73=1:=by and_intros<;>kernel_rfl
@[simp] theorem tj9 :tiOf prog 74=some ⟨2,32,[.int .i64 0,.slice none 0 0],.strct [(0,3,false),(1,73,false)],false,none,true⟩∧tiOf prog 75=some ⟨2,32,[.int .i64 0,.slice none 0 0],.strct [(0,3,false),(1,73,false)],false,none,true⟩∧szOf prog 75=2∧tiOf prog 76=some ⟨1,8,[.nilFunc],.func,false,none,false⟩∧tiOf prog 77=some ⟨1,8,[.nilFunc],.func,false,none,false⟩∧tiOf prog 78=some ⟨7,96,[.int .i64 0,.int .i64 0,.int .i64 0,.string ⟨#[]⟩,.int .i64 0,.slice none 0 0,.slice none 0 0],.strct [(0,42,false),(1,3,false),(2,64,false),(5,65,false),(6,46,false)],false,none,true⟩∧tiOf prog 79=some ⟨1,8,[.nilFunc],.func,false,none,false⟩∧tiOf prog 80=some ⟨1,8,[.nilFunc],.func,false,none,false⟩:=by and_intros<;>kernel_rfl
@[simp] theorem tj10 :tiOf prog 81=some ⟨5,40,[.int .i64 0,.int .i64 0,.int .i64 0,.int .i64 0,.int .i64 0],.strct [(0,52,false),(4,3,false)],false,some [.int,.int,.int,.int,.int],true⟩∧tiOf prog 82=some ⟨5,40,[.int .i64 0,.int .i64 0,.int .i64 0,.int .i64 0,.int .i64 0],.strct [(0,52,false),(4,3,false)],false,some [.int,.int,.int,.int,.int],true⟩∧szOf prog 82=5∧szOf prog 83=4∧tiOf prog 84=some ⟨2,32,[.int .i64 0,.slice none 0 0],.strct [(0,3,false),(1,45,false)],false,none,true⟩∧tiOf prog 85=some ⟨2,32,[.int .i64 0,.slice none 0 0],.strct [(0,3,false),(1,45,false)],false,none,true⟩∧szOf prog 85=2∧tiOf prog 86=some ⟨4,64,[.int .i64 0,.slice none 0 0,.bool false,.slice none 0 0],.strct [(0,85,false),(2,4,false),(3,45,false)],false,none,true⟩:=by and_intros<;>kernel_rfl
@[simp] theorem tj11 :tiOf prog 87=some ⟨4,64,[.int .i64 0,.slice none 0 0,.bool false,.slice none 0 0],.strct [(0,85,false),(2,4,false),(3,45,false)],false,none,true⟩∧szOf prog 87=4∧tiOf prog 88=some ⟨1,24,[.slice none 0 0],.slc 312,false,none,false⟩∧szOf prog 88=1∧tiOf prog 89=some ⟨2,32,[.int .i64 0,.slice none 0 0],.strct [(0,3,false),(1,88,false)],false,none,true⟩∧tiOf prog 90=some ⟨2,32,[.int .i64 0,.slice none 0 0],.strct [(0,3,false),(1,88,false)],false,none,true⟩∧szOf prog 90=2∧tiOf prog 91=some ⟨18,192,[.int .i64 0,.int .i64 0,.bool false,.int .i64 0,.int .i64 0,.int .i64 0,.int .i64 0,.int .i64 0,.int .i64 0,.int .i64 0,.int .i64 0,.int .i64 0,.int .i64 0,.slice none 0 0,.bool false,.slice none 0 0,.int .i64 0,.slice none 0 0],.strct [(0,3,false),(1,3,false),(2,4,false),(3,82,false),(8,83,false),(12,87,false),(16,90,false)],false,none,true⟩:=by and_intros<;>kernel_rfl
@[simp] theorem tj12 :tiOf prog 92=some ⟨18,192,[.int .i64 0,.int .i64 0,.bool false,.int .i64 0,.int .i64 0,.int .i64 0,.int .i64 0,.int .i64 0,.int .i64 0,.int .i64 0,.int .i64 0,.int .i64 0,.int .i64 0,.slice none 0 0,.bool false,.slice none 0 0,.int .i64 0,.slice none 0 0],.strct [(0,3,false),(1,3,false),(2,4,false),(3,82,false),(8,83,false),(12,87,false),(16,90,false)],false,none,true⟩∧szOf prog 92=18∧tiOf prog 94=some ⟨1,8,[.nilFunc],.func,false,none,false⟩∧tiOf prog 95=some ⟨1,8,[.nilFunc],.func,false,none,false⟩∧tiOf prog 96=some ⟨1,24,[.slice none 0 0],.slc 137,false,none,false⟩∧szOf prog 96=1∧tiOf prog 97=some ⟨10,144,[.int .i64 0,.int .i64 0,.int .i64 0,.int .i64 0,.int .i64 0,.slice none 0 0,.slice none 0 0,.int .i64 0,.slice none 0 0,.slice none 0 0],.strct [(0,3,false),(1,3,false),(2,3,false),(3,3,false),(4,3,false),(5,45,false),(6,46,false),(7,42,false),(8,96,false),(9,46,false)],false,none,true⟩∧tiOf prog 98=some ⟨10,144,[.int .i64 0,.int .i64 0,.int .i64 0,.int .i64 0,.int .i64 0,.slice none 0 0,.slice none 0 0,.int .i64 0,.slice none 0 0,.slice none 0 0],.strct [(0,3,false),(1,3,false),(2,3,false),(3,3,false),(4,3,false),(5,45,false),(6,46,false),(7,42,false),(8,96,false),(9,46,false)],false,none,true⟩:=by and_intros<;>kernel_rfl
@[simp] theorem tj13 :tiOf prog 99=some ⟨1,8,[.nilFunc],.func,false,none,false⟩∧tiOf prog 101=some ⟨1,8,[.nilFunc],.func,false,none,false⟩∧tiOf prog 102=some ⟨1,8,[.nilFunc],.func,false,none,false⟩∧tiOf prog 103=some ⟨1,8,[.nilFunc],.func,false,none,false⟩∧tiOf prog 104=some ⟨1,8,[.nilFunc],.func,false,none,false⟩∧tiOf prog 105=some ⟨1,8,[.nilFunc],.func,false,none,false⟩∧tiOf prog 106=some ⟨11,136,[.int .i64 0,.int .i64 0,.int .i64 0,.int .i64 0,.slice none 0 0,.slice none 0 0,.int .i64 0,.string ⟨#[]⟩,.string ⟨#[]⟩,.int .i64 0,.int .i64 0],.strct [(0,3,false),(1,3,false),(2,3,false),(3,3,false),(4,45,false),(5,46,false),(6,70,false)],false,none,true⟩∧tiOf prog 107=some ⟨1,24,[.slice none 0 0],.slc 110,false,none,false⟩:=by and_intros<;>kernel_rfl
@[simp] theorem tj14 :szOf prog 107=1∧tiOf prog 108=some ⟨8,96,[.int .i64 0,.int .i64 0,.int .i64 0,.int .i64 0,.int .i64 0,.slice none 0 0,.slice none 0 0,.int .i64 0],.strct [(0,31,false),(4,75,false),(6,107,false),(7,3,false)],false,none,true⟩∧tiOf prog 109=some ⟨8,96,[.int .i64 0,.int .i64 0,.int .i64 0,.int .i64 0,.int .i64 0,.slice none 0 0,.slice none 0 0,.int .i64 0],.strct [(0,31,false),(4,75,false),(6,107,false),(7,3,false)],false,none,true⟩∧tiOf prog 110=some ⟨1,8,[.pointer none],.ptr 117,false,none,false⟩∧tiOf prog 111=some ⟨1,8,[.nilFunc],.func,false,none,false⟩∧tiOf prog 112=some ⟨4,64,[.int .i64 0,.slice none 0 0,.int .i64 0,.slice none 0 0],.arr 2 38,false,none,true⟩∧szOf prog 112=4∧tiOf prog 113=some ⟨1,24,[.slice none 0 0],.slc 213,false,none,false⟩:=by and_intros<;>kernel_rfl
@[simp] theorem tj15 :szOf prog 113=1∧tiOf prog 114=some ⟨3,56,[.int .i64 0,.slice none 0 0,.slice none 0 0],.strct [(0,3,false),(1,113,false),(2,113,false)],false,none,true⟩∧tiOf prog 115=some ⟨3,56,[.int .i64 0,.slice none 0 0,.slice none 0 0],.strct [(0,3,false),(1,113,false),(2,113,false)],false,none,true⟩∧szOf prog 115=3∧tiOf prog 116=some ⟨52,600,[.int .i64 0,.int .i64 0,.bool false,.int .i64 0,.int .i64 0,.int .i64 0,.int .i64 0,.int .i64 0,.int .i64 0,.int .i64 0,.int .i64 0,.int .i64 0,.int .i64 0,.slice none 0 0,.bool false,.slice none 0 0,.int .i64 0,.slice none 0 0,.int .i64 0,.bool false,.int .i64 0,.int .i64 0,.int .i64 0,.int .i64 0,.bool false,.bool false,.bool false,.bool false,.int .i64 0,.slice none 0 0,.slice none 0 0,.int .i64 0,.int .i64 0,.int .i64 0,.int .i64 0,.int .i64 0,.int .i64 0,.slice none 0 0,.slice none 0 0,.int .i64 0,.slice none 0 0,.slice none 0 0,.bool false,.int .i64 0,.int .i64 0,.int .i64 0,.slice none 0 0,.int .i64 0,.slice none 0 0,.int .i64 0,.slice none 0 0,.slice none 0 0],.strct [(0,92,false),(18,59,false),(45,112,false),(49,115,false)],false,none,true⟩∧tiOf prog 117=some ⟨52,600,[.int .i64 0,.int .i64 0,.bool false,.int .i64 0,.int .i64 0,.int .i64 0,.int .i64 0,.int .i64 0,.int .i64 0,.int .i64 0,.int .i64 0,.int .i64 0,.int .i64 0,.slice none 0 0,.bool false,.slice none 0 0,.int .i64 0,.slice none 0 0,.int .i64 0,.bool false,.int .i64 0,.int .i64 0,.int .i64 0,.int .i64 0,.bool false,.bool false,.bool false,.bool false,.int .i64 0,.slice none 0 0,.slice none 0 0,.int .i64 0,.int .i64 0,.int .i64 0,.int .i64 0,.int .i64 0,.int .i64 0,.slice none 0 0,.slice none 0 0,.int .i64 0,.slice none 0 0,.slice none 0 0,.bool false,.int .i64 0,.int .i64 0,.int .i64 0,.slice none 0 0,.int .i64 0,.slice none 0 0,.int .i64 0,.slice none 0 0,.slice none 0 0],.strct [(0,92,false),(18,59,false),(45,112,false),(49,115,false)],false,none,true⟩∧tiOf prog 118=some ⟨1,8,[.pointer none],.ptr 120,false,none,false⟩∧tiOf prog 119=some ⟨2,32,[.slice none 0 0,.int .i64 0],.strct [(0,41,false),(1,42,false)],false,none,true⟩:=by and_intros<;>kernel_rfl
@[simp] theorem tj16 :tiOf prog 120=some ⟨2,32,[.slice none 0 0,.int .i64 0],.strct [(0,41,false),(1,42,false)],false,none,true⟩∧tiOf prog 121=some ⟨1,8,[.nilFunc],.func,false,none,false⟩∧tiOf prog 122=some ⟨1,8,[.nilFunc],.func,false,none,false⟩∧tiOf prog 124=some ⟨1,8,[.nilFunc],.func,false,none,false⟩∧tiOf prog 125=some ⟨1,8,[.nilFunc],.func,false,none,false⟩∧tiOf prog 126=some ⟨1,8,[.nilFunc],.func,false,none,false⟩∧tiOf prog 127=some ⟨1,8,[.nilFunc],.func,false,none,false⟩∧tiOf prog 128=some ⟨1,8,[.nilFunc],.func,false,none,false⟩:=by and_intros<;>kernel_rfl
@[simp] theorem tj17 :tiOf prog 129=some ⟨1,8,[.nilFunc],.func,false,none,false⟩∧tiOf prog 130=some ⟨1,8,[.nilFunc],.func,false,none,false⟩∧tiOf prog 131=some ⟨1,8,[.nilFunc],.func,false,none,false⟩∧tiOf prog 134=some ⟨2,24,[.int .i64 0,.string ⟨#[]⟩],.strct [(0,3,false),(1,9,false)],false,some [.int,.str],true⟩∧tiOf prog 135=some ⟨2,24,[.int .i64 0,.string ⟨#[]⟩],.strct [(0,3,false),(1,9,false)],false,some [.int,.str],true⟩∧szOf prog 135=2∧tiOf prog 136=some ⟨3,32,[.int .i64 0,.string ⟨#[]⟩,.int .i64 0],.strct [(0,135,false),(2,3,false)],false,some [.int,.str,.int],true⟩∧tiOf prog 137=some ⟨3,32,[.int .i64 0,.string ⟨#[]⟩,.int .i64 0],.strct [(0,135,false),(2,3,false)],false,some [.int,.str,.int],true⟩:=by and_intros<;>kernel_rfl
@[simp] theorem tj18 :tiOf prog 138=some ⟨1,8,[.nilFunc],.func,false,none,false⟩∧tiOf prog 139=some ⟨3,32,[.int .i64 0,.string ⟨#[]⟩,.int .i64 0],.strct [(0,135,false),(2,3,false)],false,some [.int,.str,.int],true⟩∧tiOf prog 140=some ⟨1,8,[.nilFunc],.func,false,none,false⟩∧tiOf prog 142=some ⟨1,8,[.nilFunc],.func,false,none,false⟩∧tiOf prog 143=some ⟨1,8,[.nilFunc],.func,false,none,false⟩∧tiOf prog 144=some ⟨1,24,[.slice none 0 0],.slc 151,false,none,false⟩∧szOf prog 144=1∧tiOf prog 145=some ⟨7,104,[.int .i64 0,.string ⟨#[]⟩,.int .i64 0,.int .i64 0,.string ⟨#[]⟩,.slice none 0 0,.slice none 0 0],.strct [(0,3,false),(1,9,false),(2,3,false),(3,3,false),(4,9,false),(5,144,false),(6,65,false)],false,none,true⟩:=by and_intros<;>kernel_rfl
@[simp] theorem tj19 :tiOf prog 146=some ⟨7,104,[.int .i64 0,.string ⟨#[]⟩,.int .i64 0,.int .i64 0,.string ⟨#[]⟩,.slice none 0 0,.slice none 0 0],.strct [(0,3,false),(1,9,false),(2,3,false),(3,3,false),(4,9,false),(5,144,false),(6,65,false)],false,none,true⟩∧tiOf prog 148=some ⟨2,24,[.string ⟨#[]⟩,.int .i64 0],.strct [(0,9,false),(1,3,false)],false,some [.str,.int],true⟩∧tiOf prog 149=some ⟨1,24,[.slice none 0 0],.slc 148,false,none,false⟩∧szOf prog 149=1∧tiOf prog 151=some ⟨3,56,[.string ⟨#[]⟩,.string ⟨#[]⟩,.slice none 0 0],.strct [(0,9,false),(1,9,false),(2,149,false)],false,none,true⟩∧tiOf prog 152=some ⟨1,8,[.nilFunc],.func,false,none,false⟩∧tiOf prog 154=some ⟨1,8,[.nilFunc],.func,false,none,false⟩∧tiOf prog 155=some ⟨1,8,[.nilFunc],.func,false,none,false⟩:=by and_intros<;>kernel_rfl
@[simp] theorem tj20 :tiOf prog 156=some ⟨1,8,[.nilFunc],.func,false,none,false⟩∧tiOf prog 157=some ⟨1,8,[.nilFunc],.func,false,none,false⟩∧tiOf prog 158=some ⟨1,8,[.nilFunc],.func,false,none,false⟩∧tiOf prog 159=some ⟨1,8,[.nilFunc],.func,false,none,false⟩∧tiOf prog 160=some ⟨1,8,[.nilFunc],.func,false,none,false⟩∧tiOf prog 161=some ⟨1,8,[.nilFunc],.func,false,none,false⟩∧tiOf prog 163=some ⟨10,160,[.string ⟨#[]⟩,.string ⟨#[]⟩,.string ⟨#[]⟩,.string ⟨#[]⟩,.string ⟨#[]⟩,.string ⟨#[]⟩,.string ⟨#[]⟩,.string ⟨#[]⟩,.string ⟨#[]⟩,.string ⟨#[]⟩],.arr 10 9,false,some [.str,.str,.str,.str,.str,.str,.str,.str,.str,.str],true⟩∧tiOf prog 166=some ⟨1,8,[.nilFunc],.func,false,none,false⟩:=by and_intros<;>kernel_rfl
@[simp] theorem tj21 :tiOf prog 167=some ⟨1,8,[.nilFunc],.func,false,none,false⟩∧tiOf prog 169=some ⟨1,8,[.nilFunc],.func,false,none,false⟩∧tiOf prog 171=some ⟨1,8,[.nilFunc],.func,false,none,false⟩∧tiOf prog 174=some ⟨1,8,[.int .u64 0],.int .u64,false,some [.int],false⟩∧tiOf prog 175=some ⟨1,8,[.nilFunc],.func,false,none,false⟩∧tiOf prog 178=some ⟨1,8,[.nilFunc],.func,false,none,false⟩∧tiOf prog 180=some ⟨1,8,[.nilFunc],.func,false,none,false⟩∧tiOf prog 182=some ⟨1,24,[.slice none 0 0],.slc 42,false,none,false⟩:=by and_intros<;>kernel_rfl
@[simp] theorem tj22 :tiOf prog 184=some ⟨1,8,[.nilFunc],.func,false,none,false⟩∧tiOf prog 186=some ⟨1,8,[.nilFunc],.func,false,none,false⟩∧tiOf prog 187=some ⟨1,8,[.nilFunc],.func,false,none,false⟩∧tiOf prog 190=some ⟨1,8,[.nilFunc],.func,false,none,false⟩∧tiOf prog 191=some ⟨1,8,[.nilFunc],.func,false,none,false⟩∧tiOf prog 192=some ⟨1,24,[.slice none 0 0],.slc 49,false,none,false⟩∧szOf prog 192=1∧tiOf prog 193=some ⟨1,8,[.nilFunc],.func,false,none,false⟩:=by and_intros<;>kernel_rfl
@[simp] theorem tj23 :tiOf prog 194=some ⟨1,8,[.nilFunc],.func,false,none,false⟩∧tiOf prog 198=some ⟨1,8,[.nilFunc],.func,false,none,false⟩∧tiOf prog 200=some ⟨1,8,[.nilFunc],.func,false,none,false⟩∧tiOf prog 204=some ⟨1,8,[.nilFunc],.func,false,none,false⟩∧tiOf prog 207=some ⟨1,8,[.nilFunc],.func,false,none,false⟩∧tiOf prog 210=some ⟨12,136,[.int .i64 0,.string ⟨#[]⟩,.string ⟨#[]⟩,.int .i64 0,.int .i64 0,.int .i64 0,.int .i64 0,.string ⟨#[]⟩,.string ⟨#[]⟩,.int .i64 0,.string ⟨#[]⟩,.int .i64 0],.strct [(0,70,false),(5,3,false),(6,3,false),(7,9,false),(8,9,false),(9,64,false)],false,some [.int,.str,.str,.int,.int,.int,.int,.str,.str,.int,.str,.int],true⟩∧tiOf prog 211=some ⟨12,136,[.int .i64 0,.string ⟨#[]⟩,.string ⟨#[]⟩,.int .i64 0,.int .i64 0,.int .i64 0,.int .i64 0,.string ⟨#[]⟩,.string ⟨#[]⟩,.int .i64 0,.string ⟨#[]⟩,.int .i64 0],.strct [(0,70,false),(5,3,false),(6,3,false),(7,9,false),(8,9,false),(9,64,false)],false,some [.int,.str,.str,.int,.int,.int,.int,.str,.str,.int,.str,.int],true⟩∧szOf prog 211=12:=by and_intros<;>kernel_rfl
@[simp] theorem tj24 :tiOf prog 217=some ⟨1,8,[.nilFunc],.func,false,none,false⟩∧tiOf prog 221=some ⟨1,8,[.nilFunc],.func,false,none,false⟩∧tiOf prog 222=some ⟨1,8,[.nilFunc],.func,false,none,false⟩∧tiOf prog 224=some ⟨1,8,[.nilFunc],.func,false,none,false⟩∧tiOf prog 230=some ⟨1,16,[.nilIface],.iface false,true,none,false⟩∧tiOf prog 232=some ⟨1,8,[.nilFunc],.func,false,none,false⟩∧tiOf prog 235=some ⟨1,8,[.nilFunc],.func,false,none,false⟩∧tiOf prog 236=some ⟨1,8,[.nilFunc],.func,false,none,false⟩:=by and_intros<;>kernel_rfl
@[simp] theorem tj25 :tiOf prog 242=some ⟨1,8,[.nilFunc],.func,false,none,false⟩∧tiOf prog 244=some ⟨1,8,[.nilFunc],.func,false,none,false⟩∧tiOf prog 247=some ⟨1,8,[.nilFunc],.func,false,none,false⟩∧tiOf prog 254=some ⟨1,8,[.nilFunc],.func,false,none,false⟩∧tiOf prog 255=some ⟨1,8,[.nilFunc],.func,false,none,false⟩∧tiOf prog 256=some ⟨1,8,[.nilFunc],.func,false,none,false⟩∧tiOf prog 259=some ⟨1,8,[.nilFunc],.func,false,none,false⟩∧tiOf prog 263=some ⟨1,8,[.nilFunc],.func,false,none,false⟩:=by and_intros<;>kernel_rfl
@[simp] theorem tj26 :tiOf prog 264=some ⟨1,8,[.nilFunc],.func,false,none,false⟩∧tiOf prog 266=some ⟨4,4,[.bool false,.bool false,.bool false,.bool false],.strct [(0,4,false),(1,4,false),(2,4,false),(3,4,false)],false,some [.bool,.bool,.bool,.bool],true⟩∧tiOf prog 267=some ⟨1,8,[.nilFunc],.func,false,none,false⟩∧tiOf prog 270=some ⟨1,8,[.nilFunc],.func,false,none,false⟩∧tiOf prog 272=some ⟨1,8,[.nilFunc],.func,false,none,false⟩∧tiOf prog 274=some ⟨1,8,[.nilFunc],.func,false,none,false⟩∧tiOf prog 275=some ⟨1,8,[.pointer none],.ptr 279,false,none,false⟩∧tiOf prog 276=some ⟨1,8,[.nilFunc],.func,false,none,false⟩:=by and_intros<;>kernel_rfl
@[simp] theorem tj27 :tiOf prog 277=some ⟨1,8,[.pointer none],.ptr 275,false,none,false⟩∧tiOf prog 279=some ⟨2,16,[.int .i64 0,.int .i64 0],.strct [(0,42,false),(1,3,false)],false,some [.int,.int],true⟩∧tiOf prog 281=some ⟨3,56,[.int .i64 0,.slice none 0 0,.slice none 0 0],.strct [(0,3,false),(1,45,false),(2,46,false)],false,none,true⟩∧tiOf prog 290=some ⟨1,24,[.slice none 0 0],.slc 36,false,none,false⟩∧tiOf prog 293=some ⟨1,8,[.nilFunc],.func,false,none,false⟩∧tiOf prog 296=some ⟨1,8,[.nilFunc],.func,false,none,false⟩∧tiOf prog 301=some ⟨1,8,[.nilFunc],.func,false,none,false⟩∧tiOf prog 302=some ⟨1,8,[.nilFunc],.func,false,none,false⟩:=by and_intros<;>kernel_rfl
@[simp] theorem tj28 :tiOf prog 304=some ⟨1,8,[.nilFunc],.func,false,none,false⟩∧tiOf prog 305=some ⟨1,8,[.pointer none],.ptr 308,false,none,false⟩∧tiOf prog 307=some ⟨31,352,[.int .i64 0,.string ⟨#[]⟩,.string ⟨#[]⟩,.int .i64 0,.int .i64 0,.int .i64 0,.int .i64 0,.string ⟨#[]⟩,.string ⟨#[]⟩,.int .i64 0,.string ⟨#[]⟩,.int .i64 0,.int .i64 0,.int .i64 0,.bool false,.int .i64 0,.int .i64 0,.int .i64 0,.int .i64 0,.int .i64 0,.int .i64 0,.int .i64 0,.int .i64 0,.int .i64 0,.int .i64 0,.slice none 0 0,.bool false,.slice none 0 0,.int .i64 0,.slice none 0 0,.slice none 0 0],.strct [(0,211,false),(12,92,false),(30,192,false)],false,none,true⟩∧tiOf prog 308=some ⟨31,352,[.int .i64 0,.string ⟨#[]⟩,.string ⟨#[]⟩,.int .i64 0,.int .i64 0,.int .i64 0,.int .i64 0,.string ⟨#[]⟩,.string ⟨#[]⟩,.int .i64 0,.string ⟨#[]⟩,.int .i64 0,.int .i64 0,.int .i64 0,.bool false,.int .i64 0,.int .i64 0,.int .i64 0,.int .i64 0,.int .i64 0,.int .i64 0,.int .i64 0,.int .i64 0,.int .i64 0,.int .i64 0,.slice none 0 0,.bool false,.slice none 0 0,.int .i64 0,.slice none 0 0,.slice none 0 0],.strct [(0,211,false),(12,92,false),(30,192,false)],false,none,true⟩∧tiOf prog 309=some ⟨1,8,[.nilFunc],.func,false,none,false⟩∧tiOf prog 316=some ⟨1,8,[.nilFunc],.func,false,none,false⟩∧tiOf prog 317=some ⟨1,8,[.nilFunc],.func,false,none,false⟩∧tiOf prog 339=some ⟨1,24,[.slice none 0 0],.slc 345,false,none,false⟩:=by and_intros<;>kernel_rfl
@[simp] theorem tj29 :tiOf prog 340=some ⟨1,8,[.pointer none],.ptr 414,false,none,false⟩∧tiOf prog 342=some ⟨1,8,[.nilFunc],.func,false,none,false⟩∧tiOf prog 343=some ⟨1,8,[.nilFunc],.func,false,none,false⟩∧szOf prog 343=1∧tiOf prog 345=some ⟨2,32,[.slice none 0 0,.nilFunc],.strct [(0,65,false),(1,343,false)],false,none,true⟩∧tiOf prog 347=some ⟨1,8,[.nilFunc],.func,false,none,false⟩∧tiOf prog 348=some ⟨1,8,[.nilFunc],.func,false,none,false⟩∧tiOf prog 350=some ⟨1,8,[.nilFunc],.func,false,none,false⟩:=by and_intros<;>kernel_rfl
@[simp] theorem tj30 :tiOf prog 351=some ⟨1,8,[.nilFunc],.func,false,none,false⟩∧tiOf prog 352=some ⟨1,8,[.nilFunc],.func,false,none,false⟩∧tiOf prog 356=some ⟨5,72,[.int .i64 0,.slice none 0 0,.bool false,.slice none 0 0,.bool false],.strct [(0,87,false),(4,4,false)],false,none,true⟩∧tiOf prog 359=some ⟨1,8,[.nilFunc],.func,false,none,false⟩∧tiOf prog 362=some ⟨1,8,[.nilFunc],.func,false,none,false⟩∧tiOf prog 363=some ⟨1,8,[.nilFunc],.func,false,none,false⟩∧tiOf prog 370=some ⟨1,8,[.map none],.map 3 4,false,none,false⟩∧tiOf prog 372=some ⟨1,8,[.nilFunc],.func,false,none,false⟩:=by and_intros<;>kernel_rfl
@[simp] theorem tj31 :tiOf prog 373=some ⟨1,8,[.nilFunc],.func,false,none,false⟩∧tiOf prog 375=some ⟨1,8,[.nilFunc],.func,false,none,false⟩∧tiOf prog 379=some ⟨1,8,[.nilFunc],.func,false,none,false⟩∧tiOf prog 389=some ⟨1,8,[.nilFunc],.func,false,none,false⟩∧tiOf prog 390=some ⟨1,8,[.nilFunc],.func,false,none,false⟩∧tiOf prog 393=some ⟨1,8,[.map none],.map 135 4,false,none,false⟩∧szOf prog 393=1∧tiOf prog 394=some ⟨1,8,[.map none],.map 135 4,false,none,false⟩:=by and_intros<;>kernel_rfl
@[simp] theorem tj32 :tiOf prog 414=some ⟨5,104,[.slice none 0 0,.slice none 0 0,.map none,.slice none 0 0,.slice none 0 0],.strct [(0,45,false),(1,46,false),(2,393,false),(3,45,false),(4,46,false)],false,none,true⟩∧tiOf prog 421=some ⟨1,8,[.nilFunc],.func,false,none,false⟩∧tiOf prog 428=some ⟨1,8,[.nilFunc],.func,false,none,false⟩∧tiOf prog 429=some ⟨1,8,[.pointer none],.ptr 356,false,none,false⟩∧tiOf prog 431=some ⟨1,8,[.nilFunc],.func,false,none,false⟩∧tiOf prog 434=some ⟨3,24,[.int .i64 0,.int .i64 0,.int .i64 0],.strct [(0,3,false),(1,3,false),(2,3,false)],false,some [.int,.int,.int],true⟩∧tiOf prog 444=some ⟨1,8,[.nilFunc],.func,false,none,false⟩∧tiOf prog 445=some ⟨1,8,[.nilFunc],.func,false,none,false⟩:=by and_intros<;>kernel_rfl
@[simp] theorem tj33 :tiOf prog 452=some ⟨1,8,[.map none],.map 135 146,false,none,false⟩∧tiOf prog 457=some ⟨1,8,[.nilFunc],.func,false,none,false⟩∧tiOf prog 460=some ⟨1,8,[.int .i64 0],.strct [(0,42,false)],false,some [.int],true⟩∧tiOf prog 466=some ⟨1,8,[.int .i64 0],.int .i64,false,some [.int],false⟩∧tiOf prog 473=some ⟨1,4,[.int .u32 0],.int .u32,false,some [.int],false⟩∧tiOf prog 475=some ⟨1,8,[.int .u64 0],.int .u64,false,some [.int],false⟩∧tiOf prog 476=some ⟨1,8,[.map none],.map 135 46,false,none,false⟩∧tiOf prog 478=some ⟨1,8,[.nilFunc],.func,false,none,false⟩:=by and_intros<;>kernel_rfl
@[simp] theorem tj34 :tiOf prog 479=some ⟨1,8,[.nilFunc],.func,false,none,false⟩∧tiOf prog 480=some ⟨1,8,[.nilFunc],.func,false,none,false⟩∧tiOf prog 484=some ⟨1,8,[.nilFunc],.func,false,none,false⟩∧tiOf prog 489=some ⟨1,8,[.int .u64 0],.int .u64,false,some [.int],false⟩∧tiOf prog 491=some ⟨1,8,[.nilFunc],.func,false,none,false⟩∧tiOf prog 493=some ⟨1,8,[.pointer none],.ptr 3,false,none,false⟩∧tiOf prog 495=some ⟨1,8,[.nilFunc],.func,false,none,false⟩∧tiOf prog 496=some ⟨1,8,[.pointer none],.ptr 489,false,none,false⟩:=by and_intros<;>kernel_rfl
@[simp] theorem tj35 :tiOf prog 503=some ⟨1,8,[.nilFunc],.func,false,none,false⟩∧miOf prog 370=some ⟨3,4,false,[.int],⟨1,1,[.bool false],.bool,false,some [.bool],false⟩⟩∧miOf prog 393=some ⟨135,4,true,[.int,.str],⟨1,1,[.bool false],.bool,false,some [.bool],false⟩⟩∧miOf prog 394=some ⟨135,4,true,[.int,.str],⟨1,1,[.bool false],.bool,false,some [.bool],false⟩⟩∧miOf prog 452=some ⟨135,146,true,[.int,.str],⟨7,104,[.int .i64 0,.string ⟨#[]⟩,.int .i64 0,.int .i64 0,.string ⟨#[]⟩,.slice none 0 0,.slice none 0 0],.strct [(0,3,false),(1,9,false),(2,3,false),(3,3,false),(4,9,false),(5,144,false),(6,65,false)],false,none,true⟩⟩∧miOf prog 476=some ⟨135,46,true,[.int,.str],⟨1,24,[.slice none 0 0],.slc 135,false,none,false⟩⟩:=by and_intros<;>kernel_rfl
attribute [simp] ti2 ti42 ti83 qot qos
end Go.Proofs.YtekckhepcdndcaaGreatDoor
namespace Go.Proofs
open Go.Shelf
def Tryz.lays106_ren :Go.Shelf.Ren:=⟨fun|106=>377|213=>402|265=>411|n=>n,fun|9=>9|3=>3|n=>n,fun|n=>n⟩
theorem Tryz.lays106 :Go.Proofs.Lays.n106 Tryz.prog Tryz.lays106_ren:={
 mixed:=by kernel_rfl
 f106:=Tryz.func377.trans (congrArg some (by kernel_rfl))
 f213:=Tryz.func402.trans (congrArg some (by kernel_rfl))
 f265:=Tryz.func411.trans (congrArg some (by kernel_rfl))
 t3:=Tryz.underlying3
 a3:=Tryz.isAgg3
 z3:=Tryz.sizeOf3
 v3:=Tryz.zeroValue3
 t9:=Tryz.underlying9
 a9:=Tryz.isAgg9
 z9:=Tryz.sizeOf9
 v9:=Tryz.zeroValue9}
open Go.RowKit in
theorem Tryz.strings_Compare (a b:ByteArray)(w:World):
  Calls Tryz.prog 377 #[.string a,.string b] w fun e w'=>e=.returned (.int .i64 (Lib.compareBytes a.data.toList b.data.toList))∧w'=w:=Any.strings_Compare Tryz.lays106 a b w
def Tryz.lays143_ren :Go.Shelf.Ren:=⟨fun|143=>401|219=>410|217=>413|225=>414|224=>415|267=>416|266=>417|314=>418|n=>n,fun|9=>9|3=>3|4=>4|5=>5|46=>174|146=>504|51=>473|n=>n,fun|1=>1|n=>n⟩
theorem Tryz.lays143 :Go.Proofs.Lays.n143 Tryz.prog Tryz.lays143_ren:={
 mixed:=by kernel_rfl
 f143:=Tryz.func401.trans (congrArg some (by kernel_rfl))
 f217:=Tryz.func413.trans (congrArg some (by kernel_rfl))
 f219:=Tryz.func410.trans (congrArg some (by kernel_rfl))
 f224:=Tryz.func415.trans (congrArg some (by kernel_rfl))
 f225:=Tryz.func414.trans (congrArg some (by kernel_rfl))
 f266:=Tryz.func417.trans (congrArg some (by kernel_rfl))
 f267:=Tryz.func416.trans (congrArg some (by kernel_rfl))
 f314:=Tryz.func418.trans (congrArg some (by kernel_rfl))
 t3:=Tryz.underlying3
 a3:=Tryz.isAgg3
 z3:=Tryz.sizeOf3
 v3:=Tryz.zeroValue3
 t4:=Tryz.underlying4
 a4:=Tryz.isAgg4
 z4:=Tryz.sizeOf4
 v4:=Tryz.zeroValue4
 t5:=Tryz.underlying5
 a5:=Tryz.isAgg5
 z5:=Tryz.sizeOf5
 v5:=Tryz.zeroValue5
 t9:=Tryz.underlying9
 a9:=Tryz.isAgg9
 z9:=Tryz.sizeOf9
 v9:=Tryz.zeroValue9
 t46:=Tryz.underlying174
 a46:=Tryz.isAgg174
 z46:=Tryz.sizeOf174
 v46:=Tryz.zeroValue174
 t51:=Tryz.underlying473
 a51:=Tryz.isAgg473
 z51:=Tryz.sizeOf473
 v51:=Tryz.zeroValue473
 t146:=Tryz.underlying504
 a146:=Tryz.isAgg504
 z146:=Tryz.sizeOf504
 v146:=Tryz.zeroValue504
 g1:=by kernel_rfl}
open Go.RowKit Go.Lib in
theorem Tryz.strings_Index_one (s:ByteArray)(c:UInt8)(w:World):
  Calls Tryz.prog 401 #[.string s,.string ⟨#[c]⟩] w fun e w'=>e=.returned (.int .i64 (Lib.indexByte s.data.toList c))∧w'=w:=Any.strings_Index_one Tryz.lays143 s c w
def Tryz.sortKeys_ren :Go.Shelf.Ren:=⟨fun|6=>293|15=>346|14=>345|28=>386|29=>387|20=>378|21=>379|22=>380|23=>381|24=>382|25=>383|26=>384|27=>385|46=>403|47=>404|48=>405|49=>406|50=>407|57=>412|n=>n,fun|22=>46|24=>135|25=>389|3=>3|39=>174|0=>0|53=>473|55=>475|4=>4|46=>467|45=>466|50=>203|5=>5|9=>9|66=>489|70=>493|76=>496|77=>497|n=>n,fun|n=>n⟩
theorem Tryz.sortKeys :Go.Proofs.SlLaysF0.n6 Tryz.prog Tryz.sortKeys_ren:={
 mixed:=by kernel_rfl
 f6:=⟨Tryz.f293.name,by decide,Tryz.func293.trans (congrArg some (by kernel_rfl))⟩
 f14:=⟨Tryz.f345.name,by decide,Tryz.func345.trans (congrArg some (by kernel_rfl))⟩
 f15:=Tryz.func346.trans (congrArg some (by kernel_rfl))
 f20:=⟨Tryz.f378.name,by decide,Tryz.func378.trans (congrArg some (by kernel_rfl))⟩
 f21:=⟨Tryz.f379.name,by decide,Tryz.func379.trans (congrArg some (by kernel_rfl))⟩
 f22:=⟨Tryz.f380.name,by decide,Tryz.func380.trans (congrArg some (by kernel_rfl))⟩
 f23:=⟨Tryz.f381.name,by decide,Tryz.func381.trans (congrArg some (by kernel_rfl))⟩
 f24:=⟨Tryz.f382.name,by decide,Tryz.func382.trans (congrArg some (by kernel_rfl))⟩
 f25:=⟨Tryz.f383.name,by decide,Tryz.func383.trans (congrArg some (by kernel_rfl))⟩
 f26:=⟨Tryz.f384.name,by decide,Tryz.func384.trans (congrArg some (by kernel_rfl))⟩
 f27:=⟨Tryz.f385.name,by decide,Tryz.func385.trans (congrArg some (by kernel_rfl))⟩
 f28:=Tryz.func386.trans (congrArg some (by kernel_rfl))
 f29:=Tryz.func387.trans (congrArg some (by kernel_rfl))
 f46:=⟨Tryz.f403.name,by decide,Tryz.func403.trans (congrArg some (by kernel_rfl))⟩
 f47:=Tryz.func404.trans (congrArg some (by kernel_rfl))
 f48:=Tryz.func405.trans (congrArg some (by kernel_rfl))
 f49:=⟨Tryz.f406.name,by decide,Tryz.func406.trans (congrArg some (by kernel_rfl))⟩
 f50:=⟨Tryz.f407.name,by decide,Tryz.func407.trans (congrArg some (by kernel_rfl))⟩
 f57:=⟨Tryz.f412.name,by decide,Tryz.func412.trans (congrArg some (by kernel_rfl))⟩
 t0:=Tryz.underlying0
 a0:=Tryz.isAgg0
 z0:=Tryz.sizeOf0
 v0:=Tryz.zeroValue0
 t3:=Tryz.underlying3
 a3:=Tryz.isAgg3
 z3:=Tryz.sizeOf3
 v3:=Tryz.zeroValue3
 t4:=Tryz.underlying4
 a4:=Tryz.isAgg4
 z4:=Tryz.sizeOf4
 v4:=Tryz.zeroValue4
 t5:=Tryz.underlying5
 a5:=Tryz.isAgg5
 z5:=Tryz.sizeOf5
 v5:=Tryz.zeroValue5
 t9:=Tryz.underlying9
 a9:=Tryz.isAgg9
 z9:=Tryz.sizeOf9
 v9:=Tryz.zeroValue9
 t22:=Tryz.underlying46
 a22:=Tryz.isAgg46
 z22:=Tryz.sizeOf46
 v22:=Tryz.zeroValue46
 t25:=Tryz.underlying389
 a25:=Tryz.isAgg389
 z25:=Tryz.sizeOf389
 v25:=Tryz.zeroValue389
 t39:=Tryz.underlying174
 a39:=Tryz.isAgg174
 z39:=Tryz.sizeOf174
 v39:=Tryz.zeroValue174
 t45:=Tryz.underlying466
 a45:=Tryz.isAgg466
 z45:=Tryz.sizeOf466
 v45:=Tryz.zeroValue466
 t46:=Tryz.underlying467
 a46:=Tryz.isAgg467
 z46:=Tryz.sizeOf467
 v46:=Tryz.zeroValue467
 t50:=Tryz.underlying203
 a50:=Tryz.isAgg203
 z50:=Tryz.sizeOf203
 v50:=Tryz.zeroValue203
 t53:=Tryz.underlying473
 a53:=Tryz.isAgg473
 z53:=Tryz.sizeOf473
 v53:=Tryz.zeroValue473
 t55:=Tryz.underlying475
 a55:=Tryz.isAgg475
 z55:=Tryz.sizeOf475
 v55:=Tryz.zeroValue475
 t66:=Tryz.underlying489
 a66:=Tryz.isAgg489
 z66:=Tryz.sizeOf489
 v66:=Tryz.zeroValue489
 t70:=Tryz.underlying493
 a70:=Tryz.isAgg493
 z70:=Tryz.sizeOf493
 v70:=Tryz.zeroValue493
 t76:=Tryz.underlying496
 a76:=Tryz.isAgg496
 z76:=Tryz.sizeOf496
 v76:=Tryz.zeroValue496
 t77:=Tryz.underlying497
 a77:=Tryz.isAgg497
 z77:=Tryz.sizeOf497
 v77:=Tryz.zeroValue497}
end Go.Proofs
