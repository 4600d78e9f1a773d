/-
  Facts about the program's types
-/
import Derived.Test.YtelooagbkmpdpaaGreatDoorFc
import Derived.Test.YtelooagbkmpdpaaGreatDoorProg
import Derived.Shelf.Small.Strs
import Derived.Shelf.Strings.Search1
import Derived.Shelf.Strings.Search2
import Derived.Shelf.Strings.Search3
import Derived.Shelf.SlSortCmp.NoneTotal
import Derived.Ground.SlsfProg
set_option linter.unusedSimpArgs false
set_option linter.unusedVariables false
set_option maxRecDepth 100000
set_option maxHeartbeats 8000000
namespace Go.Proofs.YtelooagbkmpdpaaGreatDoor
open Go.AI Tryz
theorem G5 :aH prog 2=some ⟨1,8,[.int .i64 0],.int .i64,false,some [.int],false⟩:=by kernel_rfl
theorem D6 :nX prog 290=some ⟨86,27,true,[.int,.str],⟨1,24,[.slice none 0 0],.dA 86,false,none,false⟩⟩:=by kernel_rfl
@[simp] theorem tj0 :aH prog 1=some ⟨1,8,[.nilFunc],.func,false,none,false⟩/\aH prog 3=some ⟨1,8,[.int .i64 0],.int .i64,false,some [.int],false⟩/\bS prog 3=1/\aH prog 4=some ⟨1,1,[.bool false],.bool,false,some [.bool],false⟩/\bS prog 4=1/\aH prog 5=some ⟨1,1,[.int .u8 0],.int .u8,false,some [.int],false⟩/\aH prog 9=some ⟨1,16,[.string ⟨#[]⟩],.str,false,some [.str],false⟩/\bS prog 9=1:=by and_intros<;>kernel_rfl
@[simp] theorem tj1 :aH prog 20=some ⟨1,16,[.nilIface],.iface true,false,none,false⟩/\aH prog 21=some ⟨1,4,[.int .i32 0],.int .i32,false,some [.int],false⟩/\aH prog 22=some ⟨4,32,[.int .i64 0,.int .i64 0,.int .i64 0,.int .i64 0],.arr 4 3,false,some [.int,.int,.int,.int],true⟩/\bS prog 22=4/\aH prog 23=some ⟨4,4,[.bool false,.bool false,.bool false,.bool false],.arr 4 4,false,some [.bool,.bool,.bool,.bool],true⟩/\bS prog 23=4/\aH prog 24=some ⟨9,48,[.int .i64 0,.int .i64 0,.int .i64 0,.int .i64 0,.bool false,.bool false,.bool false,.bool false,.int .i64 0],.dD [(0,22,false),(4,23,false),(8,3,false)],false,some [.int,.int,.int,.int,.bool,.bool,.bool,.bool,.int],true⟩/\aH prog 25=some ⟨9,48,[.int .i64 0,.int .i64 0,.int .i64 0,.int .i64 0,.bool false,.bool false,.bool false,.bool false,.int .i64 0],.dD [(0,22,false),(4,23,false),(8,3,false)],false,some [.int,.int,.int,.int,.bool,.bool,.bool,.bool,.int],true⟩:=by and_intros<;>kernel_rfl
@[simp] theorem tj2 :bS prog 25=9/\aH prog 26=some ⟨1,24,[.slice none 0 0],.dA 82,false,none,false⟩/\bS prog 26=1/\aH prog 27=some ⟨1,24,[.slice none 0 0],.dA 86,false,none,false⟩/\bS prog 27=1/\aH prog 28=some ⟨1,8,[.int .i64 0],.int .i64,false,some [.int],false⟩/\bS prog 28=1/\aH prog 29=some ⟨1,24,[.slice none 0 0],.dA 88,false,none,false⟩:=by and_intros<;>kernel_rfl
@[simp] theorem tj3 :bS prog 29=1/\aH prog 30=some ⟨10,144,[.int .i64 0,.int .i64 0,.int .i64 0,.int .i64 0,.int .i64 0,.slice none 0 0,.slice none 0 0,.int .i64 0,.slice none 0 0,.slice none 0 0],.dD [(0,3,false),(1,3,false),(2,3,false),(3,3,false),(4,3,false),(5,26,false),(6,27,false),(7,28,false),(8,29,false),(9,27,false)],false,none,true⟩/\aH prog 31=some ⟨10,144,[.int .i64 0,.int .i64 0,.int .i64 0,.int .i64 0,.int .i64 0,.slice none 0 0,.slice none 0 0,.int .i64 0,.slice none 0 0,.slice none 0 0],.dD [(0,3,false),(1,3,false),(2,3,false),(3,3,false),(4,3,false),(5,26,false),(6,27,false),(7,28,false),(8,29,false),(9,27,false)],false,none,true⟩/\bS prog 31=10/\aH prog 32=some ⟨14,208,[.slice none 0 0,.slice none 0 0,.int .i64 0,.int .i64 0,.int .i64 0,.int .i64 0,.int .i64 0,.int .i64 0,.slice none 0 0,.slice none 0 0,.int .i64 0,.slice none 0 0,.slice none 0 0,.bool false],.dD [(0,26,false),(1,27,false),(2,3,false),(3,31,false),(13,4,false)],false,none,true⟩/\aH prog 33=some ⟨14,208,[.slice none 0 0,.slice none 0 0,.int .i64 0,.int .i64 0,.int .i64 0,.int .i64 0,.int .i64 0,.int .i64 0,.slice none 0 0,.slice none 0 0,.int .i64 0,.slice none 0 0,.slice none 0 0,.bool false],.dD [(0,26,false),(1,27,false),(2,3,false),(3,31,false),(13,4,false)],false,none,true⟩/\bS prog 33=14/\aH prog 34=some ⟨27,288,[.int .i64 0,.bool false,.int .i64 0,.int .i64 0,.int .i64 0,.int .i64 0,.bool false,.bool false,.bool false,.bool false,.int .i64 0,.slice none 0 0,.slice none 0 0,.int .i64 0,.int .i64 0,.int .i64 0,.int .i64 0,.int .i64 0,.int .i64 0,.slice none 0 0,.slice none 0 0,.int .i64 0,.slice none 0 0,.slice none 0 0,.bool false,.int .i64 0,.int .i64 0],.dD [(0,3,false),(1,4,false),(2,25,false),(11,33,false),(25,28,false),(26,3,false)],false,none,true⟩:=by and_intros<;>kernel_rfl
@[simp] theorem tj4 :aH prog 35=some ⟨27,288,[.int .i64 0,.bool false,.int .i64 0,.int .i64 0,.int .i64 0,.int .i64 0,.bool false,.bool false,.bool false,.bool false,.int .i64 0,.slice none 0 0,.slice none 0 0,.int .i64 0,.int .i64 0,.int .i64 0,.int .i64 0,.int .i64 0,.int .i64 0,.slice none 0 0,.slice none 0 0,.int .i64 0,.slice none 0 0,.slice none 0 0,.bool false,.int .i64 0,.int .i64 0],.dD [(0,3,false),(1,4,false),(2,25,false),(11,33,false),(25,28,false),(26,3,false)],false,none,true⟩/\aH prog 36=some ⟨1,24,[.slice none 0 0],.dA 26,false,none,false⟩/\bS prog 36=1/\aH prog 37=some ⟨2,32,[.int .i64 0,.slice none 0 0],.dD [(0,3,false),(1,36,false)],false,none,true⟩/\aH prog 38=some ⟨2,32,[.int .i64 0,.slice none 0 0],.dD [(0,3,false),(1,36,false)],false,none,true⟩/\aH prog 39=some ⟨1,8,[.nilFunc],.func,false,none,false⟩/\aH prog 40=some ⟨1,8,[.nilFunc],.func,false,none,false⟩/\aH prog 42=some ⟨9,48,[.int .i64 0,.int .i64 0,.int .i64 0,.int .i64 0,.bool false,.bool false,.bool false,.bool false,.int .i64 0],.dD [(0,22,false),(4,23,false),(8,3,false)],false,some [.int,.int,.int,.int,.bool,.bool,.bool,.bool,.int],true⟩:=by and_intros<;>kernel_rfl
@[simp] theorem tj5 :bS prog 42=9/\aH prog 43=some ⟨1,24,[.slice none 0 0],.dA 93,false,none,false⟩/\bS prog 43=1/\aH prog 44=some ⟨10,144,[.int .i64 0,.int .i64 0,.int .i64 0,.int .i64 0,.int .i64 0,.slice none 0 0,.slice none 0 0,.int .i64 0,.slice none 0 0,.slice none 0 0],.dD [(0,3,false),(1,3,false),(2,3,false),(3,3,false),(4,3,false),(5,26,false),(6,27,false),(7,28,false),(8,43,false),(9,27,false)],false,none,true⟩/\aH prog 45=some ⟨10,144,[.int .i64 0,.int .i64 0,.int .i64 0,.int .i64 0,.int .i64 0,.slice none 0 0,.slice none 0 0,.int .i64 0,.slice none 0 0,.slice none 0 0],.dD [(0,3,false),(1,3,false),(2,3,false),(3,3,false),(4,3,false),(5,26,false),(6,27,false),(7,28,false),(8,43,false),(9,27,false)],false,none,true⟩/\bS prog 45=10/\aH prog 46=some ⟨14,208,[.slice none 0 0,.slice none 0 0,.int .i64 0,.int .i64 0,.int .i64 0,.int .i64 0,.int .i64 0,.int .i64 0,.slice none 0 0,.slice none 0 0,.int .i64 0,.slice none 0 0,.slice none 0 0,.bool false],.dD [(0,26,false),(1,27,false),(2,3,false),(3,45,false),(13,4,false)],false,none,true⟩/\aH prog 47=some ⟨14,208,[.slice none 0 0,.slice none 0 0,.int .i64 0,.int .i64 0,.int .i64 0,.int .i64 0,.int .i64 0,.int .i64 0,.slice none 0 0,.slice none 0 0,.int .i64 0,.slice none 0 0,.slice none 0 0,.bool false],.dD [(0,26,false),(1,27,false),(2,3,false),(3,45,false),(13,4,false)],false,none,true⟩:=by and_intros<;>kernel_rfl
@[simp] theorem tj6 :bS prog 47=14/\aH prog 48=some ⟨27,288,[.int .i64 0,.bool false,.int .i64 0,.int .i64 0,.int .i64 0,.int .i64 0,.bool false,.bool false,.bool false,.bool false,.int .i64 0,.slice none 0 0,.slice none 0 0,.int .i64 0,.int .i64 0,.int .i64 0,.int .i64 0,.int .i64 0,.int .i64 0,.slice none 0 0,.slice none 0 0,.int .i64 0,.slice none 0 0,.slice none 0 0,.bool false,.int .i64 0,.int .i64 0],.dD [(0,3,false),(1,4,false),(2,42,false),(11,47,false),(25,28,false),(26,3,false)],false,none,true⟩/\aH prog 49=some ⟨27,288,[.int .i64 0,.bool false,.int .i64 0,.int .i64 0,.int .i64 0,.int .i64 0,.bool false,.bool false,.bool false,.bool false,.int .i64 0,.slice none 0 0,.slice none 0 0,.int .i64 0,.int .i64 0,.int .i64 0,.int .i64 0,.int .i64 0,.int .i64 0,.slice none 0 0,.slice none 0 0,.int .i64 0,.slice none 0 0,.slice none 0 0,.bool false,.int .i64 0,.int .i64 0],.dD [(0,3,false),(1,4,false),(2,42,false),(11,47,false),(25,28,false),(26,3,false)],false,none,true⟩/\aH prog 50=some ⟨1,8,[.nilFunc],.func,false,none,false⟩/\aH prog 52=some ⟨1,8,[.nilFunc],.func,false,none,false⟩/\aH prog 53=some ⟨2,32,[.int .i64 0,.slice none 0 0],.dD [(0,3,false),(1,36,false)],false,none,true⟩/\aH prog 54=some ⟨1,8,[.nilFunc],.func,false,none,false⟩/\aH prog 55=some ⟨1,8,[.nilFunc],.func,false,none,false⟩:=by and_intros<;>kernel_rfl
@[simp] theorem tj7 :aH prog 57=some ⟨1,8,[.nilFunc],.func,false,none,false⟩/\aH prog 58=some ⟨1,24,[.slice none 0 0],.dA 45,false,none,false⟩/\aH prog 60=some ⟨1,8,[.nilFunc],.func,false,none,false⟩/\aH prog 61=some ⟨1,24,[.slice none 0 0],.dA 31,false,none,false⟩/\aH prog 63=some ⟨1,8,[.nilFunc],.func,false,none,false⟩/\aH prog 65=some ⟨1,8,[.nilFunc],.func,false,none,false⟩/\aH prog 66=some ⟨1,8,[.nilFunc],.func,false,none,false⟩/\aH prog 67=some ⟨1,8,[.nilFunc],.func,false,none,false⟩:=by and_intros<;>kernel_rfl
@[simp] theorem tj8 :aH prog 68=some ⟨1,8,[.nilFunc],.func,false,none,false⟩/\aH prog 69=some ⟨1,8,[.nilFunc],.func,false,none,false⟩/\aH prog 70=some ⟨1,8,[.nilFunc],.func,false,none,false⟩/\aH prog 72=some ⟨1,8,[.nilFunc],.func,false,none,false⟩/\aH prog 73=some ⟨1,8,[.nilFunc],.func,false,none,false⟩/\aH prog 74=some ⟨1,8,[.nilFunc],.func,false,none,false⟩/\aH prog 75=some ⟨1,8,[.nilFunc],.func,false,none,false⟩/\aH prog 77=some ⟨1,8,[.nilFunc],.func,false,none,false⟩:=by and_intros<;>kernel_rfl
@[simp] theorem tj9 :aH prog 78=some ⟨1,8,[.nilFunc],.func,false,none,false⟩/\aH prog 79=some ⟨1,24,[.slice none 0 0],.dA 188,false,none,false⟩/\bS prog 79=1/\aH prog 80=some ⟨1,24,[.slice none 0 0],.dA 3,false,none,false⟩/\bS prog 80=1/\aH prog 82=some ⟨7,104,[.int .i64 0,.string ⟨#[]⟩,.int .i64 0,.int .i64 0,.string ⟨#[]⟩,.slice none 0 0,.slice none 0 0],.dD [(0,3,false),(1,9,false),(2,3,false),(3,3,false),(4,9,false),(5,79,false),(6,80,false)],false,none,true⟩/\aH prog 83=some ⟨1,8,[.nilFunc],.func,false,none,false⟩/\aH prog 84=some ⟨1,8,[.nilFunc],.func,false,none,false⟩:=by and_intros<;>kernel_rfl
@[simp] theorem tj10 :aH prog 85=some ⟨2,24,[.int .i64 0,.string ⟨#[]⟩],.dD [(0,3,false),(1,9,false)],false,some [.int,.str],true⟩/\aH prog 86=some ⟨2,24,[.int .i64 0,.string ⟨#[]⟩],.dD [(0,3,false),(1,9,false)],false,some [.int,.str],true⟩/\bS prog 86=2/\aH prog 87=some ⟨3,32,[.int .i64 0,.string ⟨#[]⟩,.int .i64 0],.dD [(0,86,false),(2,3,false)],false,some [.int,.str,.int],true⟩/\aH prog 88=some ⟨3,32,[.int .i64 0,.string ⟨#[]⟩,.int .i64 0],.dD [(0,86,false),(2,3,false)],false,some [.int,.str,.int],true⟩/\aH prog 89=some ⟨1,8,[.nilFunc],.func,false,none,false⟩/\aH prog 90=some ⟨1,8,[.nilFunc],.func,false,none,false⟩/\aH prog 91=some ⟨1,8,[.nilFunc],.func,false,none,false⟩:=by and_intros<;>kernel_rfl
@[simp] theorem tj11 :aH prog 92=some ⟨1,8,[.nilFunc],.func,false,none,false⟩/\aH prog 93=some ⟨3,32,[.int .i64 0,.string ⟨#[]⟩,.int .i64 0],.dD [(0,86,false),(2,3,false)],false,some [.int,.str,.int],true⟩/\aH prog 95=some ⟨1,8,[.nilFunc],.func,false,none,false⟩/\aH prog 96=some ⟨1,8,[.nilFunc],.func,false,none,false⟩/\aH prog 97=some ⟨1,8,[.nilFunc],.func,false,none,false⟩/\aH prog 98=some ⟨1,8,[.nilFunc],.func,false,none,false⟩/\aH prog 100=some ⟨1,8,[.nilFunc],.func,false,none,false⟩/\aH prog 101=some ⟨3,56,[.int .i64 0,.slice none 0 0,.slice none 0 0],.dD [(0,3,false),(1,26,false),(2,27,false)],false,none,true⟩:=by and_intros<;>kernel_rfl
@[simp] theorem tj12 :aH prog 102=some ⟨3,56,[.int .i64 0,.slice none 0 0,.slice none 0 0],.dD [(0,3,false),(1,26,false),(2,27,false)],false,none,true⟩/\aH prog 104=some ⟨1,8,[.nilFunc],.func,false,none,false⟩/\aH prog 106=some ⟨1,8,[.nilFunc],.func,false,none,false⟩/\aH prog 107=some ⟨1,8,[.nilFunc],.func,false,none,false⟩/\aH prog 108=some ⟨1,8,[.nilFunc],.func,false,none,false⟩/\aH prog 109=some ⟨3,56,[.int .i64 0,.slice none 0 0,.slice none 0 0],.dD [(0,3,false),(1,26,false),(2,27,false)],false,none,true⟩/\aH prog 111=some ⟨1,8,[.nilFunc],.func,false,none,false⟩/\aH prog 113=some ⟨1,8,[.nilFunc],.func,false,none,false⟩:=by and_intros<;>kernel_rfl
@[simp] theorem tj13 :aH prog 114=some ⟨1,8,[.nilFunc],.func,false,none,false⟩/\aH prog 116=some ⟨1,8,[.nilFunc],.func,false,none,false⟩/\aH prog 118=some ⟨1,8,[.nilFunc],.func,false,none,false⟩/\aH prog 119=some ⟨1,8,[.nilFunc],.func,false,none,false⟩/\aH prog 121=some ⟨1,8,[.nilFunc],.func,false,none,false⟩/\aH prog 122=some ⟨1,8,[.nilFunc],.func,false,none,false⟩/\aH prog 123=some ⟨1,8,[.nilFunc],.func,false,none,false⟩/\aH prog 125=some ⟨5,40,[.int .i64 0,.int .i64 0,.int .i64 0,.int .i64 0,.int .i64 0],.dD [(0,22,false),(4,3,false)],false,some [.int,.int,.int,.int,.int],true⟩:=by and_intros<;>kernel_rfl
@[simp] theorem tj14 :aH prog 128=some ⟨5,40,[.int .i64 0,.int .i64 0,.int .i64 0,.int .i64 0,.int .i64 0],.dD [(0,22,false),(4,3,false)],false,some [.int,.int,.int,.int,.int],true⟩/\aH prog 131=some ⟨1,16,[.nilIface],.iface false,true,none,false⟩/\aH prog 132=some ⟨1,16,[.nilIface],.iface false,true,none,false⟩/\aH prog 135=some ⟨1,8,[.nilFunc],.func,false,none,false⟩/\aH prog 136=some ⟨1,8,[.nilFunc],.func,false,none,false⟩/\aH prog 137=some ⟨1,8,[.nilFunc],.func,false,none,false⟩/\aH prog 138=some ⟨1,8,[.nilFunc],.func,false,none,false⟩/\aH prog 139=some ⟨1,8,[.nilFunc],.func,false,none,false⟩:=by and_intros<;>kernel_rfl
@[simp] theorem tj15 :aH prog 142=some ⟨1,8,[.nilFunc],.func,false,none,false⟩/\aH prog 143=some ⟨1,8,[.nilFunc],.func,false,none,false⟩/\aH prog 145=some ⟨1,8,[.nilFunc],.func,false,none,false⟩/\aH prog 154=some ⟨1,8,[.nilFunc],.func,false,none,false⟩/\aH prog 155=some ⟨1,24,[.slice none 0 0],.dA 161,false,none,false⟩/\aH prog 156=some ⟨1,8,[.pointer none],.ptr 210,false,none,false⟩/\aH prog 158=some ⟨1,8,[.nilFunc],.func,false,none,false⟩/\aH prog 159=some ⟨1,8,[.nilFunc],.func,false,none,false⟩:=by and_intros<;>kernel_rfl
@[simp] theorem tj16 :bS prog 159=1/\aH prog 161=some ⟨2,32,[.slice none 0 0,.nilFunc],.dD [(0,80,false),(1,159,false)],false,none,true⟩/\aH prog 168=some ⟨1,8,[.nilFunc],.func,false,none,false⟩/\aH prog 169=some ⟨1,8,[.nilFunc],.func,false,none,false⟩/\aH prog 172=some ⟨1,8,[.nilFunc],.func,false,none,false⟩/\aH prog 177=some ⟨1,8,[.nilFunc],.func,false,none,false⟩/\aH prog 180=some ⟨1,8,[.nilFunc],.func,false,none,false⟩/\aH prog 181=some ⟨1,8,[.pointer none],.ptr 185,false,none,false⟩:=by and_intros<;>kernel_rfl
@[simp] theorem tj17 :aH prog 183=some ⟨1,8,[.pointer none],.ptr 181,false,none,false⟩/\aH prog 184=some ⟨2,16,[.int .i64 0,.int .i64 0],.dD [(0,28,false),(1,3,false)],false,some [.int,.int],true⟩/\aH prog 185=some ⟨2,16,[.int .i64 0,.int .i64 0],.dD [(0,28,false),(1,3,false)],false,some [.int,.int],true⟩/\aH prog 186=some ⟨1,24,[.slice none 0 0],.dA 239,false,none,false⟩/\bS prog 186=1/\aH prog 188=some ⟨3,56,[.string ⟨#[]⟩,.string ⟨#[]⟩,.slice none 0 0],.dD [(0,9,false),(1,9,false),(2,186,false)],false,none,true⟩/\aH prog 189=some ⟨1,24,[.slice none 0 0],.dA 28,false,none,false⟩/\aH prog 190=some ⟨1,8,[.nilFunc],.func,false,none,false⟩:=by and_intros<;>kernel_rfl
@[simp] theorem tj18 :aH prog 191=some ⟨1,8,[.nilFunc],.func,false,none,false⟩/\aH prog 192=some ⟨1,8,[.nilFunc],.func,false,none,false⟩/\aH prog 193=some ⟨1,8,[.nilFunc],.func,false,none,false⟩/\aH prog 195=some ⟨1,8,[.nilFunc],.func,false,none,false⟩/\aH prog 197=some ⟨1,8,[.nilFunc],.func,false,none,false⟩/\aH prog 203=some ⟨1,8,[.nilFunc],.func,false,none,false⟩/\aH prog 207=some ⟨1,8,[.nilFunc],.func,false,none,false⟩/\aH prog 208=some ⟨1,8,[.map none],.map 86 4,false,none,false⟩:=by and_intros<;>kernel_rfl
@[simp] theorem tj19 :bS prog 208=1/\aH prog 210=some ⟨5,104,[.slice none 0 0,.slice none 0 0,.map none,.slice none 0 0,.slice none 0 0],.dD [(0,26,false),(1,27,false),(2,208,false),(3,26,false),(4,27,false)],false,none,true⟩/\aH prog 232=some ⟨1,8,[.nilFunc],.func,false,none,false⟩/\aH prog 235=some ⟨3,24,[.int .i64 0,.int .i64 0,.int .i64 0],.dD [(0,3,false),(1,3,false),(2,3,false)],false,some [.int,.int,.int],true⟩/\aH prog 236=some ⟨1,8,[.nilFunc],.func,false,none,false⟩/\aH prog 239=some ⟨2,24,[.string ⟨#[]⟩,.int .i64 0],.dD [(0,9,false),(1,3,false)],false,some [.str,.int],true⟩/\aH prog 240=some ⟨1,8,[.nilFunc],.func,false,none,false⟩/\aH prog 241=some ⟨1,8,[.map none],.map 86 82,false,none,false⟩:=by and_intros<;>kernel_rfl
@[simp] theorem tj20 :aH prog 245=some ⟨1,8,[.map none],.map 86 4,false,none,false⟩/\aH prog 251=some ⟨1,8,[.nilFunc],.func,false,none,false⟩/\aH prog 254=some ⟨1,8,[.nilFunc],.func,false,none,false⟩/\aH prog 255=some ⟨1,8,[.nilFunc],.func,false,none,false⟩/\aH prog 256=some ⟨1,8,[.nilFunc],.func,false,none,false⟩/\aH prog 258=some ⟨1,8,[.map none],.map 3 4,false,none,false⟩/\aH prog 277=some ⟨1,8,[.nilFunc],.func,false,none,false⟩/\aH prog 279=some ⟨4,4,[.bool false,.bool false,.bool false,.bool false],.dD [(0,4,false),(1,4,false),(2,4,false),(3,4,false)],false,some [.bool,.bool,.bool,.bool],true⟩:=by and_intros<;>kernel_rfl
@[simp] theorem tj21 :aH prog 280=some ⟨1,8,[.nilFunc],.func,false,none,false⟩/\aH prog 283=some ⟨1,8,[.nilFunc],.func,false,none,false⟩/\aH prog 287=some ⟨1,8,[.nilFunc],.func,false,none,false⟩/\aH prog 288=some ⟨1,8,[.nilFunc],.func,false,none,false⟩/\aH prog 290=some ⟨1,8,[.map none],.map 86 27,false,none,false⟩/\aH prog 292=some ⟨1,8,[.nilFunc],.func,false,none,false⟩/\aH prog 295=some ⟨1,8,[.nilFunc],.func,false,none,false⟩/\aH prog 299=some ⟨1,8,[.int .u64 0],.int .u64,false,some [.int],false⟩:=by and_intros<;>kernel_rfl
@[simp] theorem tj22 :aH prog 304=some ⟨1,8,[.nilFunc],.func,false,none,false⟩/\aH prog 306=some ⟨1,8,[.int .i64 0],.int .i64,false,some [.int],false⟩/\aH prog 312=some ⟨1,8,[.nilFunc],.func,false,none,false⟩/\aH prog 314=some ⟨1,4,[.int .u32 0],.int .u32,false,some [.int],false⟩/\aH prog 316=some ⟨1,8,[.int .u64 0],.int .u64,false,some [.int],false⟩/\aH prog 317=some ⟨1,8,[.nilFunc],.func,false,none,false⟩/\aH prog 319=some ⟨1,8,[.int .u64 0],.int .u64,false,some [.int],false⟩/\aH prog 321=some ⟨1,8,[.nilFunc],.func,false,none,false⟩:=by and_intros<;>kernel_rfl
@[simp] theorem tj23 :aH prog 323=some ⟨1,8,[.pointer none],.ptr 3,false,none,false⟩/\aH prog 325=some ⟨1,8,[.nilFunc],.func,false,none,false⟩/\aH prog 326=some ⟨1,8,[.nilFunc],.func,false,none,false⟩/\aH prog 327=some ⟨1,8,[.nilFunc],.func,false,none,false⟩/\aH prog 328=some ⟨1,8,[.pointer none],.ptr 319,false,none,false⟩/\aH prog 351=some ⟨1,8,[.pointer none],.ptr 5,false,none,false⟩/\nX prog 208=some ⟨86,4,true,[.int,.str],⟨1,1,[.bool false],.bool,false,some [.bool],false⟩⟩/\nX prog 241=some ⟨86,82,true,[.int,.str],⟨7,104,[.int .i64 0,.string ⟨#[]⟩,.int .i64 0,.int .i64 0,.string ⟨#[]⟩,.slice none 0 0,.slice none 0 0],.dD [(0,3,false),(1,9,false),(2,3,false),(3,3,false),(4,9,false),(5,79,false),(6,80,false)],false,none,true⟩⟩:=by and_intros<;>kernel_rfl
@[simp] theorem tj24 :nX prog 245=some ⟨86,4,true,[.int,.str],⟨1,1,[.bool false],.bool,false,some [.bool],false⟩⟩/\nX prog 258=some ⟨3,4,false,[.int],⟨1,1,[.bool false],.bool,false,some [.bool],false⟩⟩:=by and_intros<;>kernel_rfl
attribute [simp] G5 D6
end Go.Proofs.YtelooagbkmpdpaaGreatDoor
namespace Go.Proofs
open Go.Shelf
def Tryz.X9 :Go.Shelf.Ren:=⟨λ|106=>260|213=>274|265=>283|n=>n,λ|9=>9|3=>3|n=>n,λ|n=>n⟩
theorem Tryz.YA :Go.Proofs.Lays.n106 Tryz.prog Tryz.X9:={
 mixed:=by kernel_rfl
 f106:=Tryz.func260.trans (cI some (by kernel_rfl))
 f213:=Tryz.func274.trans (cI some (by kernel_rfl))
 f265:=Tryz.func283.trans (cI some (by kernel_rfl))
 t3:=Tryz.underlying3
 a3:=Tryz.isAgg3
 z3:=Tryz.sizeOf3
 v3:=Tryz.zeroValue3
 t9:=Tryz.underlying9
 a9:=Tryz.isAgg9
 z9:=Tryz.sizeOf9
 v9:=Tryz.zeroValue9}
open Go.RowKit in
theorem Tryz.strings_Compare (a b:ByteArray)(w:World):
  Calls Tryz.prog 260 #[.string a,.string b] w λe w'=>e=.returned (.int .i64 (Lib.compareBytes a.data.toList b.data.toList))/\w'=w:=Any.strings_Compare Tryz.YA a b w
def Tryz.X7 :Go.Shelf.Ren:=⟨λ|143=>288|219=>290|217=>291|225=>292|224=>293|267=>294|266=>295|314=>296|n=>n,λ|9=>9|3=>3|4=>4|5=>5|46=>299|146=>339|51=>314|n=>n,λ|1=>1|n=>n⟩
theorem Tryz.X8 :Go.Proofs.Lays.n143 Tryz.prog Tryz.X7:={
 mixed:=by kernel_rfl
 f143:=Tryz.func288.trans (cI some (by kernel_rfl))
 f217:=Tryz.func291.trans (cI some (by kernel_rfl))
 f219:=Tryz.func290.trans (cI some (by kernel_rfl))
 f224:=Tryz.func293.trans (cI some (by kernel_rfl))
 f225:=Tryz.func292.trans (cI some (by kernel_rfl))
 f266:=Tryz.func295.trans (cI some (by kernel_rfl))
 f267:=Tryz.func294.trans (cI some (by kernel_rfl))
 f314:=Tryz.func296.trans (cI some (by kernel_rfl))
 t3:=Tryz.underlying3
 a3:=Tryz.isAgg3
 z3:=Tryz.sizeOf3
 v3:=Tryz.zeroValue3
 t4:=Tryz.underlying4
 a4:=Tryz.isAgg4
 z4:=Tryz.sizeOf4
 v4:=Tryz.zeroValue4
 t5:=Tryz.underlying5
 a5:=Tryz.isAgg5
 z5:=Tryz.sizeOf5
 v5:=Tryz.zeroValue5
 t9:=Tryz.underlying9
 a9:=Tryz.isAgg9
 z9:=Tryz.sizeOf9
 v9:=Tryz.zeroValue9
 t46:=Tryz.underlying299
 a46:=Tryz.isAgg299
 z46:=Tryz.sizeOf299
 v46:=Tryz.zeroValue299
 t51:=Tryz.underlying314
 a51:=Tryz.isAgg314
 z51:=Tryz.sizeOf314
 v51:=Tryz.zeroValue314
 t146:=Tryz.underlying339
 a146:=Tryz.isAgg339
 z146:=Tryz.sizeOf339
 v146:=Tryz.zeroValue339
 g1:=by kernel_rfl}
open Go.RowKit Go.Lib in
theorem Tryz.strings_Index_one (s:ByteArray)(c:UInt8)(w:World):
  Calls Tryz.prog 288 #[.string s,.string ⟨#[c]⟩] w λe w'=>e=.returned (.int .i64 (Lib.indexByte s.data.toList c))/\w'=w:=Any.strings_Index_one Tryz.X8 s c w
def Tryz.RE :Go.Shelf.Ren:=⟨λ|6=>211|15=>249|14=>248|28=>269|29=>270|20=>261|21=>262|22=>263|23=>264|24=>265|25=>266|26=>267|27=>268|46=>275|47=>276|48=>277|49=>278|50=>279|57=>284|n=>n,λ|22=>27|24=>86|25=>240|3=>3|39=>299|0=>0|53=>314|55=>316|4=>4|46=>307|45=>306|50=>311|5=>5|9=>9|66=>319|70=>323|76=>328|77=>329|n=>n,λ|n=>n⟩
theorem Tryz.HI :Go.Proofs.SlLaysF0.n6 Tryz.prog Tryz.RE:={
 mixed:=by kernel_rfl
 f6:=⟨Tryz.f211.name,by decide,Tryz.func211.trans (cI some (by kernel_rfl))⟩
 f14:=⟨Tryz.f248.name,by decide,Tryz.func248.trans (cI some (by kernel_rfl))⟩
 f15:=Tryz.func249.trans (cI some (by kernel_rfl))
 f20:=⟨Tryz.f261.name,by decide,Tryz.func261.trans (cI some (by kernel_rfl))⟩
 f21:=⟨Tryz.f262.name,by decide,Tryz.func262.trans (cI some (by kernel_rfl))⟩
 f22:=⟨Tryz.f263.name,by decide,Tryz.func263.trans (cI some (by kernel_rfl))⟩
 f23:=⟨Tryz.f264.name,by decide,Tryz.func264.trans (cI some (by kernel_rfl))⟩
 f24:=⟨Tryz.f265.name,by decide,Tryz.func265.trans (cI some (by kernel_rfl))⟩
 f25:=⟨Tryz.f266.name,by decide,Tryz.func266.trans (cI some (by kernel_rfl))⟩
 f26:=⟨Tryz.f267.name,by decide,Tryz.func267.trans (cI some (by kernel_rfl))⟩
 f27:=⟨Tryz.f268.name,by decide,Tryz.func268.trans (cI some (by kernel_rfl))⟩
 f28:=Tryz.func269.trans (cI some (by kernel_rfl))
 f29:=Tryz.func270.trans (cI some (by kernel_rfl))
 f46:=⟨Tryz.f275.name,by decide,Tryz.func275.trans (cI some (by kernel_rfl))⟩
 f47:=Tryz.func276.trans (cI some (by kernel_rfl))
 f48:=Tryz.func277.trans (cI some (by kernel_rfl))
 f49:=⟨Tryz.f278.name,by decide,Tryz.func278.trans (cI some (by kernel_rfl))⟩
 f50:=⟨Tryz.f279.name,by decide,Tryz.func279.trans (cI some (by kernel_rfl))⟩
 f57:=⟨Tryz.f284.name,by decide,Tryz.func284.trans (cI some (by kernel_rfl))⟩
 t0:=Tryz.underlying0
 a0:=Tryz.isAgg0
 z0:=Tryz.sizeOf0
 v0:=Tryz.zeroValue0
 t3:=Tryz.underlying3
 a3:=Tryz.isAgg3
 z3:=Tryz.sizeOf3
 v3:=Tryz.zeroValue3
 t4:=Tryz.underlying4
 a4:=Tryz.isAgg4
 z4:=Tryz.sizeOf4
 v4:=Tryz.zeroValue4
 t5:=Tryz.underlying5
 a5:=Tryz.isAgg5
 z5:=Tryz.sizeOf5
 v5:=Tryz.zeroValue5
 t9:=Tryz.underlying9
 a9:=Tryz.isAgg9
 z9:=Tryz.sizeOf9
 v9:=Tryz.zeroValue9
 t22:=Tryz.underlying27
 a22:=Tryz.isAgg27
 z22:=Tryz.sizeOf27
 v22:=Tryz.zeroValue27
 t25:=Tryz.underlying240
 a25:=Tryz.isAgg240
 z25:=Tryz.sizeOf240
 v25:=Tryz.zeroValue240
 t39:=Tryz.underlying299
 a39:=Tryz.isAgg299
 z39:=Tryz.sizeOf299
 v39:=Tryz.zeroValue299
 t45:=Tryz.underlying306
 a45:=Tryz.isAgg306
 z45:=Tryz.sizeOf306
 v45:=Tryz.zeroValue306
 t46:=Tryz.underlying307
 a46:=Tryz.isAgg307
 z46:=Tryz.sizeOf307
 v46:=Tryz.zeroValue307
 t50:=Tryz.underlying311
 a50:=Tryz.isAgg311
 z50:=Tryz.sizeOf311
 v50:=Tryz.zeroValue311
 t53:=Tryz.underlying314
 a53:=Tryz.isAgg314
 z53:=Tryz.sizeOf314
 v53:=Tryz.zeroValue314
 t55:=Tryz.underlying316
 a55:=Tryz.isAgg316
 z55:=Tryz.sizeOf316
 v55:=Tryz.zeroValue316
 t66:=Tryz.underlying319
 a66:=Tryz.isAgg319
 z66:=Tryz.sizeOf319
 v66:=Tryz.zeroValue319
 t70:=Tryz.underlying323
 a70:=Tryz.isAgg323
 z70:=Tryz.sizeOf323
 v70:=Tryz.zeroValue323
 t76:=Tryz.underlying328
 a76:=Tryz.isAgg328
 z76:=Tryz.sizeOf328
 v76:=Tryz.zeroValue328
 t77:=Tryz.underlying329
 a77:=Tryz.isAgg329
 z77:=Tryz.sizeOf329
 v77:=Tryz.zeroValue329}
end Go.Proofs
