/- A FRAMEWORK OF MY OWN (1) -/
import Derived.Orders
import Derived.WalkKit
import Derived.OwnWalkIn
import Derived.TacticsInMore
import Derived.LoopNIn
import Derived.LoopIn
import Derived.RegionIn
set_option linter.unusedSimpArgs false
set_option linter.unusedVariables false
set_option maxRecDepth 100000
set_option maxHeartbeats 8000000
namespace Go
theorem uQ:type_of% @Array.getElem?_eq_getElem:=@Array.getElem?_eq_getElem
theorem T0:type_of% @Array.getElem?_eq_none:=@Array.getElem?_eq_none
theorem qZ:type_of% @Array.getElem?_eq_some_iff:=@Array.getElem?_eq_some_iff
theorem TZ:type_of% @Array.getElem?_modify:=@Array.getElem?_modify
theorem vU:type_of% @Array.getElem?_setIfInBounds_ne:=@Array.getElem?_setIfInBounds_ne
theorem zG:type_of% @Array.getElem?_toList:=@Array.getElem?_toList
theorem TY:type_of% @Array.toList_map:=@Array.toList_map
theorem bL:type_of% @Bool.and_eq_true:=@Bool.and_eq_true
theorem zF:type_of% @Bool.and_false:=@Bool.and_false
theorem TX:type_of% @Bool.eq_false_iff:=@Bool.eq_false_iff
theorem tQ:type_of% @Bool.eq_iff_iff:=@Bool.eq_iff_iff
theorem A4:type_of% @Bool.false_and:=@Bool.false_and
theorem A1:type_of% @Bool.false_eq_true:=@Bool.false_eq_true
theorem TW:type_of% @Bool.false_ne_true:=@Bool.false_ne_true
theorem JW:type_of% @Bool.not_and:=@Bool.not_and
theorem EK:type_of% @Bool.not_eq_true':=@Bool.not_eq_true'
theorem M5:type_of% @Bool.not_true:=@Bool.not_true
theorem M4:type_of% @Bool.or_eq_false_iff:=@Bool.or_eq_false_iff
theorem sO:type_of% @Bool.or_eq_true:=@Bool.or_eq_true
theorem uP:type_of% @Bool.true_and:=@Bool.true_and
theorem EJ:type_of% @Bool.true_eq_false:=@Bool.true_eq_false
theorem M3:type_of% @Decidable.not_not:=@Decidable.not_not
theorem mY:type_of% @Iff.rfl:=@Iff.rfl
theorem vT:type_of% @Int.not_lt:=@Int.not_lt
theorem M1:type_of% @Int.toNat_natCast:=@Int.toNat_natCast
theorem M0:type_of% @IntWalk.i64_in:=@IntWalk.i64_in
theorem yE:type_of% @List.all_cons:=@List.all_cons
theorem oE:type_of% @List.all_eq_false:=@List.all_eq_false
theorem Ai:type_of% @List.all_eq_not_any_not:=@List.all_eq_not_any_not
theorem dP:type_of% @List.all_eq_true:=@List.all_eq_true
theorem TV:type_of% @List.any_append:=@List.any_append
theorem JV:type_of% @List.any_eq_false:=@List.any_eq_false
theorem CO:type_of% @List.any_eq_true:=@List.any_eq_true
theorem TU:type_of% @List.append_assoc:=@List.append_assoc
theorem MZ:type_of% @List.append_nil:=@List.append_nil
theorem yD:type_of% @List.cons_append:=@List.cons_append
theorem TT:type_of% @List.contains_iff_mem:=@List.contains_iff_mem
theorem AZ:type_of% @List.drop_drop:=@List.drop_drop
theorem tP:type_of% @List.drop_eq_getElem_cons:=@List.drop_eq_getElem_cons
theorem JU:type_of% @List.drop_eq_nil_iff:=@List.drop_eq_nil_iff
theorem TR:type_of% @List.drop_eq_nil_of_le:=@List.drop_eq_nil_of_le
theorem yC:type_of% @List.drop_length:=@List.drop_length
theorem kH:type_of% @List.eq_nil_of_length_eq_zero:=@List.eq_nil_of_length_eq_zero
theorem TQ:type_of% @List.eq_of_mem_replicate:=@List.eq_of_mem_replicate
theorem JT:type_of% @List.ext_getElem?:=@List.ext_getElem?
theorem nL:type_of% @List.filter_append:=@List.filter_append
theorem JS:type_of% @List.filter_eq_self:=@List.filter_eq_self
theorem wZ:type_of% @List.find?_cons:=@List.find?_cons
theorem MX:type_of% @List.find?_eq_none:=@List.find?_eq_none
theorem JR:type_of% @List.findIdx?_cons:=@List.findIdx?_cons
theorem TP:type_of% @List.flatMap_cons:=@List.flatMap_cons
theorem qY:type_of% @List.foldl_append:=@List.foldl_append
theorem pH:type_of% @List.foldl_cons:=@List.foldl_cons
theorem TN:type_of% @List.getElem?_append:=@List.getElem?_append
theorem qX:type_of% @List.getElem?_append_left:=@List.getElem?_append_left
theorem tN:type_of% @List.getElem?_append_right:=@List.getElem?_append_right
theorem JQ:type_of% @List.getElem?_cons_succ:=@List.getElem?_cons_succ
theorem GG:type_of% @List.getElem?_cons_zero:=@List.getElem?_cons_zero
theorem CN:type_of% @List.getElem?_drop:=@List.getElem?_drop
theorem bO:type_of% @List.getElem?_eq_getElem:=@List.getElem?_eq_getElem
theorem JP:type_of% @List.getElem?_eq_none:=@List.getElem?_eq_none
theorem cE:type_of% @List.getElem?_eq_some_iff:=@List.getElem?_eq_some_iff
theorem jX:type_of% @List.getElem?_map:=@List.getElem?_map
theorem CM:type_of% @List.getElem?_of_mem:=@List.getElem?_of_mem
theorem TM:type_of% @List.getElem?_take_of_lt:=@List.getElem?_take_of_lt
theorem MW:type_of% @List.getElem?_toArray:=@List.getElem?_toArray
theorem mF:type_of% @List.getElem_mem:=@List.getElem_mem
theorem GF:type_of% @List.getLast?_eq_getElem?:=@List.getLast?_eq_getElem?
theorem Ah:type_of% @List.getLastD_eq_getLast?:=@List.getLastD_eq_getLast?
theorem bZ:type_of% @List.length_append:=@List.length_append
theorem jI:type_of% @List.length_cons:=@List.length_cons
theorem AY:type_of% @List.length_drop:=@List.length_drop
theorem MV:type_of% @List.length_eq_zero_iff:=@List.length_eq_zero_iff
theorem gJ:type_of% @List.length_filter_le:=@List.length_filter_le
theorem zD:type_of% @List.length_map:=@List.length_map
theorem gZ:type_of% @List.length_nil:=@List.length_nil
theorem vS:type_of% @List.length_pos_iff:=@List.length_pos_iff
theorem CL:type_of% @List.length_take:=@List.length_take
theorem CJ:type_of% @List.map_append:=@List.map_append
theorem kE:type_of% @List.map_cons:=@List.map_cons
theorem zC:type_of% @List.map_nil:=@List.map_nil
theorem GD:type_of% @List.map_set:=@List.map_set
theorem zB:type_of% @List.map_take:=@List.map_take
theorem gU:type_of% @List.mem_append:=@List.mem_append
theorem kD:type_of% @List.mem_cons:=@List.mem_cons
theorem JO:type_of% @List.mem_cons_of_mem:=@List.mem_cons_of_mem
theorem JN:type_of% @List.mem_cons_self:=@List.mem_cons_self
theorem mX:type_of% @List.mem_filter:=@List.mem_filter
theorem MU:type_of% @List.mem_iff_getElem?:=@List.mem_iff_getElem?
theorem fU:type_of% @List.mem_map:=@List.mem_map
theorem gT:type_of% @List.mem_of_getElem?:=@List.mem_of_getElem?
theorem MT:type_of% @List.mem_of_getLast?:=@List.mem_of_getLast?
theorem yB:type_of% @List.mem_of_mem_drop:=@List.mem_of_mem_drop
theorem Ag:type_of% @List.mem_of_mem_eraseIdx:=@List.mem_of_mem_eraseIdx
theorem pY:type_of% @List.mem_of_mem_take:=@List.mem_of_mem_take
theorem GC:type_of% @List.mem_or_eq_of_mem_set:=@List.mem_or_eq_of_mem_set
theorem JM:type_of% @List.mem_range:=@List.mem_range
theorem yA:type_of% @List.mem_singleton:=@List.mem_singleton
theorem EI:type_of% @List.nil_append:=@List.nil_append
theorem MS:type_of% @List.pairwise_append:=@List.pairwise_append
theorem zA:type_of% @List.pairwise_cons:=@List.pairwise_cons
theorem MR:type_of% @List.pairwise_iff_getElem:=@List.pairwise_iff_getElem
theorem JL:type_of% @List.size_toArray:=@List.size_toArray
theorem jH:type_of% @List.take_add_one:=@List.take_add_one
theorem bX:type_of% @List.take_length:=@List.take_length
theorem JK:type_of% @List.take_of_length_le:=@List.take_of_length_le
theorem kC:type_of% @Nat.add_mul:=@Nat.add_mul
theorem AX:type_of% @Nat.add_zero:=@Nat.add_zero
theorem TL:type_of% @Nat.div_lt_of_lt_mul:=@Nat.div_lt_of_lt_mul
theorem wY:type_of% @Nat.eq_zero_or_pos:=@Nat.eq_zero_or_pos
theorem bY:type_of% @Nat.le_refl:=@Nat.le_refl
theorem dH:type_of% @Nat.le_trans:=@Nat.le_trans
theorem AU:type_of% @Nat.lt_of_lt_of_le:=@Nat.lt_of_lt_of_le
theorem y9:type_of% @Nat.lt_or_ge:=@Nat.lt_or_ge
theorem TK:type_of% @Nat.mod_eq_of_lt:=@Nat.mod_eq_of_lt
theorem EH:type_of% @Nat.mod_lt:=@Nat.mod_lt
theorem uO:type_of% @Nat.mul_comm:=@Nat.mul_comm
theorem oQ:type_of% @Nat.mul_le_mul_right:=@Nat.mul_le_mul_right
theorem sN:type_of% @Nat.one_mul:=@Nat.one_mul
theorem MQ:type_of% @Nat.sub_zero:=@Nat.sub_zero
theorem AR:type_of% @Nat.zero_add:=@Nat.zero_add
theorem y8:type_of% @Nat.zero_le:=@Nat.zero_le
theorem x9:type_of% @Ne.symm:=@Ne.symm
theorem JJ:type_of% @Option.bind_some:=@Option.bind_some
theorem y7:type_of% @Option.isSome_iff_exists:=@Option.isSome_iff_exists
theorem sM:type_of% @Option.map_eq_some_iff:=@Option.map_eq_some_iff
theorem tM:type_of% @Option.map_some:=@Option.map_some
theorem mW:type_of% @Option.some.inj:=@Option.some.inj
theorem pX:type_of% @Option.some.injEq:=@Option.some.injEq
theorem fB:type_of% @Result.andThen_ok:=@Result.andThen_ok
theorem dS:type_of% @Sem.run_bind:=@Sem.run_bind
theorem oD:type_of% @Sem.run_pure:=@Sem.run_pure
theorem GB:type_of% @UInt8.lt_iff_toNat_lt:=@UInt8.lt_iff_toNat_lt
theorem JI:type_of% @UInt8.toNat_inj:=@UInt8.toNat_inj
theorem GA:type_of% @World.cell?_alloc_lt:=@World.cell?_alloc_lt
theorem Af:type_of% @World.frozen?_alloc_old:=@World.frozen?_alloc_old
theorem F9:type_of% @World.size_alloc:=@World.size_alloc
theorem EG:type_of% @callsIn_wide:=@callsIn_wide
theorem jW:type_of% @congrArg:=@congrArg
theorem EF:type_of% @decide_eq_decide:=@decide_eq_decide
theorem TJ:type_of% @decide_eq_false:=@decide_eq_false
theorem JH:type_of% @decide_eq_false_iff_not:=@decide_eq_false_iff_not
theorem oC:type_of% @decide_eq_true:=@decide_eq_true
theorem dA:type_of% @decide_eq_true_eq:=@decide_eq_true_eq
theorem F8:type_of% @decide_false:=@decide_false
theorem F7:type_of% @decide_true:=@decide_true
theorem EE:type_of% @getElem!_pos:=@getElem!_pos
theorem ED:type_of% @heap_alloc_new:=@heap_alloc_new
theorem wX:type_of% @heap_alloc_old:=@heap_alloc_old
theorem iO:type_of% @if_false:=@if_false
theorem aT:type_of% @if_neg:=@if_neg
theorem aZ:type_of% @if_pos:=@if_pos
theorem fK:type_of% @if_true:=@if_true
theorem MP:type_of% @not_false_eq_true:=@not_false_eq_true
theorem EC:type_of% @not_true_eq_false:=@not_true_eq_false
theorem pG:type_of% @of_decide_eq_false:=@of_decide_eq_false
theorem lS:type_of% @of_decide_eq_true:=@of_decide_eq_true
theorem CH:type_of% @run_callFunc_extern:=@run_callFunc_extern
theorem TH:type_of% @run_storeCells_at:=@run_storeCells_at
theorem cZ:type_of% @run_underlying:=@run_underlying
theorem CG:type_of% @setRow_other:=@setRow_other
theorem AQ:type_of% @true_and:=@true_and
theorem AP:type_of% @wpIn_mono:=@wpIn_mono
end Go
namespace Go.AI
inductive CK where
 |int|bool|str
 deriving DecidableEq
def CK.fits :CK->Value->Bool
 |.int,.int .i64 _=>true
 |.bool,.bool _=>true
 |.str,.string _=>true
 |_,_=>false
def iX :List CK->List Value->Bool
 |[],[]=>true
 |k::ks,x::xs=>k.fits x&&iX ks xs
 |_,_=>false
def mk (agg:Bool)(xs:List Value):Value:=if agg then .agg xs.toArray else xs.headD undef
inductive D where
 |v (x:Value)
 |agg (cs:List D)
 |ro (fc:Bool) (es:List (List D))
 |fn (f:Fn) (first captured:List D)
 |bE (cs:List D)
 |gB (t:TypeId) (x:D)
 |mp (ka:Bool) (ks:List CK) (va:Bool) (look:List Value->Option (List D))
inductive AV where
 |d (x:D)
 |any
 |ab
 |ptr (b off:Nat)
 |own (b:Nat)
 |gR (b sz i off:Nat)
 |sl (b sz i len:Nat)
 |agg (cs:List AV)
 |aU (vs:List AV)
 |fn (f:Fn) (first captured:List AV)
 |gB (t:TypeId) (x:AV)
inductive aY where
 |cells (cs:List AV) (T:TypeId)
 |grow (sz:Nat) (es:List (List D)) (T:TypeId)
 |map (ka:Bool) (ks:List CK) (va:Bool) (look:List Value->Option (List D))
 |oJ (ka:Bool) (ks:List CK) (va:Bool) (look:List Value->Option (List D)) (kc:List Value) (c:Nat)
 |iter (s:ByteArray) (pos:Nat)
 |dR (ps:List Nat) (T:TypeId)
def hb :Value->Option Nat
 |.pointer (some a)=>some a.block
 |.slice (some a) _ (_+1)=>some a.block
 |.map (some n)=>some n
 |_=>none
theorem vJ {a:Addr}{l c:Nat}(h:0<c):hb (.slice (some a) l c)=some a.block:=by
 cases c with
 |zero=>omega
 |succ c=>rfl
inductive RD (I:Nat->Prop)(w:World):D->Value->Prop
 |v (x:Value):RD I w (.v x) x
 |agg {cs:List D} {xs:List Value} (hl:xs.length=cs.length)
   (h:∀(i:Nat) c x,cs[i]? =some c->xs[i]? =some x->RD I w c x):RD I w (.agg cs) (.agg xs.toArray)
 |nil {fc:Bool}:RD I w (.ro fc []) (.slice none 0 0)
 |emp {fc:Bool} {a:Addr}:RD I w (.ro fc []) (.slice (some a) 0 0)
 |ro {sz:Nat} {fc:Bool} {es:List (List D)} {blk off cap:Nat} (val:Nat->Nat->Value) (hI:I blk)
   (hsz:∀e∈es,e.length=sz) (hcap:es.length<=cap) (hmax:cap<=maxLen) (hfc:fc=true->cap=es.length)
   (hc:∀(i:Nat) e (j:Nat) c,es[i]? =some e->e[j]? =some c->w.cell? ⟨blk,off+i*sz+j,none⟩=some (val i j))
   (hr:∀(i:Nat) e (j:Nat) c,es[i]? =some e->e[j]? =some c->RD I w c (val i j))
   (h1:∀(i:Nat) e (j:Nat) c,es[i]? =some e->e[j]? =some c->(val i j).oneCell'=true):
   RD I w (.ro fc es) (.slice (some ⟨blk,off,none⟩) es.length cap)
 |fn {f:Fn} {first captured:List D} {xs ys:List Value} (hx:xs.length=first.length) (hy:ys.length=captured.length)
   (h1:∀(i:Nat) c x,first[i]? =some c->xs[i]? =some x->RD I w c x)
   (h2:∀(i:Nat) c x,captured[i]? =some c->ys[i]? =some x->RD I w c x):RD I w (.fn f first captured) (.func f xs.toArray ys.toArray)
 |bE {cs:List D} {blk off:Nat} (val:Nat->Value) (hI:I blk)
   (hc:∀(j:Nat) c,cs[j]? =some c->w.cell? ⟨blk,off+j,none⟩=some (val j))
   (hr:∀(j:Nat) c,cs[j]? =some c->RD I w c (val j)) (h1:∀(j:Nat) c,cs[j]? =some c->(val j).oneCell'=true):RD I w (.bE cs) (.pointer (some ⟨blk,off,none⟩))
 |gB {t:TypeId} {x:D} {y:Value} (h:RD I w x y):RD I w (.gB t x) (.iface t y)
 |mp {ka:Bool} {ks:List CK} {va:Bool} {look:List Value->Option (List D)} {n clock:Nat} {es:Array MapEntry} (keys:Nat->List Value) (vals:Nat->List Value) (hI:I n) (hb:w.heap[n]? =some (.map es clock))
   (hk:∀(i:Nat) e,es[i]? =some e->e.key=mk ka (keys i)/\e.val=mk va (vals i)/\iX ks (keys i)=true/\∃d,look (keys i)=some d/\d.length=(vals i).length)
   (hu:∀(i j:Nat),i<es.size->j<es.size->keys i=keys j->i=j)
   (hl:∀k d,look k=some d->∃i,i<es.size/\keys i=k)
   (hv:∀(i:Nat) d (j:Nat) c x,i<es.size->look (keys i)=some d->d[j]? =some c->(vals i)[j]? =some x->RD I w c x):RD I w (.mp ka ks va look) (.map (some n))
theorem cell_of_heap {w w':World}{a:Addr}(h:w'.heap[a.block]? =w.heap[a.block]?):w'.cell? a=w.cell? a:=by
 simp[World.cell?,h]
theorem RD.mono {I I':Nat->Prop}{w w':World}(hw:∀n,I n->w'.heap[n]? =w.heap[n]?)(hI:∀n,I n->I' n){d:D}{x:Value}
  (h:RD I w d x):RD I' w' d x:=by
 induction h with
 |v x=>exact .v x
 |agg hl _ ih=>exact .agg hl ih
 |nil=>exact .nil
 |emp=>exact .emp
 |ro val hi hsz hcap hmax hfc hc _ h1 ih=>
  exact .ro val (hI _ hi) hsz hcap hmax hfc (λi e j c h1 h2=>(cell_of_heap (hw _ hi)).trans (hc i e j c h1 h2)) ih h1
 |fn hx hy _ _ i1 i2=>exact .fn hx hy i1 i2
 |bE val hi hc _ h1 ih=>exact .bE val (hI _ hi) (λj c h1=>(cell_of_heap (hw _ hi)).trans (hc j c h1)) ih h1
 |gB _ ih=>exact .gB ih
 |mp keys vals hi hb hk hu hl _ ih=>exact .mp keys vals (hI _ hi) ((hw _ hi).trans hb) hk hu hl ih
abbrev Names :=Nat->Option Value
inductive MJ (sz:Nat):Value->Nat->Nat->Value->Prop
 |nil:MJ sz (.slice none 0 0) 0 0 (.slice none 0 0)
 |none {y:Value} {i:Nat} (a:Addr):MJ sz y i 0 (.slice (some a) 0 0)
 |some {n len cap i l c:Nat} (hc:i+c<=cap) (hl:l<=c):MJ sz (.slice (some ⟨n,0,none⟩) len cap) i l (.slice (some ⟨n,i*sz,none⟩) l c)
inductive RV (σ:Names)(I:Nat->Prop)(w:World):AV->Value->Prop
 |d {x:D} {y:Value} (h:RD I w x y):RV σ I w (.d x) y
 |any (y:Value):RV σ I w .any y
 |ab (t:Bool):RV σ I w .ab (.bool t)
 |ptr {b off n:Nat} (h:σ b=some (.pointer (some ⟨n,0,none⟩))):RV σ I w (.ptr b off) (.pointer (some ⟨n,off,none⟩))
 |own {b:Nat} {y:Value} (h:σ b=some y) (h1:y.oneCell'=true):RV σ I w (.own b) y
 |gR {b sz i off n len cap:Nat} (h:σ b=some (.slice (some ⟨n,0,none⟩) len cap)):RV σ I w (.gR b sz i off) (.pointer (some ⟨n,i*sz+off,none⟩))
 |sl {b sz i len:Nat} {y v:Value} (h:σ b=some y) (hs:MJ sz y i len v):RV σ I w (.sl b sz i len) v
 |agg {cs:List AV} {xs:List Value} (hl:xs.length=cs.length)
   (h:∀(i:Nat) c x,cs[i]? =some c->xs[i]? =some x->RV σ I w c x):RV σ I w (.agg cs) (.agg xs.toArray)
 |aU {cs:List AV} {xs:List Value} (hl:xs.length=cs.length)
   (h:∀(i:Nat) c x,cs[i]? =some c->xs[i]? =some x->RV σ I w c x):RV σ I w (.aU cs) (.tuple xs.toArray)
 |fn {f:Fn} {first captured:List AV} {xs ys:List Value} (hx:xs.length=first.length) (hy:ys.length=captured.length)
   (h1:∀(i:Nat) c x,first[i]? =some c->xs[i]? =some x->RV σ I w c x)
   (h2:∀(i:Nat) c x,captured[i]? =some c->ys[i]? =some x->RV σ I w c x):RV σ I w (.fn f first captured) (.func f xs.toArray ys.toArray)
 |gB {t:TypeId} {x:AV} {y:Value} (h:RV σ I w x y):RV σ I w (.gB t x) (.iface t y)
theorem RV.mono {σ σ':Names}{I I':Nat->Prop}{w w':World}(hw:∀n,I n->w'.heap[n]? =w.heap[n]?)(hI:∀n,I n->I' n)
  (hσ:∀b x,σ b=some x->σ' b=some x) {d:AV} {x:Value} (h:RV σ I w d x):RV σ' I' w' d x:=by
 induction h with
 |d h=>exact .d (h.mono hw hI)
 |any y=>exact .any y
 |ab t=>exact .ab t
 |ptr h=>exact .ptr (hσ _ _ h)
 |own h h1=>exact .own (hσ _ _ h) h1
 |gR h=>exact .gR (hσ _ _ h)
 |sl h hs=>exact .sl (hσ _ _ h) hs
 |agg hl _ ih=>exact .agg hl ih
 |aU hl _ ih=>exact .aU hl ih
 |fn hx hy _ _ i1 i2=>exact .fn hx hy i1 i2
 |gB _ ih=>exact .gB ih
def AV.bU (g:Nat->Nat):AV->AV
 |.d x=>.d x
 |.any=>.any
 |.ab=>.ab
 |.ptr b off=>.ptr (g b) off
 |.own b=>.own (g b)
 |.gR b sz i off=>.gR (g b) sz i off
 |.sl b sz i len=>.sl (g b) sz i len
 |.agg cs=>.agg (cs.map (AV.bU g))
 |.aU cs=>.aU (cs.map (AV.bU g))
 |.fn f a b=>.fn f (a.map (AV.bU g)) (b.map (AV.bU g))
 |.gB t x=>.gB t (x.bU g)
inductive RB (σ:Names)(I:Nat->Prop)(w:World):aY->Value->Prop
 |cells {cs:List AV} {T:TypeId} {n:Nat} {arr:Array Value} (hw:w.heap[n]? =some (.cells arr T (0,0))) (hl:arr.size=cs.length)
   (hr:∀(i:Nat) c x,cs[i]? =some c->arr[i]? =some x->RV σ I w c x):RB σ I w (.cells cs T) (.pointer (some ⟨n,0,none⟩))
 |none {sz:Nat} {T:TypeId}:RB σ I w (.grow sz [] T) (.slice none 0 0)
 |emp {sz:Nat} {T:TypeId} (a:Addr):RB σ I w (.grow sz [] T) (.slice (some a) 0 0)
 |grow {sz:Nat} {es:List (List D)} {T:TypeId} {n cap:Nat} {arr:Array Value} (hw:w.heap[n]? =some (.cells arr T (0,0)))
   (hl:cap*sz<=arr.size) (hcap:es.length<=cap) (hmax:cap<=maxLen) (hsz:∀e∈es,e.length=sz)
   (hr:∀(i:Nat) e (j:Nat) c,es[i]? =some e->e[j]? =some c->∃x,arr[i*sz+j]? =some x/\RD I w c x/\x.oneCell'=true):
   RB σ I w (.grow sz es T) (.slice (some ⟨n,0,none⟩) es.length cap)
 |map {ka:Bool} {ks:List CK} {va:Bool} {look:List Value->Option (List D)} {n clock:Nat} {es:Array MapEntry} (keys:Nat->List Value) (vals:Nat->List Value) (hw:w.heap[n]? =some (.map es clock)) (hbn:∀(i:Nat) e,es[i]? =some e->e.born<clock)
   (hk:∀(i:Nat) e,es[i]? =some e->e.key=mk ka (keys i)/\e.val=mk va (vals i)/\iX ks (keys i)=true/\∃d,look (keys i)=some d/\d.length=(vals i).length)
   (hu:∀(i j:Nat),i<es.size->j<es.size->keys i=keys j->i=j)
   (hl:∀k d,look k=some d->∃i,i<es.size/\keys i=k)
   (hv:∀(i:Nat) d (j:Nat) c x,i<es.size->look (keys i)=some d->d[j]? =some c->(vals i)[j]? =some x->RD I w c x):RB σ I w (.map ka ks va look) (.map (some n))
 |oJ {ka:Bool} {ks:List CK} {va:Bool} {look:List Value->Option (List D)} {kc:List Value} {c n cl:Nat} {z:Value} {es:Array MapEntry} (keys:Nat->List Value) (vals:Nat->List Value) (hw:w.heap[n]? =some (.map (es.push {key:=mk ka kc,val:=z,born:=cl}) (cl+1))) (hst:σ c=some (.int .i64 cl)) (hbn:∀(i:Nat) e,es[i]? =some e->e.born<cl)
   (hkc:look kc=none) (hfk:iX ks kc=true)
   (hk:∀(i:Nat) e,es[i]? =some e->e.key=mk ka (keys i)/\e.val=mk va (vals i)/\iX ks (keys i)=true/\∃d,look (keys i)=some d/\d.length=(vals i).length)
   (hu:∀(i j:Nat),i<es.size->j<es.size->keys i=keys j->i=j)
   (hl:∀k d,look k=some d->∃i,i<es.size/\keys i=k)
   (hv:∀(i:Nat) d (j:Nat) c x,i<es.size->look (keys i)=some d->d[j]? =some c->(vals i)[j]? =some x->RD I w c x):RB σ I w (.oJ ka ks va look kc c) (.map (some n))
 |iter {s:ByteArray} {pos n:Nat} {x:Value} (hw:w.heap[n]? =some (.stringIter s pos)) (hx:x=.pointer (some ⟨n,0,none⟩)):RB σ I w (.iter s pos) x
 |yT {T:TypeId}:RB σ I w (.dR [] T) (.slice none 0 0)
 |xS {T:TypeId} (a:Addr):RB σ I w (.dR [] T) (.slice (some a) 0 0)
 |dR {ps:List Nat} {T:TypeId} {n cap:Nat} {arr:Array Value} (hw:w.heap[n]? =some (.cells arr T (0,0))) (hl:cap+1<=arr.size) (hcap:ps.length<=cap+1) (hmax:cap+1<=maxLen)
   (hr:∀(i:Nat) b,ps[i]? =some b->∃m,σ b=some (.pointer (some ⟨m,0,none⟩))/\arr[i]? =some (.pointer (some ⟨m,0,none⟩))):RB σ I w (.dR ps T) (.slice (some ⟨n,0,none⟩) ps.length (cap+1))
theorem RB.mono {σ σ':Names}{I I':Nat->Prop}{w w':World}(hw:∀n,I n->w'.heap[n]? =w.heap[n]?)(hI:∀n,I n->I' n)
  (hσ:∀b x,σ b=some x->σ' b=some x) {k:aY} {x:Value} (hn:∀n,hb x=some n->w'.heap[n]? =w.heap[n]?) (h:RB σ I w k x):
  RB σ' I' w' k x:=by
 cases h with
 |cells h1 h2 h3=>exact .cells ((hn _ rfl).trans h1) h2 (λi c x a b=>(h3 i c x a b).mono hw hI hσ)
 |none=>exact .none
 |emp a=>exact .emp a
 | @grow sz es T n cap arr h1 h2 h3 h4 h5 h6=>
   cases cap with
   |zero=>
    have:es=[]:=kH (by omega);subst this;exact .emp _
   |succ cap=>exact .grow ((hn _ rfl).trans h1) h2 h3 h4 h5 (λi e j c a b=>let⟨x,hx,hr,ho⟩:=h6 i e j c a b;⟨x,hx,hr.mono hw hI,ho⟩)
 |map keys vals h1 hb hk hu hl hv=>exact .map keys vals ((hn _ rfl).trans h1) hb hk hu hl (λi d j c x a b e f=>(hv i d j c x a b e f).mono hw hI)
 |oJ keys vals h1 hst hb hkc hfk hk hu hl hv=>exact .oJ keys vals ((hn _ rfl).trans h1) (hσ _ _ hst) hb hkc hfk hk hu hl (λi d j c x a b e f=>(hv i d j c x a b e f).mono hw hI)
 |iter h1 h2=>exact .iter ((hn _ (by rw[h2];rfl)).trans h1) h2
 |yT=>exact .yT
 |xS a=>exact .xS a
 |dR h1 h2 h3 h4 h5=>exact .dR ((hn _ rfl).trans h1) h2 h3 h4 (λi b hi=>let⟨m,p,q⟩:=h5 i b hi;⟨m,hσ _ _ p,q⟩)
abbrev Mem :=Nat->Option aY
structure RM (σ:Names)(I:Nat->Prop)(w:World)(m:Mem):Prop where
 blk:∀b k,m b=some k->∃x,σ b=some x/\RB σ I w k x/\∀n,hb x=some n->n<w.heap.size/\¬I n
 apart:∀b b' k k' x x' n,m b=some k->m b'=some k'->σ b=some x->σ b'=some x'->hb x=some n->hb x'=some n->b=b'
def eZ (σ:Names)(m:Mem)(n:Nat):Prop:=∃b k x,m b=some k/\σ b=some x/\hb x=some n
def fresh (nm:Nat)(b:Nat):Prop:=nm<=b/\b<nm+64
structure sI (w' w:World):Prop where
 eq:w'.output=w.output
 drawn:w.drawn<=w'.drawn
theorem sI.refl (w:World):sI w w:=⟨rfl,bY _⟩
theorem sI.trans {a b c:World}(h:sI a b)(k:sI b c):sI a c:=⟨h.eq.trans k.eq,dH k.drawn h.drawn⟩
structure eG (σ:Names)(I:Nat->Prop)(w:World)(m:Mem)(nm:Nat)(σ':Names)(I':Nat->Prop)(w':World)(m':Mem):Prop where
 os:w'.os=w.os
 tape:w'.tape=w.tape
 output:sI w' w
 size:w.heap.size<=w'.heap.size
 names:∀b x,σ b=some x->σ' b=some x
 new:∀b,σ b=none->σ' b≠none->fresh nm b
 vH:∀n,I n->I' n
 ib:∀n,I' n->n<w'.heap.size
 kQ:∀n,I' n->I n\/w.heap.size<=n\/eZ σ m n
 frame:∀n,n<w.heap.size->¬eZ σ m n->w'.heap[n]? =w.heap[n]?
 mem:RM σ' I' w' m'
 wP:∀b k,m' b=some k->m b≠none\/fresh nm b
 mine:∀n,eZ σ' m' n->eZ σ m n\/w.heap.size<=n
structure Ctx where
 P:Program
 w0:World
 uJ:Nat->Prop
 I0:Nat->Prop
 nt:Nat
 s0:Names
structure S where
 tm:Nat->AV
 mm:Mem
 fr:Nat->Prop
structure pF (E:Ctx)(s:S)(σ:Names)(I:Nat->Prop)(a:Act)(w:World):Prop where
 size:a.tmps.size=E.nt
 wQ:a.defers=[]
 tm:∀t,RV σ I w (s.tm t) (a.tmps.getD t undef)
 mm:RM σ I w s.mm
 free:∀b,s.fr b->σ b=none
 ib:∀n,I n->n<w.heap.size
 i0:∀n,E.I0 n->I n
 kQ:∀n,I n->E.I0 n\/E.uJ n\/E.w0.heap.size<=n
 mine:∀n,eZ σ s.mm n->E.uJ n\/E.w0.heap.size<=n
 os:w.os=E.w0.os
 tape:w.tape=E.w0.tape
 output:sI w E.w0
 hs:E.w0.heap.size<=w.heap.size
 frame:∀n,n<E.w0.heap.size->¬E.uJ n->w.heap[n]? =E.w0.heap[n]?
 keep:∀b x,E.s0 b=some x->σ b=some x
 low:∀b,64<=b->E.s0 b=none
def Rel (E:Ctx)(s:S)(a:Act)(w:World):Prop:=∃σ I,pF E s σ I a w
def S.step (s:S)(dst:Option Nat)(res:AV)(mr mw:Mem)(nm:Nat):S where
 tm:=λt=>if dst=some t then res else s.tm t
 mm:=λb=>match mw b with
  |some k=>some k
  |none=>if(mr b).isSome then none else s.mm b
 fr:=λb=>s.fr b/\¬fresh nm b
theorem zhv (a:Act)(dst:Option Nat)(v:Value)(t:Nat)(h:∀d,dst=some d->d<a.tmps.size):
  (a.put dst v).tmps.getD t undef=if dst=some t then v else a.tmps.getD t undef:=by
 cases dst with
 |none=>simp[Act.put]
 |some d=>
  have hd:=h d rfl;by_cases e:d=t
  ·subst e;simp[Act.put,hd]
  ·simp[Act.put,e]
theorem pF.step {E:Ctx}{s:S}{σ:Names}{I:Nat->Prop}{a:Act}{w:World}(h:pF E s σ I a w){mr mw:Mem}
  (hsub:∀b k,mr b=some k->s.mm b=some k) {nm:Nat} {σ':Names} {I':Nat->Prop} {w':World}
  (hp:eG σ I w mr nm σ' I' w' mw) {res:AV} {v:Value} (hv:RV σ' I' w' res v) {dst:Option Nat} (hdst:∀d,dst=some d->d<E.nt):
  pF E (s.step dst res mr mw nm) σ' I' (a.put dst v) w':=by
 have hdst':∀d,dst=some d->d<a.tmps.size:=λd e=>h.size▸hdst d e;have ownI:∀n,eZ σ mr n->¬I n/\n<w.heap.size:=by
  rintro n ⟨b,k,x,hb1,hb2,hb3⟩;obtain⟨x',hx',_,hn⟩:=h.mm.blk b k (hsub _ _ hb1);simp_all
 have keepI:∀n,I n->w'.heap[n]? =w.heap[n]? :=λn hn=>hp.frame n (h.ib n hn) (λho=>(ownI n ho).1 hn);have other:∀b k x n,mr b=none->s.mm b=some k->σ b=some x->hb x=some n->¬eZ σ mr n:=by
  rintro b k x n hnone hk hx hn ⟨b',k',x',h1,h2,h3⟩;have:=h.mm.apart b b' k k' x x' n hk (hsub _ _ h1) hx h2 hn h3;subst this;rw[hnone]at h1;cases h1
 have cases_mm:∀b k,(s.step dst res mr mw nm).mm b=some k->mw b=some k\/(mw b=none/\mr b=none/\s.mm b=some k):=by
  intro b k hk;simp only[S.step]at hk;split at hk
  ·rename_i k' hk';cases hk;exact .inl hk'
  ·rename_i hn;split at hk
   ·cases hk
   ·rename_i hr;exact .inr ⟨hn,by simpa using hr,hk⟩
 have hmm:RM σ' I' w' (s.step dst res mr mw nm).mm:=by
  refine⟨λb k hk=>?_,λb b' k k' x x' n hk hk' hx hx' hn hn'=>?_⟩
  ·rcases cases_mm b k hk with h1|⟨_,h2,h3⟩
   ·exact hp.mem.blk b k h1
   ·obtain⟨x,hx,hrb,hn⟩:=h.mm.blk b k h3;refine⟨x,hp.names _ _ hx,hrb.mono keepI hp.vH hp.names (λn e=>hp.frame n (hn n e).1 (other b k x n h2 h3 hx e)),λn e=>⟨AU (hn n e).1 hp.size,λhI'=>?_⟩⟩;rcases hp.kQ n hI' with g|g|g
    ·exact(hn n e).2 g
    ·have:=(hn n e).1;omega
    ·exact other b k x n h2 h3 hx e g
  ·rcases cases_mm b k hk with h1|⟨_,h2,h3⟩<;>rcases cases_mm b' k' hk' with g1|⟨_,g2,g3⟩
   ·exact hp.mem.apart b b' k k' x x' n h1 g1 hx hx' hn hn'
   ·obtain⟨y,hy,_,hyn⟩:=h.mm.blk b' k' g3;have:=hp.names _ _ hy;rw[hx']at this;cases this;rcases hp.mine n ⟨b,k,x,h1,hx,hn⟩with q|q
    ·exact absurd q (other b' k' _ n g2 g3 hy hn')
    ·have:=(hyn n hn').1;omega
   ·obtain⟨y,hy,_,hyn⟩:=h.mm.blk b k h3;have:=hp.names _ _ hy;rw[hx]at this;cases this;rcases hp.mine n ⟨b',k',x',g1,hx',hn'⟩with q|q
    ·exact absurd q (other b k _ n h2 h3 hy hn)
    ·have:=(hyn n hn).1;omega
   ·obtain⟨y,hy,_,_⟩:=h.mm.blk b k h3;obtain⟨y',hy',_,_⟩:=h.mm.blk b' k' g3;have e1:=hp.names _ _ hy;have e2:=hp.names _ _ hy';rw[hx]at e1;cases e1;rw[hx']at e2;cases e2;exact h.mm.apart b b' k k' _ _ n h3 g3 hy hy' hn hn'
 have lent:∀n,eZ σ mr n->E.uJ n\/E.w0.heap.size<=n:=by
  rintro n ⟨b,k,x,h1,h2,h3⟩;exact h.mine n ⟨b,k,x,hsub _ _ h1,h2,h3⟩
 refine⟨?_,?_,?_,hmm,?_,hp.ib,λn hn=>hp.vH n (h.i0 n hn),?_,?_,hp.os.trans h.os,hp.tape.trans h.tape,hp.output.trans h.output,dH h.hs hp.size,?_,λb x h0=>hp.names _ _ (h.keep b x h0),h.low⟩
 ·cases dst<;>simp[Act.put,h.size]
 ·cases dst<;>simp[Act.put,h.wQ]
 ·intro t;rw[zhv a dst v t hdst'];simp only[S.step];split
  ·exact hv
  ·exact(h.tm t).mono keepI hp.vH hp.names
 ·rintro b ⟨h1,h2⟩;have:=h.free b h1;cases e:σ' b with
  |none=>rfl
  |some x=>exact absurd (hp.new b this (by simp[e])) h2
 ·intro n hn;rcases hp.kQ n hn with g|g|g
  ·exact h.kQ n g
  ·exact .inr (.inr (dH h.hs g))
  ·exact .inr (lent n g)
 ·rintro n ⟨b,k,x,h1,h2,h3⟩;rcases cases_mm b k h1 with g|⟨_,g2,g3⟩
  ·rcases hp.mine n ⟨b,k,x,g,h2,h3⟩with q|q
   ·exact lent n q
   ·exact .inr (dH h.hs q)
  ·obtain⟨y,hy,_,_⟩:=h.mm.blk b k g3;have e1:=hp.names _ _ hy;rw[h2]at e1;cases e1;exact h.mine n ⟨b,k,_,g3,hy,h3⟩
 ·intro n hn hb;refine(hp.frame n (AU hn h.hs) (λho=>?_)).trans (h.frame n hn hb);rcases lent n ho with g|g
  ·exact hb g
  ·omega
structure aN where
 res:AV
 rd:List Nat
 wr:List (Nat×Option aY)
def wrote (l:List (Nat×Option aY))(b:Nat):Option (Option aY):=
 match l with
 |[]=>none
 | (c,k)::r=>if c=b then some k else wrote r b
def aN.mr (e:aN)(m:Mem):Mem:=λb=>if(wrote e.wr b).isSome\/b∈e.rd then m b else none
def aN.mw (e:aN)(m:Mem):Mem:=λb=>match wrote e.wr b with
 |some k=>k
 |none=>if b∈e.rd then m b else none
def S.app (s:S)(dst:Option Nat)(e:aN)(nm:Nat):S where
 tm:=λt=>if dst=some t then e.res else s.tm t
 mm:=λb=>(wrote e.wr b).getD (s.mm b)
 fr:=λb=>s.fr b/\¬fresh nm b
theorem S.ZY (s:S)(dst:Option Nat)(e:aN)(nm:Nat):s.app dst e nm=s.step dst e.res (e.mr s.mm) (e.mw s.mm) nm:=by
 simp only[S.app,S.step,S.mk.injEq,AQ,and_true];funext b
 simp only[aN.mr,aN.mw];by_cases hm:b∈e.rd<;>simp only[hm,or_false,fK,iO]<;>generalize wrote e.wr b=q<;>generalize s.mm b=m<;>
  rcases q with _|_|k<;>rcases m with _|m<;>simp
def bJ (P:Program)(o:Oper)(tm:Nat->AV)(mr:Mem)(nm:Nat)(res:AV)(mw:Mem):Prop:=
 ∀(a:Act) (w:World) (σ:Names) (I:Nat->Prop),(∀n,I n->n<w.heap.size)->
  (∀t,Operand.tmp t∈o.op.operands->RV σ I w (tm t) (a.tmps.getD t undef))->RM σ I w mr->(∀b,fresh nm b->σ b=none)->
  ∀(next:Act->World->Prop) (Q:Exit->Act->World->Prop),
   (∀v σ' I' w',eG σ I w mr nm σ' I' w' mw->RV σ' I' w' res v->next (a.put o.dst v) w')->o.wp P a w next Q
def looks (ops:Array Oper)(o:Oper)(t:Nat):Prop:=
 Operand.tmp t∈o.op.operands\/∃g wa p,o.guard=some (g,wa)/\ops[g]? =some p/\p.dst=some t
def yb :Value->Option Bool
 |.bool b=>some b
 |_=>none
def after (ops:Array Oper)(effs:Nat->aN)(nx:Nat)(s:S)(L:Nat->Bool):Nat->S
 |0=>s
 |k+1=>if L k then(after ops effs nx s L k).app ((ops[k]?).bind (·.dst)) (effs k) (nx+64*k)else after ops effs nx s L k
def JF (ops:Array Oper)(effs:Nat->aN)(i j:Nat):Prop:=
 (∀d,(ops[i]?).bind (·.dst)=some d->(ops[j]?).bind (·.dst)≠some d/\∀o,ops[j]? =some o->¬looks ops o d)/\
 (∀d,(ops[j]?).bind (·.dst)=some d->∀o,ops[i]? =some o->¬looks ops o d)/\
 (∀b,(wrote (effs i).wr b).isSome->wrote (effs j).wr b=none/\b∉(effs j).rd)/\
 (∀b,(wrote (effs j).wr b).isSome->b∉(effs i).rd)
theorem zkP {ops:Array Oper}{effs:Nat->aN}{i j nm nm':Nat}(h:JF ops effs i j)(s:S):
  (s.app ((ops[i]?).bind (·.dst)) (effs i) nm).app ((ops[j]?).bind (·.dst)) (effs j) nm'=
  (s.app ((ops[j]?).bind (·.dst)) (effs j) nm').app ((ops[i]?).bind (·.dst)) (effs i) nm:=by
 obtain⟨h1,_,h3,_⟩:=h;simp only[S.app,S.mk.injEq];refine⟨?_,?_,?_⟩
 ·grind
 ·funext b
  cases e1:wrote (effs i).wr b with
  |none=>simp
  |some k=>simp[(h3 b (by simp[e1])).1]
 ·grind
theorem Z5 {ops:Array Oper}{effs:Nat->aN}{nx:Nat}{s:S}{L L':Nat->Bool}(k:Nat)(h:∀i,i<k->L i=L' i):
  after ops effs nx s L k=after ops effs nx s L' k:=by
 induction k with
 |zero=>rfl
 |succ k ih=>simp only[after,ih (λi hi=>h i (by omega)),h k (by omega)]
theorem zld {ops:Array Oper}{effs:Nat->aN}{nx:Nat}{s:S}{L:Nat->Bool}{i:Nat}(hi:L i=false){n:Nat}
  (h:∀j,i<j->j<n->L j=true->JF ops effs i j) (k:Nat) (hk:i<k) (hkn:k<=n):
  after ops effs nx s (λj=>if j=i then true else L j) k=(after ops effs nx s L k).app ((ops[i]?).bind (·.dst)) (effs i) (nx+64*i):=by
 induction k with
 |zero=>omega
 |succ k ih=>
  by_cases e:k=i
  ·subst e;simp only[after,fK,hi,A1,iO];rw[Z5 k (L':=L) (λj hj=>by simp[show j≠k by omega])]
  ·have hik:i<k:=by omega
   have ih:=ih hik (by omega);simp only[after,aT e,ih];by_cases hl:L k=true
   ·simp only[hl];exact zkP (h k hik (by omega) hl) _
   ·simp[hl]
theorem zlb {ops:Array Oper}{effs:Nat->aN}{nx:Nat}{s:S}{L:Nat->Bool}{i t:Nat}(n:Nat)
  (h:∀j,j<n->(ops[j]?).bind (·.dst)=some t->(L j=true↔j<i)):∀k,k<=n->
  (after ops effs nx s L k).tm t=(after ops effs nx s (λ_=>true) (min k i)).tm t:=by
 intro k;induction k with
 |zero=>intro _;simp[after]
 |succ k ih=>
  intro hk;have ih:=ih (by omega);by_cases hki:k<i
  ·rw[show min (k+1) i=k+1 by omega];rw[show min k i=k by omega]at ih;simp only[after];by_cases hd:(ops[k]?).bind (·.dst)=some t
   ·simp[(h k (by omega) hd).2 hki,S.app,hd]
   ·by_cases hl:L k=true<;>simp[hl,S.app,hd,ih]
  ·rw[show min (k+1) i=i by omega];rw[show min k i=i by omega]at ih;simp only[after];by_cases hd:(ops[k]?).bind (·.dst)=some t
   ·grind
   ·by_cases hl:L k=true<;>simp[hl,S.app,hd,ih]
theorem zlc {ops:Array Oper}{effs:Nat->aN}{nx:Nat}{s:S}{L:Nat->Bool}{i b:Nat}(n:Nat)
  (h:∀j,j<n->(wrote (effs j).wr b).isSome->(L j=true↔j<i)):∀k,k<=n->
  (after ops effs nx s L k).mm b=(after ops effs nx s (λ_=>true) (min k i)).mm b:=by
 intro k;induction k with
 |zero=>intro _;simp[after]
 |succ k ih=>
  intro hk;have ih:=ih (by omega);by_cases hki:k<i
  ·rw[show min (k+1) i=k+1 by omega];rw[show min k i=k by omega]at ih;simp only[after];cases hd:wrote (effs k).wr b with
   |some q=>simp[(h k (by omega) (by simp[hd])).2 hki,S.app,hd]
   |none=>by_cases hl:L k=true<;>simp[hl,S.app,hd,ih]
  ·rw[show min (k+1) i=i by omega];rw[show min k i=i by omega]at ih;simp only[after];cases hd:wrote (effs k).wr b with
   |some q=>
    grind
   |none=>by_cases hl:L k=true<;>simp[hl,S.app,hd,ih]
theorem L7 {ops:Array Oper}{effs:Nat->aN}{nx:Nat}{s:S}{L:Nat->Bool}(b:Nat):∀k,
  ((after ops effs nx s L k).fr b↔s.fr b/\∀j,j<k->L j=true->¬fresh (nx+64*j) b):=by
 intro k;induction k with
 |zero=>simp[after]
 |succ k ih=>
  simp only[after];by_cases hl:L k=true
  ·simp only[fK,S.app,ih]
   grind
  ·grind
def Hn (ops:Array Oper)(pre:Nat->List Nat):Prop:=
 ∀j o,ops[j]? =some o->(∀e∈o.after,Region.binds .any e=true->e.on<j)/\
  ∀i∈pre j,∃e∈o.after,Region.binds .any e=true/\(i=e.on\/i∈pre e.on)
theorem Rel.drawn {E:Ctx}{s:S}{a:Act}{w:World}(h:Rel E s a w):Rel E s a {w with drawn:=w.drawn+1}:=by
 obtain⟨σ,I,h⟩:=h;refine⟨σ,I,h.size,h.wQ,λt=>RV.mono (w:=w) (w':={w with drawn:=w.drawn+1}) (λ_ _=>rfl) (λ_ h=>h) (λ_ _ h=>h) (h.tm t),⟨λb k hb=>?_,h.mm.apart⟩,h.free,h.ib,h.i0,h.kQ,h.mine,h.os,h.tape,⟨h.output.eq,Nat.le_succ_of_le h.output.drawn⟩,h.hs,h.frame,h.keep,h.low⟩;obtain⟨x,hx,hrb,hn⟩:=h.mm.blk b k hb;exact⟨x,hx,RB.mono (w:=w) (w':={w with drawn:=w.drawn+1}) (λ_ _=>rfl) (λ_ h=>h) (λ_ _ h=>h) (λ_ _=>rfl) hrb,hn⟩
def FW (ro:Option Nat):Fence:={Fence.wide with round:=ro}
def xF (o:Oper):Bool:=match o.op with|.defer _=>false|_=>true
theorem zdl {o:Oper}(h:xF o=true):∀c,o.op≠ .defer c:=by
 intro c e;simp[xF,e]at h
theorem zjy {ro:Option Nat}{dp:Nat}{P:Program}{f:FuncId}{args:Array Value}{w:World}{R:Ending->World->Prop}(h:Calls P f args w R):CallsIn (FW ro) dp P f args w R:=(EG.2 h:CallsIn Fence.wide dp P f args w R)
section
variable {ro : Option Nat} {dp : Nat} {J : Names -> (Nat -> Prop) -> World -> Prop}
theorem T5 {P:Program}{o:Oper}{a:Act}{w:World}{K:Act->World->Prop}{Q:Exit->Act->World->Prop}(hnd:xF o=true)(h:o.wp P a w K Q):o.wpIn (FW ro) dp P a w K Q:=by
 refine⟨λ_ _=>trivial,?_⟩;unfold Oper.wp at h;rw[Oper.semAt_eq _ _ _ (zdl hnd)];generalize(execOp a.eval o).run P w=r at*;cases r with
 |ok x w'=>
  cases x with
  |enter f args=>exact⟨by simp[FW,Fence.wide],zjy h⟩
  |row r args=>
   refine⟨by simp[FW,Fence.wide],λc cs _=>?_⟩;obtain⟨v,w2,q,s⟩:=h c cs;exact⟨v,w2,q,stepsIn_wide.2 s⟩
  |_=>first|exact h|exact(show False from h).elim
 |halt hh w'=>
  cases hh<;>first|exact h|exact(show False from h).elim
def EA (ro:Option Nat)(dp:Nat)(J:Names->(Nat->Prop)->World->Prop)(P:Program)(o:Oper)(tm:Nat->AV)(mr:Mem)(nm:Nat)(res:AV)(mw:Mem):Prop:=
 ∀(a:Act) (w:World) (σ:Names) (I:Nat->Prop),J σ I w->(∀n,I n->n<w.heap.size)->
  (∀t,Operand.tmp t∈o.op.operands->RV σ I w (tm t) (a.tmps.getD t undef))->RM σ I w mr->(∀b,fresh nm b->σ b=none)->
  ∀(next:Act->World->Prop) (Q:Exit->Act->World->Prop),
   (∀v σ' I' w',eG σ I w mr nm σ' I' w' mw->RV σ' I' w' res v->next (a.put o.dst v) w')->o.wpIn (FW ro) dp P a w next Q
theorem bJ.rR {P:Program}{o:Oper}{tm:Nat->AV}{mr mw:Mem}{nm:Nat}{res:AV}(hp:xF o=true)(h:bJ P o tm mr nm res mw):EA ro dp J P o tm mr nm res mw:=
 λa w σ I _ h1 h2 h3 h4 next Q hn=>T5 hp (h a w σ I h1 h2 h3 h4 next Q hn)
def x7 (ro:Option Nat)(dp:Nat)(J:Names->(Nat->Prop)->World->Prop)(E:Ctx)(ops:Array Oper)(o:Oper)(s:S)(nm:Nat)(e:aN):Prop:=
 (∀d,o.dst=some d->d<E.nt)/\
 ((o.guard=none/\EA ro dp J E.P o s.tm (e.mr s.mm) nm e.res (e.mw s.mm))\/
  ∃g wa p d y,o.guard=some (g,wa)/\ops[g]? =some p/\p.dst=some d/\s.tm d=.d (.v y)/\
   ((yb y=some wa/\EA ro dp J E.P o s.tm (e.mr s.mm) nm e.res (e.mw s.mm))\/(yb y≠some wa/\e=⟨.d (.v undef),[],[]⟩)))
theorem x7.congr {E:Ctx}{ops:Array Oper}{o:Oper}{s s':S}{nm:Nat}{e:aN}(h:x7 ro dp J E ops o s nm e)
  (ht:∀t,looks ops o t->s'.tm t=s.tm t) (hm:∀b,(wrote e.wr b).isSome\/b∈e.rd->s'.mm b=s.mm b):x7 ro dp J E ops o s' nm e:=by
 have e1:e.mr s'.mm=e.mr s.mm:=by
  funext b;simp only[aN.mr];split
  ·simp_all
  ·rfl
 have e2:e.mw s'.mm=e.mw s.mm:=by
  funext b;simp only[aN.mw];split
  all_goals simp_all
 have key:EA ro dp J E.P o s.tm (e.mr s.mm) nm e.res (e.mw s.mm)->EA ro dp J E.P o s'.tm (e.mr s'.mm) nm e.res (e.mw s'.mm):=by
  intro hk a w σ I hj h1 h2 h3 h4 next Q hn;rw[e1]at h3;refine hk a w σ I hj h1 (λt htm=>?_) h3 h4 next Q (λv σ' I' w' hp hv=>hn v σ' I' w' ?_ hv)
  ·rw[<-ht t (.inl htm)];exact h2 t htm
  ·simp_all
 refine⟨h.1,?_⟩;rcases h.2 with⟨hg,hk⟩|⟨g,wa,p,d,b,hg,hp,hd,hb,hk⟩
 ·simp_all
 ·refine .inr ⟨g,wa,p,d,b,hg,hp,hd,(ht d (.inr ⟨g,wa,p,hg,hp,hd⟩)).trans hb,?_⟩
  grind
theorem T6 {E:Ctx}{ops:Array Oper}{Q:Exit->Act->World->Prop}{K:Act->World->Prop}{i:Nat}{o:Oper}(ho:ops[i]? =some o)
  {s:S} {nm:Nat} {e:aN} (hok:x7 ro dp J E ops o s nm e) (hfr:∀b,fresh nm b->s.fr b) {a:Act} {w:World} (hr:Rel E s a w) (hJ:∀s σ I a w,pF E s σ I a w->J σ I w)
  (hK:∀a w,Rel E (s.app o.dst e nm) a w->K a w):wpOpIn (FW ro) dp E.P ops Q i K a w:=by
 obtain⟨σ,I,hr⟩:=hr;have hj:=hJ _ _ _ _ _ hr;have go:EA ro dp J E.P o s.tm (e.mr s.mm) nm e.res (e.mw s.mm)->o.wpIn (FW ro) dp E.P a w K Q:=by
  intro hk;have hsub:∀b k,e.mr s.mm b=some k->s.mm b=some k:=by
   intro b k hb;simp only[aN.mr]at hb;split at hb
   ·exact hb
   ·cases hb
  refine hk a w σ I hj hr.ib (λt _=>hr.tm t) ?_ (λb hb=>hr.free b (hfr b hb)) K Q (λv σ' I' w' hp hv=>hK _ _ ?_)
  ·exact⟨λb k hb=>hr.mm.blk b k (hsub b k hb),λb b' k k' x x' n h1 h2 h3 h4 h5 h6=>hr.mm.apart b b' k k' x x' n (hsub b k h1) (hsub b' k' h2) h3 h4 h5 h6⟩
  ·rw[S.ZY];exact⟨σ',I',hr.step hsub hp hv hok.1⟩
 unfold wpOpIn;simp only[ho];rcases hok.2 with⟨hg,hk⟩|⟨g,wa,p,d,y,hg,hp,hd,hb,hk⟩
 ·have hw:Region.wanted o (yielded ops a.tmps)=true:=by simp[Region.wanted,hg]
  simp only[hw];exact go hk
 ·have hy:yielded ops a.tmps g=yb y:=by
   have:=hr.tm d;rw[hb]at this;have hv:a.tmps.getD d undef=y:=by
    generalize a.tmps.getD d undef=z at this;cases this with
    |d h=>cases h;rfl
   cases hd':a.tmps[d]? with
   |some x=>
    have e:x=y:=by simpa[hd']using hv
    subst e;simp only[yielded,hp,hd,hd',JJ];cases x<;>rfl
   |none=>
    have e:undef=y:=by simpa[hd']using hv
    subst e;simp[yielded,hp,hd,hd',yb,undef]
  rcases hk with⟨hyb,hk⟩|⟨hne,rfl⟩
  ·have hw:Region.wanted o (yielded ops a.tmps)=true:=by simp[Region.wanted,hg,hy,hyb]
   simp only[hw];exact go hk
  ·have hw:Region.wanted o (yielded ops a.tmps)=false:=by simp[Region.wanted,hg,hy,hne]
   simp only[hw,iO];refine⟨λ_ _=>trivial,hK _ _ ?_⟩;rw[S.ZY];refine⟨σ,I,hr.step (λb k hb=>?_) ?_ (.d (.v undef)) hok.1⟩
   ·simp[aN.mr,wrote]at hb
   ·have e0:∀n,¬eZ σ (aN.mr ⟨.d (.v undef),[],[]⟩ s.mm) n:=by
     rintro n ⟨b,k,x,h1,_⟩;simp[aN.mr,wrote]at h1
    refine⟨rfl,rfl,⟨rfl,bY _⟩,bY _,λb x h=>h,λb h1 h2=>absurd h1 h2,λn h=>h,hr.ib,λn h=>.inl h,λn _ _=>rfl,⟨λb k h=>?_,λb b' k k' x x' n h=>?_⟩,λb k h=>?_,?_⟩
    ·simp[aN.mw,wrote]at h
    ·simp[aN.mw,wrote]at h
    ·simp[aN.mw,wrote]at h
    ·rintro n ⟨b,k,x,h1,_⟩;simp[aN.mw,wrote]at h1
theorem zdT {E:Ctx}{ops:Array Oper}{Q:Exit->Act->World->Prop}{effs:Nat->aN}{nx:Nat}{s:S}
  (hok:∀i o,ops[i]? =some o->x7 ro dp J E ops o (after ops effs nx s (λ_=>true) i) (nx+64*i) (effs i)) (hfr:∀b,nx<=b->s.fr b) (hJ:∀s σ I a w,pF E s σ I a w->J σ I w)
  (hQ:∀a w,Rel E (after ops effs nx s (λ_=>true) ops.size) a w->Q .normal a w):
  ∀m i,i+m=ops.size->∀a w,Rel E (after ops effs nx s (λ_=>true) i) a w->wpOpsIn (FW ro) dp E.P ops Q (List.range' i m) a w:=by
 intro m;induction m with
 |zero=>intro i hi a w hr;simp;exact hQ a w (by rw[<-hi];exact hr)
 |succ m ih=>
  intro i hi a w hr;have ho:ops[i]? =some ops[i]:=uQ (by omega);refine T6 ho (hok i _ ho) (λb hb=>?_) hr hJ (λa' w' hr'=>ih (i+1) (by omega) a' w' ?_)
  ·rw[L7];exact⟨hfr b (by have:=hb.1;omega),λj hj _ hj'=>by have:=hb.1;have:=hj'.2;omega⟩
  ·simp only[after,ho];exact hr'
theorem zcj {E:Ctx}{id:Nat}{ops:Array Oper}{Q:Exit->Act->World->Prop}{effs:Nat->aN}{nx:Nat}{s:S}{a:Act}{w:World}
  (hok:∀i o,ops[i]? =some o->x7 ro dp J E ops o (after ops effs nx s (λ_=>true) i) (nx+64*i) (effs i)) (hfr:∀b,nx<=b->s.fr b) (hJ:∀s σ I a w,pF E s σ I a w->J σ I w)
  (hr:Rel E s a w) (hQ:∀a w,Rel E (after ops effs nx s (λ_=>true) ops.size) a w->Q .normal a w):(Code.region id ops false).wpIn (FW ro) dp E.P Q a w:=by
 refine wpIn_region ?_;rw[List.range_eq_range'];exact zdT hok hfr hJ hQ ops.size 0 (by omega) a w hr
theorem zck {E:Ctx}{id:Nat}{ops:Array Oper}{Q:Exit->Act->World->Prop}{effs:Nat->aN}{nx:Nat}{s:S}{a:Act}{w:World}
  (hm:E.P.follows .mixedOrders=true) (pre:Nat->List Nat) (hpre:Hn ops pre)
  (hap:∀i j,i<j->j<ops.size->i∈pre j\/JF ops effs i j)
  (hok:∀i o,ops[i]? =some o->x7 ro dp J E ops o (after ops effs nx s (λ_=>true) i) (nx+64*i) (effs i)) (hfr:∀b,nx<=b->s.fr b) (hJ:∀s σ I a w,pF E s σ I a w->J σ I w)
  (hr:Rel E s a w) (hQ:∀a w,Rel E (after ops effs nx s (λ_=>true) ops.size) a w->Q .normal a w):(Code.region id ops true).wpIn (FW ro) dp E.P Q a w:=by
 refine wpIn_region_any hm ?_
 have main:∀fuel (listed:Array Bool) a w,listed.size=ops.size->((List.range ops.size).filter λi=>!listed.getD i true).length<=fuel->
   (∀j,listed.getD j false=true->∀i∈pre j,listed.getD i false=true)->
   Rel E (after ops effs nx s (λj=>listed.getD j false) ops.size) a w->wpAnyIn (FW ro) dp E.P .any ops Q fuel listed a w:=by
  intro fuel;have full:∀(listed:Array Bool),listed.size=ops.size->Region.ready .any ops listed=[]->∀j,j<ops.size->listed.getD j false=true:=by
   intro listed hsz hrd j;induction j using Nat.strongRecOn with
   |_ j ih=>
    intro hj;cases hl:listed.getD j false with
    |true=>rfl
    |false=>
     have ho:ops[j]? =some ops[j]:=uQ hj;have hmem:j∈Region.ready .any ops listed:=by
      simp only[Region.ready,mX,JM];refine⟨hj,?_⟩;have h1:listed.getD j true=false:=by
       have:j<listed.size:=by omega
       simp[this]at hl⊢;exact hl
      simp only[h1,ho,tM,Option.getD_some,Bool.not_false,uP,Array.all_eq_true_iff_forall_mem];intro e he;by_cases hbd:Region.binds .any e=true
      ·simp[ih e.on ((hpre j _ ho).1 e he hbd) (by have:=(hpre j _ ho).1 e he hbd;omega)]
      ·simp[hbd]
     rw[hrd]at hmem;cases hmem
  have done:∀(listed:Array Bool) a w,listed.size=ops.size->Rel E (after ops effs nx s (λj=>listed.getD j false) ops.size) a w->
    Region.ready .any ops listed=[]->Q .normal a w:=by
   intro listed a w hsz hr hrd;refine hQ a w ?_;rw[<-Z5 (L:=λj=>listed.getD j false) ops.size (λi hi=>full listed hsz hrd i hi)];exact hr
  induction fuel with
  |zero=>
   intro listed a w hsz hf _ hr;have hrd:Region.ready .any ops listed=[]:=by
    have h0:((List.range ops.size).filter λi=>!listed.getD i true)=[]:=MV.1 (by omega);simp only[Region.ready];rw[List.filter_eq_nil_iff]at h0⊢;intro i hi hc;exact h0 i hi (by simp only[bL]at hc;exact hc.1)
   exact⟨hrd,done listed a w hsz hr hrd⟩
  |succ fuel ih=>
   intro listed a w hsz hf hcl hr;refine⟨done listed a w hsz hr,λi hi=>?_⟩;simp only[Region.ready,mX,JM,bL,EK]at hi;obtain⟨hin,hil,hpr⟩:=hi;have ho:ops[i]? =some ops[i]:=uQ hin;have hL:listed.getD i false=false:=by
    have:i<listed.size:=by omega
    simp[this]at hil⊢;exact hil
   have hpreL:∀k∈pre i,listed.getD k false=true:=by
    intro k hk;obtain⟨e,he,hbd,hor⟩:=(hpre i _ ho).2 k hk;simp only[ho,tM,Option.getD_some,Array.all_eq_true_iff_forall_mem]at hpr;have:=hpr e he;simp only[hbd,M5,Bool.false_or]at this;rcases hor with rfl|hor
    ·exact this
    ·exact hcl e.on this k hor
   have ahead:∀j,j<i->¬JF ops effs j i->listed.getD j false=true:=λj hj hn=>hpreL j ((hap j i hj hin).resolve_right hn);have behind:∀j,i<j->j<ops.size->listed.getD j false=true->JF ops effs i j:=by
    intro j hj hjn hl;refine(hap i j hj hjn).resolve_left (λhk=>?_);have:=hcl j hl i hk;rw[hL]at this;cases this
   have hst:=zld (ops:=ops) (effs:=effs) (nx:=nx) (s:=s) (L:=λj=>listed.getD j false) (i:=i) hL (n:=ops.size) behind ops.size hin (bY _);have hokc:x7 ro dp J E ops ops[i] (after ops effs nx s (λj=>listed.getD j false) ops.size) (nx+64*i) (effs i):=by
    refine(hok i _ ho).congr (λt ht=>?_) (λb hb=>?_)
    ·have:=zlb (ops:=ops) (effs:=effs) (nx:=nx) (s:=s) (L:=λj=>listed.getD j false) (i:=i) (t:=t) ops.size (λj hj hd=>?_) ops.size (bY _)
     ·rw[this,show min ops.size i=i by omega]
     ·rcases Nat.lt_trichotomy j i with h|h|h
      ·refine⟨λ_=>h,λ_=>ahead j h (λhap'=>((hap'.1 t hd).2 _ ho) ht)⟩
      ·subst h;simp only[hL,A1,false_iff];omega
      ·refine⟨λhl=>?_,λh'=>by omega⟩;exact absurd ht ((behind j h hj hl).2.1 t hd _ ho)
    ·have:=zlc (ops:=ops) (effs:=effs) (nx:=nx) (s:=s) (L:=λj=>listed.getD j false) (i:=i) (b:=b) ops.size (λj hj hd=>?_) ops.size (bY _)
     ·rw[this,show min ops.size i=i by omega]
     ·rcases Nat.lt_trichotomy j i with h|h|h
      ·refine⟨λ_=>h,λ_=>ahead j h (λhap'=>?_)⟩;have:=hap'.2.2.1 b hd;rcases hb with hb|hb
       ·rw[this.1]at hb;cases hb
       ·exact this.2 hb
      ·subst h;simp only[hL,A1,false_iff];omega
      ·refine⟨λhl=>?_,λh'=>by omega⟩;have hap':=behind j h hj hl;rcases hb with hb|hb
       ·rw[(hap'.2.2.1 b hb).1]at hd;cases hd
       ·exact absurd hb (hap'.2.2.2 b hd)
   refine T6 ho hokc (λb hb=>?_) hr hJ (λa' w' hr'=>ih _ a' w' (by simp[hsz]) ?_ ?_ ?_)
   ·rw[L7];refine⟨hfr b (by have:=hb.1;omega),λj hj hl hj'=>?_⟩;have:j≠i:=λe=>by subst e;rw[hL]at hl;cases hl
    have:=hb.1;have:=hb.2;have:=hj'.1;have:=hj'.2;omega
   ·
    have hlt:((List.range ops.size).filter λk=>!(listed.setIfInBounds i true).getD k true).length<((List.range ops.size).filter λk=>!listed.getD k true).length:=by
     have hsub:∀k,(!(listed.setIfInBounds i true).getD k true)=true->(!listed.getD k true)=true:=by
      intro k hk;by_cases e:i=k
      ·subst e;have:i<listed.size:=by omega
       simp[this]at hk
      ·simpa[vU e]using hk
     have hmem:i∈(List.range ops.size).filter λk=>!listed.getD k true:=by simp[hin];simpa using hil
     have hnot:i∉(List.range ops.size).filter λk=>!(listed.setIfInBounds i true).getD k true:=by
      have:i<listed.size:=by omega
      simp[this]
     rw[<-List.countP_eq_length_filter,<-List.countP_eq_length_filter];clear hst hokc hr;have gen:∀(l:List Nat) (p q:Nat->Bool),(∀k,p k=true->q k=true)->i∈l->q i=true->p i=false->l.countP p<l.countP q:=by
      intro l p q hpq hil hqi hpi;induction l with
      |nil=>cases hil
      |cons x l ihl=>
       rw[List.countP_cons,List.countP_cons];by_cases e:x=i
       ·subst e;have:l.countP p<=l.countP q:=List.countP_mono_left (λk _=>hpq k);simp[hqi,hpi];omega
       ·have:=ihl (by cases hil with|head=>exact absurd rfl e|tail _ h=>exact h);by_cases hp:p x=true
        ·simp[hp,hpq x hp];omega
        ·simp[hp];omega
     refine gen _ _ _ hsub (by simp[hin]) (by simpa using hil) ?_;have:i<listed.size:=by omega
     simp[this]
    omega
   ·intro j hj k hk;by_cases e:i=j
    ·subst e;by_cases e':i=k
     ·subst e';exact hj
     ·have:=hpreL k hk;simpa[vU e']using this
    ·have hj':listed.getD j false=true:=by simpa[vU e]using hj
     have:=hcl j hj' k hk;by_cases e':i=k
     ·subst e';rw[hL]at this;cases this
     ·simpa[vU e']using this
   ·simp only[ho]at hst;have hst':after ops effs nx s (λj=>(listed.setIfInBounds i true).getD j false) ops.size=(after ops effs nx s (λj=>listed.getD j false) ops.size).app ops[i].dst (effs i) (nx+64*i):=by
     rw[<-show((some ops[i]).bind λx=>x.dst)=ops[i].dst from rfl,<-hst];refine Z5 _ (λk _=>?_);by_cases e:k=i
     ·subst e;have:k<listed.size:=by omega
      simp[this]
     ·simp[vU (x9 e),e]
    rw[hst'];exact hr'
 refine main ops.size _ a _ (by simp) ?_ ?_ ?_
 ·exact dH (gJ _ _) (by simp)
 ·intro j hj;by_cases h:j<ops.size<;>simp[h]at hj
 ·have e0:∀k,after ops effs nx s (λj=>(Array.replicate ops.size false).getD j false) k=s:=by
   intro k;induction k with
   |zero=>rfl
   |succ k ih=>
    simp only[after,ih];by_cases h:k<ops.size<;>simp[h]
  rw[e0];exact hr.drawn
end
inductive K where
 |int (k:IntKind)|bool|str|ptr (e:Nat)|dX (e:Nat)|arr (n e:Nat)|map (k e:Nat)
 |dN (fs:List (Nat×Nat×Bool))|iface (empty:Bool)|func|other
 deriving DecidableEq
def bV (P:Program)(t:TypeId):Nat:=((P.info? t).map (·.size)).getD 0
def RG (P:Program)(flat:TypeId->Option (List CK)):Nat->List Field->Option (List CK)
 |_,[]=>some []
 |off,f::fs=>
  match flat f.type with
  |some l=>if f.name≠ "_" ∧f.offset=off∧bV P f.type=l.length then
    match RG P flat (off+l.length) fs with
    |some r=>some (l++r)
    |none=>none
   else none
  |none=>none
def pR (P:Program):Nat->TypeId->Option (List CK)
 |0,_=>none
 |d+1,t=>
  match P.underlying t with
  |some (.int _)=>some [.int]
  |some .bool=>some [.bool]
  |some .string=>some [.str]
  |some (.struct fs)=>if P.stoodInHeld t then none else RG P (pR P d) 0 fs.toList
  |some (.array n e)=>
   match pR P d e with
   |some l=>if bV P e=l.length then some (List.replicate n l).flatten else none
   |none=>none
  |_=>none
structure TI where
 sz:Nat
 bytes:Nat
 zero:List Value
 k:K
 eg:Bool
 fl:Option (List CK)
 za:Bool
def DP :Value->Bool
 |.agg _=>true
 |_=>false
def iS :TypeDesc->K
 |.int k=>.int k
 |.bool=>.bool
 |.string=>.str
 |.pointer e=>.ptr e
 |.slice e=>.dX e
 |.array n e=>.arr n e
 |.map k e=>.map k e
 |.struct fs=>.dN (fs.toList.map fun f=>(f.offset,f.type,f.name== "_"))
 |.interface ms=>.iface ms.isEmpty
 |.func _ _ _=>.func
 |_=>.other
def aS (P:Program)(t:TypeId):Option TI:=
 match P.info? t,P.underlying t with
 |some i,some d=>
  match i.zero with
  |some z=>some {sz:=i.size,bytes:=i.bytes,zero:=z.cells.toList,k:=iS d,eg:=P.eqGuardType P.depth t,fl:=pR P 8 t,za:=DP z}
  |none=>none
 |_,_=>none
def TI.agg (t:TI):Bool:=
 match t.k with
 |.dN _|.arr _ _=>true
 |_=>false
section
variable {P : Program} {t : TypeId} {ti : TI} {w : World}
theorem jO (h:aS P t=some ti):∃i d z,P.info? t=some i/\P.underlying t=some d/\i.zero=some z/\ti={sz:=i.size,bytes:=i.bytes,zero:=z.cells.toList,k:=iS d,eg:=P.eqGuardType P.depth t,fl:=pR P 8 t,za:=DP z}:=by
 unfold aS at h
 grind
theorem sX (h:aS P t=some ti):(sizeOf t).run P w=.ok ti.sz w:=by
 obtain⟨i,d,z,hi,hd,hz,rfl⟩:=jO h;simp[sizeOf,typeInfo,hi]
theorem zbB (h:aS P t=some ti):∃z,(zeroValue t).run P w=.ok z w/\z.cells.toList=ti.zero:=by
 obtain⟨i,d,z,hi,hd,hz,rfl⟩:=jO h;exact⟨z,by simp[zeroValue,typeInfo,hi,hz],rfl⟩
theorem VQ (h:aS P t=some ti):∃d,(underlying t).run P w=.ok d w/\P.underlying t=some d/\iS d=ti.k:=by
 obtain⟨i,d,z,hi,hd,hz,rfl⟩:=jO h;exact⟨d,by simp[underlying,hd],hd,rfl⟩
theorem Fj (h:aS P t=some ti):(isAgg t).run P w=.ok ti.agg w:=by
 obtain⟨i,d,z,hi,hd,hz,rfl⟩:=jO h;cases d<;>simp[isAgg,underlying,hd,TI.agg,iS]
end
def SS :Value->AV
 |.agg cs=>.agg (cs.toList.map λc=>.d (.v c))
 |v=>.d (.v v)
def ev (tm:Nat->AV):Operand->AV
 |.tmp t=>tm t
 |.const v=>SS v
 |.global g=>.d (.v (.pointer (some ⟨g,0,none⟩)))
 |.func f=>.d (.v (.func (.func f) #[] #[]))
theorem zlt {σ:Names}{I:Nat->Prop}{w:World}(v:Value):RV σ I w (SS v) v:=by
 unfold SS;split
 ·rename_i cs;have:cs=cs.toList.toArray:=by simp
  refine .agg (by simp) (λi c x h1 h2=>?_);simp at h1 h2;obtain⟨y,hy,rfl⟩:=h1;rw[h2]at hy;cases hy;exact .d (.v _)
 ·exact .d (.v _)
theorem dG {σ:Names}{I:Nat->Prop}{w:World}{tm:Nat->AV}{a:Act}{x:Operand}(h:∀t,x=.tmp t->RV σ I w (tm t) (a.tmps.getD t undef)):
  RV σ I w (ev tm x) (a.eval x):=by
 cases x with
 |tmp t=>exact h t rfl
 |const v=>exact zlt v
 |global g=>exact .d (.v _)
 |func f=>exact .d (.v _)
def cellsOf :AV->Option (List AV)
 |.agg cs=>some cs
 |.d (.agg cs)=>some (cs.map .d)
 |.d (.v x)=>if x.oneCell' then some [.d (.v x)]else none
 |.any=>none
 |.aU _=>none
 |x=>some [x]
theorem Rb {v:Value}(h:v.oneCell'=true):v.cells=#[v]:=by cases v<;>first|rfl|cases h
theorem JA {σ:Names}{I:Nat->Prop}{w:World}{x:AV}{v:Value}{cs:List AV}(h:RV σ I w x v)(hc:cellsOf x=some cs):
  v.cells.size=cs.length/\∀(i:Nat) c y,cs[i]? =some c->v.cells[i]? =some y->RV σ I w c y:=by
 have one:v.oneCell'=true->cs=[x]->v.cells.size=cs.length/\∀(i:Nat) c y,cs[i]? =some c->v.cells[i]? =some y->RV σ I w c y:=by
  rintro h1 rfl;rw[Rb h1];refine⟨rfl,λi c y hc hy=>?_⟩;cases i with
  |zero=>simp at hc hy;subst hc;subst hy;exact h
  |succ i=>simp at hc
 cases h with
 |d h=>
  cases h with
  |v y=>
   simp only[cellsOf]at hc
   grind
  |agg hl hr=>
   simp only[cellsOf]at hc;cases hc;refine⟨by simp[Value.cells,hl],λi c y h1 h2=>?_⟩;simp[Value.cells]at h1 h2;obtain⟨z,hz,rfl⟩:=h1;exact .d (hr i z y hz h2)
  |_=>simp only[cellsOf]at hc;cases hc;exact one rfl rfl
 |any y=>cases hc
 |own h h1=>simp only[cellsOf]at hc;cases hc;exact one h1 rfl
 |aU _ _=>cases hc
 |sl h hs=>simp only[cellsOf]at hc;cases hc;exact one (by cases hs<;>rfl) rfl
 |agg hl hr=>
  simp only[cellsOf]at hc;cases hc;exact⟨by simp[Value.cells,hl],λi c y h1 h2=>hr i c y h1 (by simpa[Value.cells]using h2)⟩
 |_=>simp only[cellsOf]at hc;cases hc;exact one rfl rfl
theorem bJ.val {P:Program}{o:Oper}{tm:Nat->AV}{mr mw:Mem}{nm:Nat}{res:AV}
  (h:∀(a:Act) (w:World) (σ:Names) (I:Nat->Prop),(∀n,I n->n<w.heap.size)->
    (∀t,Operand.tmp t∈o.op.operands->RV σ I w (tm t) (a.tmps.getD t undef))->RM σ I w mr->(∀b,fresh nm b->σ b=none)->
    ∃v w' σ' I',(execOp a.eval o).run P w=.ok (.value v) w'/\eG σ I w mr nm σ' I' w' mw/\RV σ' I' w' res v):bJ P o tm mr nm res mw:=by
 intro a w σ I h1 h2 h3 h4 next Q hn;obtain⟨v,w',σ',I',hr,hp,hv⟩:=h a w σ I h1 h2 h3 h4;simp only[Oper.wp,hr];exact hn v σ' I' w' hp hv
theorem eG.refl {σ:Names}{I:Nat->Prop}{w:World}{m:Mem}{nm:Nat}(hib:∀n,I n->n<w.heap.size)(hm:RM σ I w m):eG σ I w m nm σ I w m:=
 ⟨rfl,rfl,⟨rfl,bY _⟩,bY _,λ_ _ h=>h,λ_ h1 h2=>absurd h1 h2,λ_ h=>h,hib,λ_ h=>.inl h,λ_ _ _=>rfl,hm,
   λb k h=>.inl (by simp[h]),λ_ h=>.inl h⟩
theorem bJ.pure {P:Program}{o:Oper}{tm:Nat->AV}{m:Mem}{nm:Nat}{res:AV}
  (h:∀(a:Act) (w:World) (σ:Names) (I:Nat->Prop),
    (∀t,Operand.tmp t∈o.op.operands->RV σ I w (tm t) (a.tmps.getD t undef))->RM σ I w m->
    ∃v,(execOp a.eval o).run P w=.ok (.value v) w/\RV σ I w res v):bJ P o tm m nm res m:=
 bJ.val λa w σ I h1 h2 h3 _=>let⟨v,hr,hv⟩:=h a w σ I h2 h3;⟨v,w,σ,I,hr,eG.refl h1 h3,hv⟩
theorem aN.vC (res:AV)(rd:List Nat)(m:Mem):(aN.mk res rd []).mw m=(aN.mk res rd []).mr m:=by
 funext b;simp[aN.mw,aN.mr,wrote]
theorem aN.kY {e:aN}{m:Mem}{b:Nat}{k:aY}(h:m b=some k)(hb:b∈e.rd\/(wrote e.wr b).isSome):e.mr m b=some k:=by
 simp only[aN.mr]
 grind
theorem eG.alloc {σ:Names}{I:Nat->Prop}{w:World}{m:Mem}{nm:Nat}{x:Value}{o:Obj}{k:aY}(hib:∀n,I n->n<w.heap.size)(hσ:σ nm=none)
  (hx:hb x=some w.heap.size) (hk:∀σ',(∀b y,σ b=some y->σ' b=some y)->RB σ' I (w.alloc o) k x):
  eG σ I w m nm (λb=>if b=nm then some x else σ b) I (w.alloc o) (λb=>if b=nm then some k else none):=by
 have ext:∀b y,σ b=some y->(if b=nm then some x else σ b)=some y:=by
  grind
 refine⟨rfl,rfl,⟨rfl,bY _⟩,by simp,ext,λb h1 h2=>?_,λ_ h=>h,λn h=>by have:=hib n h;simp;omega,λ_ h=>.inl h,λn h _=>wX w o h,
  ⟨λb k' h=>?_,λb b' k1 k2 x1 x2 n h1 h2 _ _ _ _=>?_⟩,λb k' h=>?_,λn h=>?_⟩
 ·by_cases e:b=nm
  ·subst e;exact⟨bY _,by omega⟩
  ·simp_all
 ·by_cases e:b=nm
  ·subst e;simp only[fK]at h⊢;cases h;refine⟨x,rfl,hk _ ext,λn hn=>?_⟩;rw[hx]at hn;cases hn;exact⟨by simp,λh=>by have:=hib _ h;omega⟩
  ·simp[e]at h
 ·simp_all
 ·by_cases e:b=nm
  ·subst e;exact .inr ⟨bY _,by omega⟩
  ·simp[e]at h
 ·obtain⟨b,k',y,h1,h2,h3⟩:=h;simp_all
theorem eG.write {σ:Names}{I:Nat->Prop}{w w':World}{m:Mem}{nm b:Nat}{x:Value}{k k':aY}{n:Nat}(hib:∀n,I n->n<w.heap.size)(hm:RM σ I w m)
  (hb1:m b=some k) (hx:σ b=some x) (hn:hb x=some n) (ho:∀j,j≠n->w'.heap[j]? =w.heap[j]?) (hs:w'.heap.size=w.heap.size)
  (h1:w'.os=w.os) (h2:w'.tape=w.tape) (h3:sI w' w) (hk:RB σ I w' k' x) {m':Mem} (hm':∀c q,m' c=some q->(c=b/\q=k')\/(c≠b/\m c=some q)):
  eG σ I w m nm σ I w' m':=by
 have hnI:¬I n:=by
  obtain⟨y,hy,_,hyn⟩:=hm.blk b k hb1;simp_all
 have old:∀c q,m' c=some q->∃q',m c=some q':=by
  grind
 refine⟨h1,h2,h3,by omega,λ_ _ h=>h,λ_ h1 h2=>absurd h1 h2,λ_ h=>h,λn h=>by have:=hib n h;omega,λ_ h=>.inl h,λj _ hj=>ho j (λe=>hj (e▸⟨b,k,x,hb1,hx,hn⟩)),⟨λc q h=>?_,λc c' q q' y y' j g1 g2 g3 g4 g5 g6=>?_⟩,λc q h=>.inl ?_,λj h=>.inl ?_⟩
 ·rcases hm' c q h with⟨rfl,rfl⟩|⟨hne,h⟩
  ·refine⟨x,hx,hk,λj hj=>?_⟩;obtain⟨y,hy,_,hyn⟩:=hm.blk c k hb1;simp_all
  ·obtain⟨y,hy,hrb,hyn⟩:=hm.blk c q h;refine⟨y,hy,hrb.mono (λj hj=>ho j (λe=>hnI (e▸hj))) (λ_ h=>h) (λ_ _ h=>h) (λj hj=>ho j (λe=>?_)),λj hj=>⟨by have:=(hyn j hj).1;omega,(hyn j hj).2⟩⟩;subst e;exact hne (hm.apart c b q k y x j h hb1 hy hx hj hn)
 ·obtain⟨p,hp⟩:=old c q g1;obtain⟨p',hp'⟩:=old c' q' g2;exact hm.apart c c' p p' y y' j hp hp' g3 g4 g5 g6
 ·obtain⟨p,hp⟩:=old c q h;simp[hp]
 ·obtain⟨c,q,y,g1,g2,g3⟩:=h;obtain⟨p,hp⟩:=old c q g1;exact⟨c,p,y,hp,g2,g3⟩
theorem Je {P:Program}{o:Oper}{x:Operand}(ho:o.op=.move x\/o.op=.assign x)(tm:Nat->AV)(m:Mem)(nm:Nat):
  bJ P o tm m nm (ev tm x) m:=
 bJ.pure λa w σ I h _=>⟨a.eval x,by rcases ho with ho|ho<;>simp[execOp,ho],dG λt e=>h t (by rcases ho with ho|ho<;>simp[ho,Op.operands,e])⟩
def BG (t:Bool):AV->AV->AV
 |.d (.v (.bool x)),.d (.v (.bool y))=>.d (.v (.bool (bif t then x else y)))
 |x,y=>bif t then x else y
theorem Th {σ:Names}{I:Nat->Prop}{w:World}{b:Bool}{y:Value}(h:RV σ I w (.d (.v (.bool b))) y):y=.bool b:=by
 cases h with
 |d h=>cases h;rfl
theorem eF {σ:Names}{I:Nat->Prop}{w:World}{x y:Value}(h:RV σ I w (.d (.v x)) y):y=x:=by
 cases h with
 |d h=>cases h;rfl
theorem zls {σ:Names}{I:Nat->Prop}{w:World}{t:Bool}{x y:AV}{u v:Value}(hx:RV σ I w x u)(hy:RV σ I w y v):
  RV σ I w (BG t x y) (if t then u else v):=by
 unfold BG
 grind
theorem zd2 {P:Program}{o:Oper}{c x y:Operand}(ho:o.op=.pick c x y)(tm:Nat->AV)(m:Mem)(nm:Nat){t:Bool}(hc:ev tm c=.d (.v (.bool t))):
  bJ P o tm m nm (BG t (ev tm x) (ev tm y)) m:=by
 refine bJ.pure λa w σ I h _=>⟨if t then a.eval x else a.eval y,?_,zls (dG λs e=>h s (by simp[ho,Op.operands,e])) (dG λs e=>h s (by simp[ho,Op.operands,e]))⟩;have:a.eval c=.bool t:=Th (σ:=σ) (I:=I) (w:=w) (hc▸dG λs e=>h s (by simp[ho,Op.operands,e]));simp[execOp,ho,this,asBool]
def fC (σ:Names)(nm:Nat)(x:Value):Names:=λb=>if b=nm then some x else σ b
theorem aN.H7 (res:AV)(nm:Nat)(k:aY)(mem:Mem):(aN.mk res [] [(nm,some k)]).mw mem=λb=>if b=nm then some k else none:=by
 funext b
 by_cases e:b=nm
 ·simp[aN.mw,wrote,e]
 ·simp[aN.mw,wrote,e,x9 e]
theorem bJ.new {P:Program}{o:Oper}{tm:Nat->AV}{mem:Mem}{nm:Nat}{res:AV}{k:aY}
  (h:∀(a:Act) (w:World) (σ:Names) (I:Nat->Prop),(∀n,I n->n<w.heap.size)->(∀t,Operand.tmp t∈o.op.operands->RV σ I w (tm t) (a.tmps.getD t undef))->
    ∃x v ob,(execOp a.eval o).run P w=.ok (.value v) (w.alloc ob)/\hb x=some w.heap.size/\
     (∀σ':Names,(∀b y,σ b=some y->σ' b=some y)->RB σ' I (w.alloc ob) k x)/\∀σ':Names,σ' nm=some x->RV σ' I (w.alloc ob) res v):
  bJ P o tm ((aN.mk res [] [(nm,some k)]).mr mem) nm res ((aN.mk res [] [(nm,some k)]).mw mem):=by
 refine bJ.val λa w σ I h1 h2 _ h4=>?_;obtain⟨x,v,ob,hr,hx,hk,hv⟩:=h a w σ I h1 h2;refine⟨v,w.alloc ob,fC σ nm x,I,hr,?_,hv _ (by simp[fC])⟩;rw[aN.H7];exact eG.alloc h1 (h4 nm ⟨bY _,by omega⟩) hx hk
theorem zey {P:Program}{o:Oper}{T:TypeId}(ho:o.op=.alloc T)(tm:Nat->AV)(mem:Mem)(nm:Nat){ti:TI}(hT:aS P T=some ti):
  bJ P o tm ((aN.mk (.ptr nm 0) [] [(nm,some (.cells (ti.zero.map λv=>.d (.v v)) T))]).mr mem) nm (.ptr nm 0)
   ((aN.mk (.ptr nm 0) [] [(nm,some (.cells (ti.zero.map λv=>.d (.v v)) T))]).mw mem):=by
 refine bJ.new λa w σ I h1 _=>?_;obtain⟨z,hz,hzl⟩:=zbB (w:=w) hT;refine⟨.pointer (some ⟨w.heap.size,0,none⟩),.pointer (some ⟨w.heap.size,0,none⟩),.cells z.cells T (0,0),?_,rfl,λσ' _=>?_,λσ' h=>.ptr h⟩
 ·simp[execOp,ho,Instr.alloc,hz,newVar,newRow]
 ·refine .cells (ED w _) ?_ ?_
  ·grind
  ·intro i c x hc hx;simp only[<-hzl]at hc;simp at hc;obtain⟨y,hy,rfl⟩:=hc;rw[hx]at hy;cases hy;exact .d (.v _)
theorem zeu {P:Program}{o:Oper}{T:TypeId}{x:Operand}(ho:o.op=.box T x)(tm:Nat->AV)(mem:Mem)(nm:Nat){cs:List AV}(hc:cellsOf (ev tm x)=some cs):
  bJ P o tm ((aN.mk (.ptr nm 0) [] [(nm,some (.cells cs T))]).mr mem) nm (.ptr nm 0) ((aN.mk (.ptr nm 0) [] [(nm,some (.cells cs T))]).mw mem):=by
 refine bJ.new λa w σ I h1 h2=>?_;have hv:RV σ I w (ev tm x) (a.eval x):=dG λs e=>h2 s (by simp[ho,Op.operands,e]);obtain⟨hl,hr⟩:=JA hv hc;refine⟨.pointer (some ⟨w.heap.size,0,none⟩),.pointer (some ⟨w.heap.size,0,none⟩),.cells (a.eval x).cells T (0,0),?_,rfl,λσ' hσ'=>?_,λσ' h=>.ptr h⟩
 ·simp[execOp,ho,Instr.box,newVar,newRow]
 ·exact .cells (ED w _) hl (λi c y h3 h4=>(hr i c y h3 h4).mono (λn hn=>wX w _ (h1 n hn)) (λ_ h=>h) hσ')
theorem add_plain (n off j:Nat):(⟨n,off,none⟩:Addr).add j=⟨n,off+j,none⟩:=by
 unfold Addr.add;simp_all
theorem AB {w:World}{n off:Nat}{arr:Array Value}{T:TypeId}{fr:Nat×Nat}(h:w.heap[n]? =some (.cells arr T fr)):w.cell? ⟨n,off,none⟩=arr[off]? :=by
 simp[World.cell?,h]
theorem zbH {P:Program}{w:World}{T:TypeId}{ti:TI}(hT:aS P T=some ti)(hg:ti.agg=true){a:Addr}{cs:List Value}(hl:cs.length=ti.sz)
  (h:∀j v,cs[j]? =some v->w.cell? (a.add j)=some v):(loadVar T a).run P w=.ok (.agg cs.toArray) w:=by
 simp only[loadVar,dS,Fj hT,hg,Result.andThen,fK,sX hT,<-hl,run_loadCells_list (P:=P) w a cs h];rfl
theorem zbG {P:Program}{w:World}{T:TypeId}{ti:TI}(hT:aS P T=some ti)(hg:ti.agg=false){a:Addr}{v:Value}
  (h:w.cell? a=some v):(loadVar T a).run P w=.ok v w:=by
 simp[loadVar,Fj hT,hg,h]
def tD (agg:Bool)(sz off:Nat)(cs:List AV):Option AV:=
 if agg then(if off+sz<=cs.length then some (.agg ((cs.drop off).take sz))else none)else cs[off]?
theorem VS {P:Program}{w:World}{σ:Names}{I:Nat->Prop}{T:TypeId}{ti:TI}(hT:aS P T=some ti){n base off:Nat}{cs:List AV}{r:AV}{val:Nat->Value}
  (hr:tD ti.agg ti.sz off cs=some r) (hc:∀j c,cs[j]? =some c->w.cell? ⟨n,base+j,none⟩=some (val j)/\RV σ I w c (val j)):
  ∃v,(loadVar T ⟨n,base+off,none⟩).run P w=.ok v w/\RV σ I w r v:=by
 unfold tD at hr;cases hg:ti.agg with
 |true=>
  simp only[hg,fK]at hr;split at hr
  ·rename_i hle;cases hr;have hlen:((List.range ti.sz).map λj=>val (off+j)).length=ti.sz:=by simp
   refine⟨_,zbH hT hg hlen (λj v hv=>?_),?_⟩
   ·simp at hv;have hj:j<ti.sz:=by
     grind
    simp[hj]at hv;subst hv;rw[add_plain];have:=(hc (off+j) _ (bO (by omega))).1
    grind
   ·refine .agg ?_ (λi c x h1 h2=>?_);all_goals grind
  ·cases hr
 |false=>
  simp only[hg,iO]at hr;exact⟨val off,zbG hT hg (hc off r hr).1,(hc off r hr).2⟩
theorem RM.cells {σ:Names}{I:Nat->Prop}{w:World}{m:Mem}(hm:RM σ I w m){b:Nat}{cs:List AV}{T:TypeId}(h:m b=some (.cells cs T)):
  ∃n arr,σ b=some (.pointer (some ⟨n,0,none⟩))/\w.heap[n]? =some (.cells arr T (0,0))/\arr.size=cs.length/\
   ∀(i:Nat) c x,cs[i]? =some c->arr[i]? =some x->RV σ I w c x:=by
 obtain⟨x,hx,hrb,_⟩:=hm.blk b _ h;cases hrb with
 |cells h1 h2 h3=>exact⟨_,_,hx,h1,h2,h3⟩
theorem RM.grow {σ:Names}{I:Nat->Prop}{w:World}{m:Mem}(hm:RM σ I w m){b z:Nat}{es:List (List D)}{T:TypeId}(h:m b=some (.grow z es T)):
  ∃x,σ b=some x/\((x=.slice none 0 0/\es=[])\/(∃a,x=.slice (some a) 0 0/\es=[])\/∃n cap arr,x=.slice (some ⟨n,0,none⟩) es.length cap/\w.heap[n]? =some (.cells arr T (0,0))/\cap*z<=arr.size/\es.length<=cap/\cap<=maxLen/\
   (∀e∈es,e.length=z)/\∀(i:Nat) e (j:Nat) c,es[i]? =some e->e[j]? =some c->∃x,arr[i*z+j]? =some x/\RD I w c x/\x.oneCell'=true):=by
 obtain⟨x,hx,hrb,_⟩:=hm.blk b _ h;cases hrb with
 |none=>exact⟨_,hx,.inl ⟨rfl,rfl⟩⟩
 |emp a=>exact⟨_,hx,.inr (.inl ⟨a,rfl,rfl⟩)⟩
 |grow h1 h2 h3 h4 h5 h6=>exact⟨_,hx,.inr (.inr ⟨_,_,_,rfl,h1,h2,h3,h4,h5,h6⟩)⟩
theorem zjq {σ:Names}{I:Nat->Prop}{w:World}{n:Nat}{arr:Array Value}{T:TypeId}{cs:List AV}(hh:w.heap[n]? =some (.cells arr T (0,0)))(hl:arr.size=cs.length)
  (hr:∀(i:Nat) c x,cs[i]? =some c->arr[i]? =some x->RV σ I w c x):
  ∀j c,cs[j]? =some c->w.cell? ⟨n,0+j,none⟩=some (arr.getD j undef)/\RV σ I w c (arr.getD j undef):=by
 intro j c hc;have hj:j<arr.size:=by
  have:=(cE.1 hc).1;omega
 have e:arr[j]? =some (arr.getD j undef):=by simp[hj]
 refine⟨?_,hr j c _ hc e⟩;rw[AB hh,AR];exact e
def BL (agg:Bool)(sz:Nat)(mem:Mem):AV->Option aN
 |.ptr b off=>match mem b with
  |some (.cells cs _)=>(tD agg sz off cs).map λr=>⟨r,[b],[]⟩
  |_=>none
 |.gR b z i off=>match mem b with
  |some (.grow z' es _)=>if z=z' then match es[i]? with
    |some e=>(tD agg sz off (e.map .d)).map λr=>⟨r,[b],[]⟩
    |none=>none
   else none
  |_=>none
 |.d (.bE cs)=>(tD agg sz 0 (cs.map .d)).map λr=>⟨r,[],[]⟩
 |_=>none
theorem Mq {P:Program}{T:TypeId}{mem:Mem}{ti:TI}(hT:aS P T=some ti){x:AV}{e:aN}(he:BL ti.agg ti.sz mem x=some e){σ:Names}{I:Nat->Prop}{w:World}{u:Value}
  (h1:RV σ I w x u) (h2:RM σ I w (e.mr mem)):∃ad v,u=.pointer (some ad)/\(loadVar T ad).run P w=.ok v w/\RV σ I w e.res v:=by
 unfold BL at he;split at he
 ·rename_i b off;split at he
  ·rename_i cs T' hb;cases hr:tD ti.agg ti.sz off cs with
   |none=>simp[hr]at he
   |some r=>
    simp[hr]at he;subst he;obtain⟨n,arr,h3,h4,h5,h6⟩:=h2.cells (aN.kY hb (.inl (by simp)));obtain⟨v,h7,h8⟩:=VS hT hr (zjq h4 h5 h6);rw[AR]at h7;refine⟨_,v,?_,h7,h8⟩;cases h1 with
    |ptr h=>rw[h3]at h;cases h;rfl
  ·cases he
 ·rename_i b z i off;split at he
  ·rename_i z' es T' hb;split at he
   ·rename_i hz;subst hz;split at he
    ·rename_i el hel;cases hr:tD ti.agg ti.sz off (el.map .d)with
     |none=>simp[hr]at he
     |some r=>
      simp[hr]at he;subst he;obtain⟨y,hy,hrb⟩:=h2.grow (aN.kY hb (.inl (by simp)))
      obtain⟨n,arr,ha,g1,g6⟩:∃n arr,u=.pointer (some ⟨n,i*z+off,none⟩)/\w.heap[n]? =some (.cells arr T' (0,0))/\
        (∀(i:Nat) e (j:Nat) c,es[i]? =some e->e[j]? =some c->∃x,arr[i*z+j]? =some x/\RD I w c x/\x.oneCell'=true):=by
       cases h1 with
       |gR h=>
        rw[hy]at h;cases h;rcases hrb with⟨hrb,_⟩|⟨_,_,rfl⟩|⟨n,cap,arr,hyy,g1,g2,g3,g4,g5,g6⟩
        ·cases hrb
        ·simp at hel
        ·cases hyy;exact⟨_,_,rfl,g1,g6⟩
      obtain⟨v,h7,h8⟩:=VS (σ:=σ) (I:=I) (n:=n) (base:=i*z) (val:=λj=>arr.getD (i*z+j) undef) hT hr (λj c hc=>by
       simp at hc;obtain⟨c',hc',rfl⟩:=hc;obtain⟨q,hq,hq',_⟩:=g6 i el j c' hel hc';have e0:arr.getD (i*z+j) undef=q:=by simp[hq]
       rw[AB g1,hq,e0];exact⟨rfl,.d hq'⟩)
      exact⟨_,v,ha,h7,h8⟩
    ·cases he
   ·cases he
  ·cases he
 ·rename_i cs;cases hr:tD ti.agg ti.sz 0 (cs.map .d)with
  |none=>simp[hr]at he
  |some r=>
   simp[hr]at he;subst he;cases h1 with
   |d h=>
    cases h with
    |bE val hI hc hrr hone=>
     rename_i blk off;obtain⟨v,h7,h8⟩:=VS (σ:=σ) (I:=I) (n:=blk) (base:=off) (val:=val) hT hr (λj c hcj=>by
      simp at hcj;obtain⟨c',hc',rfl⟩:=hcj;exact⟨hc j c' hc',.d (hrr j c' hc')⟩)
     exact⟨_,v,rfl,h7,h8⟩
 ·cases he
theorem zfM {agg:Bool}{sz:Nat}{mem:Mem}{x:AV}{e:aN}(he:BL agg sz mem x=some e):e.wr=[]:=by
 unfold BL at he
 repeat' split at he
 all_goals first
  | (cases he;done)
  | (simp at he;obtain⟨_,_,rfl⟩:=he;rfl)
theorem Jf {P:Program}{o:Oper}{T:TypeId}{x:Operand}(ho:o.op=.load T x)(tm:Nat->AV)(mem:Mem)(nm:Nat){ti:TI}(hT:aS P T=some ti){e:aN}
  (he:BL ti.agg ti.sz mem (ev tm x)=some e):bJ P o tm (e.mr mem) nm e.res (e.mw mem):=by
 have hmw:e.mw mem=e.mr mem:=by
  have hwr:=zfM he;obtain⟨r,rd,wr⟩:=e;simp only at hwr;subst hwr;exact aN.vC _ _ _
 rw[hmw];refine bJ.pure λa w σ I h1 h2=>?_;obtain⟨ad,v,h3,h4,h5⟩:=Mq hT he (dG (a:=a) λs e=>h1 s (by simp[ho,Op.operands,e])) h2;exact⟨v,by simp[execOp,ho,Instr.loadAt,Instr.sureAddr,h3,h4],h5⟩
def DE :AV->Bool
 |.d (.v x)=>x.oneCell'
 |.d (.agg _)=>false
 |.any=>false
 |.aU _=>false
 |.agg _=>false
 |_=>true
theorem PR {σ:Names}{I:Nat->Prop}{w:World}{c:AV}{x:Value}(h:RV σ I w c x)(hc:DE c=true):x.oneCell'=true:=by
 cases h with
 |d h=>
  cases h with
  |v y=>exact hc
  |agg _ _=>cases hc
  |_=>rfl
 |any y=>cases hc
 |aU _ _=>cases hc
 |agg _ _=>cases hc
 |own h h1=>exact h1
 |sl h hs=>cases hs<;>rfl
 |_=>rfl
def CU :AV->Option D
 |.d (.agg _)=>none
 |.d x=>some x
 |_=>none
def q8 :List AV->Option (List D)
 |[]=>some []
 |x::r=>match CU x,q8 r with
  |some y,some s=>some (y::s)
  |_,_=>none
theorem vY :∀{l:List AV} {s:List D},q8 l=some s->l=s.map .d
 |[],s,h=>by cases h;rfl
 |x::r,s,h=>by
  unfold q8 at h;split at h
  ·rename_i y t h1 h2;cases h;rw[vY h2,kE];congr 1
   unfold CU at h1;split at h1
   ·cases h1
   ·cases h1;rfl
   ·cases h1
  ·cases h
def lay {α:Type}(cs:List α)(off:Nat)(new:List α):List α:=cs.take off++new++cs.drop (off+new.length)
theorem K8 {α:Type}(cs new:List α)(off i:Nat)(h:off+new.length<=cs.length):
  (lay cs off new)[i]? =if off<=i/\i<off+new.length then new[i-off]? else cs[i]? :=by
 unfold lay;rw[TU]
 grind
theorem K7 {α:Type}(cs new:List α)(off:Nat)(h:off+new.length<=cs.length):(lay cs off new).length=cs.length:=by
 simp[lay];omega
def NY (sz:Nat)(mem:Mem)(x:AV):AV->Option aN
 |.ptr b off=>match mem b,cellsOf x with
  |some (.cells cs T),some new=>if new.length=sz/\off+new.length<=cs.length/\new.all DE=true then some ⟨.d (.v undef),[],[(b,some (.cells (lay cs off new) T))]⟩else none
  |_,_=>none
 |.gR b z i off=>match mem b,(cellsOf x).bind q8 with
  |some (.grow z' es T),some new=>match es[i]? with
   |some e=>if z=z'/\new.length=sz/\off+new.length<=e.length/\(new.map AV.d).all DE=true then some ⟨.d (.v undef),[],[(b,some (.grow z (es.set i (lay e off new)) T))]⟩else none
   |none=>none
  |_,_=>none
 |_=>none
theorem Fh {P:Program}{w:World}{T:TypeId}{ti:TI}(hT:aS P T=some ti){n off:Nat}{v:Value}{arr:Array Value}{T':TypeId}(hs:v.cells.size=ti.sz)
  (hh:w.heap[n]? =some (.cells arr T' (0,0))) (hl:off+v.cells.size<=arr.size) (h1:∀x∈v.cells.toList,x.oneCell'=true):
  (storeVar T ⟨n,off,none⟩ v).run P w=.ok () (w.setRow n (lay arr.toList off v.cells.toList).toArray):=by
 have:=TH (P:=P) n off T' v.cells.toList 0 arr w hh (by simpa using hl) h1;simp[storeVar,sX hT,hs,this,lay]
theorem bJ.skip {P:Program}{o:Oper}{tm:Nat->AV}{mr mw:Mem}{nm:Nat}
  (h:∀(a:Act) (w:World) (σ:Names) (I:Nat->Prop),(∀n,I n->n<w.heap.size)->
    (∀t,Operand.tmp t∈o.op.operands->RV σ I w (tm t) (a.tmps.getD t undef))->RM σ I w mr->(∀b,fresh nm b->σ b=none)->
    ∃w' σ' I',(execOp a.eval o).run P w=.ok .skip w'/\eG σ I w mr nm σ' I' w' mw):bJ P o tm mr nm (.d (.v undef)) mw:=by
 intro a w σ I h1 h2 h3 h4 next Q hn;obtain⟨w',σ',I',hr,hp⟩:=h a w σ I h1 h2 h3 h4;simp only[Oper.wp,hr];exact hn undef σ' I' w' hp (.d (.v _))
theorem GV {res:AV}{b:Nat}{k':aY}{mem:Mem}:∀c q,(aN.mk res [] [(b,some k')]).mw mem c=some q->(c=b/\q=k')\/(c≠b/\(aN.mk res [] [(b,some k')]).mr mem c=some q):=by
 intro c q h;rw[aN.H7]at h;simp_all
theorem HV {P:Program}{o:Oper}{T:TypeId}{ad x:Operand}(ho:o.op=.store T ad x)(tm:Nat->AV)(mem:Mem)(nm:Nat){ti:TI}(hT:aS P T=some ti){e:aN}
  (he:NY ti.sz mem (ev tm x) (ev tm ad)=some e):bJ P o tm (e.mr mem) nm e.res (e.mw mem):=by
 unfold NY at he;split at he
 ·rename_i b off hx;split at he
  ·rename_i cs T' new hb hnew;split at he
   ·rename_i hc;obtain⟨c1,c2,c3⟩:=hc;cases he;refine bJ.skip λa w σ I h1 h2 h3 _=>?_;obtain⟨n,arr,g1,g2,g3,g4⟩:=h3.cells (aN.kY hb (.inr (by simp[wrote])));obtain⟨v1,v2⟩:=JA (dG (x:=x) λs e=>h2 s (by simp[ho,Op.operands,e])) hnew;have ha:a.eval ad=.pointer (some ⟨n,off,none⟩):=by
     have:=dG (σ:=σ) (I:=I) (w:=w) (tm:=tm) (a:=a) (x:=ad) λs e=>h2 s (by simp[ho,Op.operands,e]);rw[hx]at this;generalize a.eval ad=y at this;cases this with
     |ptr h=>rw[g1]at h;cases h;rfl
    have hone:∀y∈(a.eval x).cells.toList,y.oneCell'=true:=by
     intro y hy;obtain⟨i,hi⟩:=MU.1 hy;have hi':(a.eval x).cells[i]? =some y:=by simpa using hi
     have hlt:=(qZ.1 hi').1;have hcn:new[i]? =some new[i]:=bO (by omega);exact PR (v2 i _ y hcn hi') (dP.1 c3 _ (mF _))
    have hrun:=Fh (w:=w) hT (n:=n) (off:=off) (v:=a.eval x) (arr:=arr) (by omega) g2 (by omega) hone;refine⟨w.setRow n (lay arr.toList off (a.eval x).cells.toList).toArray,σ,I,?_,?_⟩
    ·simp[execOp,ho,Instr.storeAt,Instr.sureAddr,ha,hrun]
    ·have hnI:¬I n:=by
      obtain⟨y,hy,_,hyn⟩:=h3.blk b _ (aN.kY hb (.inr (by simp[wrote])));rw[g1]at hy;cases hy;exact(hyn n rfl).2
     refine eG.write (b:=b) (k':=.cells (lay cs off new) T') h1 h3 (aN.kY hb (.inr (by simp[wrote]))) g1 rfl (λj hj=>CG w n j _ hj) (by simp) rfl rfl ⟨rfl,bY _⟩ ?_ GV;refine .cells (setRow_heap w n arr _ T' _ g2) ?_ ?_
     ·simp only[JL];rw[K7 _ _ _ (by simp;omega),K7 _ _ _ (by omega)];simpa using g3
     ·intro i c y k1 k2;rw[MW,K8 _ _ _ _ (by simp;omega)]at k2;rw[K8 _ _ _ _ (by omega)]at k1;have mono:∀{c y},RV σ I w c y->RV σ I (w.setRow n (lay arr.toList off (a.eval x).cells.toList).toArray) c y:=
       λh=>h.mono (λj hj=>CG w n j _ (λe=>hnI (e▸hj))) (λ_ h=>h) (λ_ _ h=>h)
      have e1:(a.eval x).cells.toList.length=new.length:=by simp;omega
      rw[e1]at k2;split at k1
      ·rename_i hin;rw[aZ hin]at k2;exact mono (v2 (i-off) c y k1 (by simpa using k2))
      ·rename_i hin;rw[aT hin]at k2;exact mono (g4 i c y k1 (by simpa using k2))
   ·cases he
  ·cases he
 ·rename_i b z i off hx;split at he
  ·rename_i z' es T' new hb hnew;split at he
   ·rename_i el hel;split at he
    ·rename_i hc;obtain⟨rfl,c1,c2,c3⟩:=hc;cases he;refine bJ.skip λa w σ I h1 h2 h3 _=>?_;obtain⟨y,hy,hrb,hyn⟩:=h3.blk b _ (aN.kY hb (.inr (by simp[wrote])));obtain⟨cl,hcl,hds⟩:=Option.bind_eq_some_iff.1 hnew;obtain⟨v1,v2⟩:=JA (dG (x:=x) λs e=>h2 s (by simp[ho,Op.operands,e])) hcl;have hcl':=vY hds;subst hcl';have hav:=dG (σ:=σ) (I:=I) (w:=w) (tm:=tm) (a:=a) (x:=ad) λs e=>h2 s (by simp[ho,Op.operands,e]);rw[hx]at hav
     obtain⟨n,cap,arr,ha,rfl,g1,g2,g3,g4,g5,g6⟩:∃n cap arr,a.eval ad=.pointer (some ⟨n,i*z+off,none⟩)/\y=.slice (some ⟨n,0,none⟩) es.length cap/\w.heap[n]? =some (.cells arr T' (0,0))/\cap*z<=arr.size/\es.length<=cap/\cap<=maxLen/\(∀e∈es,e.length=z)/\
       (∀(i:Nat) e (j:Nat) c,es[i]? =some e->e[j]? =some c->∃x,arr[i*z+j]? =some x/\RD I w c x/\x.oneCell'=true):=by
      generalize a.eval ad=u at hav;cases hav with
      |gR h=>
       rw[hy]at h;cases h;cases hrb with
       |emp _=>simp at hel
       |grow g1 g2 g3 g4 g5 g6=>exact⟨_,_,_,rfl,rfl,g1,g2,g3,g4,g5,g6⟩
     have hone:∀y∈(a.eval x).cells.toList,y.oneCell'=true:=by
      intro y hy;obtain⟨i,hi⟩:=MU.1 hy;have hi':(a.eval x).cells[i]? =some y:=by simpa using hi
      have hlt:=(qZ.1 hi').1;have hcn:(new.map AV.d)[i]? =some (new.map AV.d)[i]:=bO (by omega);exact PR (v2 i _ y hcn hi') (dP.1 c3 _ (mF _))
     have hil:i<es.length:=(cE.1 hel).1;have hlen:el.length=z:=g5 el (gT hel);have v1':(a.eval x).cells.size=new.length:=by simpa using v1
     have hbnd:(i+1)*z<=cap*z:=oQ z (by omega);rw[kC,sN]at hbnd;have hrun:=Fh (w:=w) hT (n:=n) (off:=i*z+off) (v:=a.eval x) (arr:=arr) (by omega) g1 (by omega) hone;refine⟨w.setRow n (lay arr.toList (i*z+off) (a.eval x).cells.toList).toArray,σ,I,?_,?_⟩
     ·simp[execOp,ho,Instr.storeAt,Instr.sureAddr,ha,hrun]
     ·have hbn:AI.hb (Value.slice (some ⟨n,0,none⟩) es.length cap)=some n:=vJ (by omega);have hnI:¬I n:=(hyn n hbn).2;refine eG.write (b:=b) (k':=.grow z (es.set i (lay el off new)) T') h1 h3 (aN.kY hb (.inr (by simp[wrote]))) hy hbn (λj hj=>CG w n j _ hj) (by simp) rfl rfl ⟨rfl,bY _⟩ ?_ GV;have hll:(lay el off new).length=el.length:=K7 _ _ _ c2;have:=RB.grow (σ:=σ) (I:=I) (w:=w.setRow n (lay arr.toList (i*z+off) (a.eval x).cells.toList).toArray) (sz:=z) (es:=es.set i (lay el off new)) (T:=T') (n:=n) (cap:=cap)
       (setRow_heap w n arr _ T' _ g1) ?_ (by simpa using g3) g4 ?_ ?_
      ·simpa using this
      ·simp only[JL];rw[K7 _ _ _ (by simp;omega)];simpa using g2
      ·intro e he;rcases GC he with h|h
       ·exact g5 e h
       ·rw[h];omega
      ·intro k e j c k1 k2;have mono:∀{c y},RD I w c y->RD I (w.setRow n (lay arr.toList (i*z+off) (a.eval x).cells.toList).toArray) c y:=
        λh=>h.mono (λj hj=>CG w n j _ (λe=>hnI (e▸hj))) (λ_ h=>h)
       have e1:(a.eval x).cells.toList.length=new.length:=by simp;omega
       rw[MW,K8 _ _ _ _ (by simp;omega),e1];by_cases hik:i=k
       ·subst hik;rw[List.getElem?_set_self hil]at k1;cases k1;rw[K8 _ _ _ _ c2]at k2;by_cases hin:off<=j/\j<off+new.length
        ·rw[aZ hin]at k2;rw[aZ ⟨by omega,by omega⟩];have hq:(new.map AV.d)[j-off]? =some (.d c):=by simp[k2]
         have hlt:j-off<(a.eval x).cells.size:=by omega
         have hv:=v2 (j-off) _ (a.eval x).cells[j-off] hq (uQ hlt);refine⟨(a.eval x).cells[j-off],?_,?_⟩
         ·rw[show i*z+j-(i*z+off)=j-off by omega];simp[hlt]
         ·cases hv with
          |d h=>exact⟨mono h,hone _ (by simp)⟩
        ·rw[aT hin]at k2;rw[aT (by omega)];obtain⟨q,hq,hq',ho⟩:=g6 i el j c hel k2;exact⟨q,by simpa using hq,mono hq',ho⟩
       ·rw[List.getElem?_set_ne hik]at k1;obtain⟨q,hq,hq',ho'⟩:=g6 k e j c k1 k2;have hjl:j<z:=by
         have:=(cE.1 k2).1;rw[g5 e (gT k1)]at this;exact this
        refine⟨q,?_,mono hq',ho'⟩;rw[aT]
        ·simpa using hq
        ·rintro⟨q1,q2⟩;rcases y9 k i with hlt|hge
         ·have:(k+1)*z<=i*z:=oQ z hlt;rw[kC,sN]at this;omega
         ·have:(i+1)*z<=k*z:=oQ z (by omega);rw[kC,sN]at this;omega
    ·cases he
   ·cases he
  ·cases he
 ·cases he
def yZ :CK->Value->Value->Option Bool
 |.int,.int k a,.int k' b=>if k=k' then some (decide (a=b))else none
 |.bool,.bool a,.bool b=>some (decide (a=b))
 |.str,.string a,.string b=>some (decide (a=b))
 |_,_,_=>none
def lX :List CK->List Value->List Value->Option Bool
 |[],[],[]=>some true
 |k::ks,x::xs,y::ys=>match yZ k x y,lX ks xs ys with
  |some p,some q=>some (p&&q)
  |_,_=>none
 |_,_,_=>none
theorem IQ :∀{ks:List CK} {xs ys:List Value} {r:Bool},lX ks xs ys=some r->xs.length=ks.length/\ys.length=ks.length
 |[],[],[],_,_=>⟨rfl,rfl⟩
 |k::ks,x::xs,y::ys,r,h=>by
  unfold lX at h;split at h
  ·rename_i p q h1 h2;have:=IQ h2;simp[this.1,this.2]
  ·cases h
 |[],[],_::_,_,h=>by simp[lX]at h
 |[],_::_,_,_,h=>by simp[lX]at h
 |_::_,[],_,_,h=>by simp[lX]at h
 |_::_,_::_,[],_,h=>by simp[lX]at h
theorem Y8 {k:CK}{xs ys:List Value}{r:Bool}(h:lX [k] xs ys=some r):∃x y,xs=[x]/\ys=[y]/\yZ k x y=some r:=by
 have hl:=IQ h
 match xs,ys,hl,h with
 |[x],[y],_,h=>
  refine⟨x,y,rfl,rfl,?_⟩;simp only[lX]at h;cases hc:yZ k x y with
  |none=>simp[hc]at h
  |some p=>simp[hc]at h;rw[h]
theorem Pv {k1 k2:List CK}{xs ys:List Value}{r:Bool}(h:lX (k1++k2) xs ys=some r):
  ∃p q,lX k1 (xs.take k1.length) (ys.take k1.length)=some p/\lX k2 (xs.drop k1.length) (ys.drop k1.length)=some q/\r=(p&&q):=by
 induction k1 generalizing xs ys r with
 |nil=>exact⟨true,r,rfl,by simpa using h,by simp⟩
 |cons k k1 ih=>
  cases xs with
  |nil=>simp[lX]at h
  |cons x xs=>
   cases ys with
   |nil=>simp[lX]at h
   |cons y ys=>
    simp only[yD,lX]at h;split at h
    ·rename_i p q h1 h2;cases h;obtain⟨p',q',e1,e2,rfl⟩:=ih h2;exact⟨p&&p',q',by simp[lX,h1,e1],by simpa using e2,by simp[Bool.and_assoc]⟩
    ·cases h
theorem SM (a b:ByteArray):(a.toList==b.toList)=decide (a=b):=by
 rw[<-beq_toListBytes];by_cases h:a=b
 ·subst h;have:(a==a)=true:=by
   obtain⟨x⟩:=a;show(x==x)=true;simp
  simp[this]
 ·have:(a==b)=false:=by
   rw[TX];intro hc;apply h;obtain⟨x⟩:=a;obtain⟨y⟩:=b;have:(x==y)=true:=hc;rw[beq_iff_eq]at this;rw[this]
  simp[this,h]
theorem Cu {P:Program}{t:TypeId}{i:TypeInfo}(h:P.info? t=some i):bV P t=i.size:=by simp[bV,h]
theorem info_of_underlying {P:Program}{t:TypeId}{d:TypeDesc}(h:P.underlying t=some d):∃i,P.info? t=some i:=by
 unfold Program.underlying at h;cases hi:P.info? t with
 |some i=>exact⟨i,rfl⟩
 |none=>simp[hi]at h
def jV :TypeDesc->Bool
 |.struct _|.array _ _=>true
 |_=>false
theorem E3 {P:Program}{w:World}{t:TypeId}{d:TypeDesc}(h:P.underlying t=some d):(isAgg t).run P w=.ok (jV d) w:=by
 cases d<;>simp[isAgg,underlying,h,jV]
theorem OQ {P:Program}{w:World}{t:TypeId}{d:TypeDesc}(h:P.underlying t=some d):(sizeOf t).run P w=.ok (bV P t) w:=by
 obtain⟨i,hi⟩:=info_of_underlying h;simp[sizeOf,typeInfo,hi,bV]
theorem G4 {P:Program}{w:World}{t:TypeId}{d:TypeDesc}(h:P.underlying t=some d){xs:List Value}{off:Nat}(hs:off+bV P t<=xs.length)(h1:jV d=false->bV P t=1):
  (part t xs.toArray off).run P w=.ok (mk (jV d) ((xs.drop off).take (bV P t))) w:=by
 cases hg:jV d with
 |true=>
  have:xs.toArray.extract off (off+bV P t)=((xs.drop off).take (bV P t)).toArray:=by
   simp
  simp only[part,dS,E3 h,hg,fB,fK,OQ h,this];rfl
 |false=>
  have h1:=h1 hg;have hlt:off<xs.length:=by omega
  have e1:(xs.drop off).take 1=[xs[off]]:=by
   rw[List.take_one];simp
  simp[part,E3 h,hg,mk,h1,hlt,e1]
theorem Pg {P:Program}{d:Nat}{t:TypeId}{ks:List CK}(h:pR P (d+1) t=some ks):∃u,P.underlying t=some u/\(jV u=false->ks.length=1):=by
 unfold pR at h;split at h<;>first
  | (rename_i hu;cases h;exact⟨_,hu,λ_=>rfl⟩)
  | (rename_i hu;exact⟨_,hu,λh=>by cases h⟩)
  |cases h
theorem Fk {P:Program}:∀(d d':Nat) (t:TypeId) (ks:List CK) (u:TypeDesc),pR P d t=some ks->d<=d'->P.underlying t=some u->∀(xs ys:List Value) (r:Bool),lX ks xs ys=some r->
  ∀w,(Op.equalIn d' t (mk (jV u) xs) (mk (jV u) ys)).run P w=.ok r w:=by
 intro d;induction d with
 |zero=>intro d' t ks u h;cases h
 |succ d ih=>
  intro d' t ks u h hd hu xs ys r hr w;obtain⟨d'',rfl⟩:∃k,d'=k+1:=⟨d'-1,by omega⟩;have hd'':d<=d'':=by omega
  unfold pR at h;rw[hu]at h;split at h
  ·
   rename_i k e;cases e;cases h;obtain⟨x,y,rfl,rfl,hc⟩:=Y8 hr;cases x<;>first| (cases hc;done)|skip
   cases y<;>first| (cases hc;done)|skip
   simp only[yZ]at hc;split at hc
   ·rename_i hk;cases hc;subst hk;simp[mk,jV,Op.equalIn,underlying,hu];rfl
   ·cases hc
  ·rename_i e;cases e;cases h;obtain⟨x,y,rfl,rfl,hc⟩:=Y8 hr;cases x<;>first| (cases hc;done)|skip
   cases y<;>first| (cases hc;done)|skip
   simp only[yZ]at hc;cases hc;simp[mk,jV,Op.equalIn,underlying,hu];rfl
  ·rename_i e;cases e;cases h;obtain⟨x,y,rfl,rfl,hc⟩:=Y8 hr;cases x<;>first| (cases hc;done)|skip
   cases y<;>first| (cases hc;done)|skip
   simp only[yZ]at hc;cases hc;have:=λ(a b:ByteArray)=>(beq_toListBytes a b).trans (SM a b)
   simp[mk,jV,Op.equalIn,underlying,hu,this]
  ·
   rename_i fs e;cases e;split at h
   ·cases h
   rename_i hst;have hF:P.fieldsOf t=fs:=by simp[Program.fieldsOf,hu]
   simp only[mk,jV,fK];rw[run_equalIn_struct w d'' t _ _ (by rw[hF];exact hu) (by simpa using hst),hF]
   have go:∀(l:List Field) (off:Nat) (ks:List CK) (r:Bool),RG P (pR P d) off l=some ks->off<=xs.length->off<=ys.length->lX ks (xs.drop off) (ys.drop off)=some r->
     (Op.eqFields d'' xs.toArray ys.toArray l).run P w=.ok r w:=by
    intro l;induction l with
    |nil=>
     intro off ks r h1 _ _ h2;cases h1;have hl:=IQ h2;have e1:xs.drop off=[]:=MV.1 hl.1;have e2:ys.drop off=[]:=MV.1 hl.2;rw[e1,e2]at h2;cases h2;simp[Op.eqFields]
    |cons f l ihl=>
     intro off ks r h1 hx hy h2;unfold RG at h1;split at h1
     ·rename_i lf hlf;split at h1
      ·rename_i hc;obtain⟨c1,c2,c3⟩:=hc;split at h1
       ·rename_i rr hrr;cases h1;obtain⟨p,q,e1,e2,rfl⟩:=Pv h2;cases hd0:d with
        |zero=>subst hd0;simp[pR]at hlf
        |succ d0=>
         obtain⟨uf,huf,h1c⟩:=Pg (hd0▸hlf);have l1:=IQ e1;simp at l1;have hxs:off+bV P f.type<=xs.length:=by omega
         have hys:off+bV P f.type<=ys.length:=by omega
         have hx1:=G4 (P:=P) (w:=w) huf (xs:=xs) (off:=off) hxs (λhg=>by rw[c3];exact h1c hg);have hy1:=G4 (P:=P) (w:=w) huf (xs:=ys) (off:=off) hys (λhg=>by rw[c3];exact h1c hg);have hq:=ih d'' f.type lf uf hlf hd'' huf _ _ p e1 w;rw[c3]at hx1 hy1;simp only[Op.eqFields,c1,ne_eq,MP,fK,dS,c2,hx1,hy1,fB,hq];cases p
         ·simp
         ·simp only[M5,A1,iO,uP];refine ihl (off+lf.length) rr q hrr (by omega) (by omega) ?_;simpa[AZ]using e2
       ·cases h1
      ·cases h1
     ·cases h1
   exact go fs.toList 0 ks r h (by omega) (by omega) (by simpa using hr)
  ·
   rename_i n e he;cases he;split at h
   ·rename_i l hl;split at h
    ·rename_i hsz;cases h;cases hd0:d with
     |zero=>subst hd0;simp[pR]at hl
     |succ d0=>
      obtain⟨ue,hue,h1c⟩:=Pg (hd0▸hl);simp only[mk,jV,fK];simp only[Op.equalIn,dS,cZ hu,fB,OQ hue];rw[Std.Legacy.Range.forIn_eq_forIn_range'];simp only[Std.Legacy.Range.size,MQ,Nat.add_sub_cancel,Nat.div_one];have hr':lX (List.replicate n l).flatten (xs.drop (0*l.length)) (ys.drop (0*l.length))=some r:=by simpa using hr
      clear hr;clear hu;revert hr';generalize(0:Nat)=i;induction n generalizing i r with
       |zero=>
        intro h2;have hl:=IQ h2;simp at hl;have e1:xs.drop (i*l.length)=[]:=JU.2 (by omega);have e2:ys.drop (i*l.length)=[]:=JU.2 (by omega);rw[e1,e2]at h2;cases h2;simp
       |succ m ihm=>
        intro h2;rw[List.replicate_succ,List.flatten_cons]at h2;obtain⟨p,q,e1,e2,rfl⟩:=Pv h2;have l1:=IQ e1;simp at l1;rcases wY l.length with hz|hz
        ·
         have hag:jV ue=true:=by
          cases hg:jV ue with
          |true=>rfl
          |false=>have:=h1c hg;omega
         have hx1:(part e xs.toArray (i*bV P e)).run P w=.ok (mk (jV ue) []) w:=by
          simp[part,E3 hue,hag,OQ hue,mk,hsz,hz]
         have hy1:(part e ys.toArray (i*bV P e)).run P w=.ok (mk (jV ue) []) w:=by
          simp[part,E3 hue,hag,OQ hue,mk,hsz,hz]
         have e1':lX l [] []=some p:=by simpa[hz]using e1
         have hq:=ih d'' e l ue hl hd'' hue _ _ p e1' w;simp only[List.range'_succ,List.forIn_cons,dS,hx1,hy1,fB,hq];have e2':lX (List.replicate m l).flatten (xs.drop ((i+1)*l.length)) (ys.drop ((i+1)*l.length))=some q:=by simpa[hz]using e2
         have:=ihm q (i+1) e2';cases p
         ·simp
         ·simpa using this
        ·have hxs:i*bV P e+bV P e<=xs.length:=by rw[hsz];omega
         have hys:i*bV P e+bV P e<=ys.length:=by rw[hsz];omega
         have hx1:=G4 (P:=P) (w:=w) hue (xs:=xs) (off:=i*bV P e) hxs (λhg=>by rw[hsz];exact h1c hg);have hy1:=G4 (P:=P) (w:=w) hue (xs:=ys) (off:=i*bV P e) hys (λhg=>by rw[hsz];exact h1c hg);have e1':lX l (List.take (bV P e) (List.drop (i*bV P e) xs)) (List.take (bV P e) (List.drop (i*bV P e) ys))=some p:=by rw[hsz];exact e1
         have hq:=ih d'' e l ue hl hd'' hue _ _ p e1' w;simp only[List.range'_succ,List.forIn_cons,dS,hx1,hy1,fB,hq];have e2':lX (List.replicate m l).flatten (xs.drop ((i+1)*l.length)) (ys.drop ((i+1)*l.length))=some q:=by
          rw[kC,sN];simpa[AZ]using e2
         have:=ihm q (i+1) e2';cases p
         ·simp
         ·simpa using this
    ·cases h
   ·cases h
  ·cases h
def R8 :CK->AV->AV->Option Bool
 |.int,.d (.v (.int k a)),.d (.v (.int k' b))=>if k=k' then some (decide (a=b))else none
 |.bool,.d (.v (.bool a)),.d (.v (.bool b))=>some (decide (a=b))
 |.str,.d (.v (.string a)),.d (.v (.string b))=>some (decide (a=b))
 |_,_,_=>none
def BX :List CK->List AV->List AV->Option Bool
 |[],[],[]=>some true
 |k::ks,x::xs,y::ys=>match R8 k x y,BX ks xs ys with
  |some p,some q=>some (p&&q)
  |_,_=>none
 |_,_,_=>none
theorem zjt {σ:Names}{I:Nat->Prop}{w:World}{k:CK}{x y:AV}{u v:Value}{r:Bool}(h:R8 k x y=some r)(hx:RV σ I w x u)(hy:RV σ I w y v):yZ k u v=some r:=by
 unfold R8 at h;split at h<;>first
  | (rw[eF hx,eF hy];exact h)
  |cases h
theorem Pw {σ:Names}{I:Nat->Prop}{w:World}:∀{ks:List CK} {xs ys:List AV} {r:Bool},BX ks xs ys=some r->∀{us vs:List Value},us.length=xs.length->vs.length=ys.length->
  (∀(i:Nat) c x,xs[i]? =some c->us[i]? =some x->RV σ I w c x)->(∀(i:Nat) c x,ys[i]? =some c->vs[i]? =some x->RV σ I w c x)->lX ks us vs=some r
 |[],[],[],r,h,us,vs,h1,h2,_,_=>by
  have e1:us=[]:=MV.1 (by simpa using h1);have e2:vs=[]:=MV.1 (by simpa using h2);subst e1;subst e2;exact h
 |k::ks,x::xs,y::ys,r,h,us,vs,h1,h2,h3,h4=>by
  match us,vs,h1,h2,h3,h4 with
  |u::us,v::vs,h1,h2,h3,h4=>
   simp only[BX]at h;split at h
   ·rename_i p q hp hq;have a1:=zjt hp (h3 0 x u rfl rfl) (h4 0 y v rfl rfl);have a2:=Pw hq (us:=us) (vs:=vs) (by simpa using h1) (by simpa using h2) (λi c z e1 e2=>h3 (i+1) c z (by simpa using e1) (by simpa using e2)) (λi c z e1 e2=>h4 (i+1) c z (by simpa using e1) (by simpa using e2));simp[lX,a1,a2,<-h]
   ·cases h
 |[],[],_::_,_,h,_,_,_,_,_,_=>by simp[BX]at h
 |[],_::_,_,_,h,_,_,_,_,_,_=>by simp[BX]at h
 |_::_,[],_,_,h,_,_,_,_,_,_=>by simp[BX]at h
 |_::_,_::_,[],_,h,_,_,_,_,_,_=>by simp[BX]at h
def Sk (k:IntKind)(a b:Int):Int:=k.wrap (BitVec.ofInt k.bits a&&&BitVec.ofInt k.bits b).toNat
def HM (k:IntKind)(a b:Int):Int:=k.wrap (BitVec.ofInt k.bits a|||BitVec.ofInt k.bits b).toNat
def Aw (k:IntKind)(a b:Int):Int:=k.wrap (BitVec.ofInt k.bits a^^^BitVec.ofInt k.bits b).toNat
def I4 (k:IntKind)(a b:Int):Int:=k.wrap (BitVec.ofInt k.bits a&&& ~~~BitVec.ofInt k.bits b).toNat
def QY (op:BinOp)(k:IntKind)(a b:Int):Option Value:=
 match op with
 |.and=>some (.int k (Sk k a b))
 |.or=>some (.int k (HM k a b))
 |.xor=>some (.int k (Aw k a b))
 |.andNot=>some (.int k (I4 k a b))
 |.add=>some (.int k (k.wrap (a+b)))
 |.sub=>some (.int k (k.wrap (a-b)))
 |.mul=>some (.int k (k.wrap (a*b)))
 |.eql=>some (.bool (decide (a=b)))
 |.neq=>some (.bool (!decide (a=b)))
 |.lss=>some (.bool (decide (a<b)))
 |.leq=>some (.bool (decide (a<=b)))
 |.gtr=>some (.bool (decide (b<a)))
 |.geq=>some (.bool (decide (b<=a)))
 |.rem=>if b=0 then none else some (.int k (a.tmod b))
 |.quo=>if b=0 then none else some (.int k (k.wrap (a.tdiv b)))
 |_=>none
def NW (op:BinOp)(a b:ByteArray):Option Value:=
 match op with
 |.eql=>some (.bool (decide (a=b)))
 |.neq=>some (.bool (!decide (a=b)))
 |.lss=>some (.bool (Op.bytesLess a.toList b.toList))
 |.leq=>some (.bool (Op.bytesLess a.toList b.toList||decide (a=b)))
 |.gtr=>some (.bool (!(Op.bytesLess a.toList b.toList||decide (a=b))))
 |.geq=>some (.bool (!Op.bytesLess a.toList b.toList))
 |_=>none
def D4 :AV->Option (List AV)
 |.agg cs=>some cs
 |.d (.agg cs)=>some (cs.map .d)
 |_=>none
def SL (op:BinOp)(ti:TI):AV->AV->Option AV
 |.d (.v (.int k a)),.d (.v (.int k' b))=>if k=k' then(QY op k a b).map λv=>.d (.v v)else none
 |.d (.v (.string a)),.d (.v (.string b))=>(NW op a b).map λv=>.d (.v v)
 |.d (.v (.bool a)),.d (.v (.bool b))=>if ti.k=.bool then match op with
   |.eql=>some (.d (.v (.bool (decide (a=b)))))
   |.neq=>some (.d (.v (.bool (!decide (a=b)))))
   |_=>none
  else none
 |x,y=>match D4 x,D4 y with
  |some cs,some ds=>match ti.fl with
   |some ks=>if ti.agg=true/\ti.eg=false then match BX ks cs ds with
     |some r=>match op with
      |.eql=>some (.d (.v (.bool r)))
      |.neq=>some (.d (.v (.bool (!r))))
      |_=>none
     |none=>none
    else none
   |none=>none
  |_,_=>none
theorem S8 {σ:Names}{I:Nat->Prop}{w:World}{x:AV}{v:Value}{cs:List AV}(h:RV σ I w x v)(hc:D4 x=some cs):
  ∃xs:List Value,v=.agg xs.toArray/\xs.length=cs.length/\∀(i:Nat) c y,cs[i]? =some c->xs[i]? =some y->RV σ I w c y:=by
 unfold D4 at hc;split at hc
 ·cases hc;cases h with
  |agg hl hr=>exact⟨_,rfl,hl,hr⟩
 ·cases hc;cases h with
  |d h=>
   cases h with
   |agg hl hr=>
    refine⟨_,rfl,by simpa using hl,λi c y h1 h2=>?_⟩;simp at h1;obtain⟨z,hz,rfl⟩:=h1;exact .d (hr i z y hz h2)
 ·cases hc
theorem zev {P:Program}{o:Oper}{op:BinOp}{T T':TypeId}{x y:Operand}(ho:o.op=.binOp op T x y T')(tm:Nat->AV)(m:Mem)(nm:Nat){ti:TI}(hT:aS P T=some ti){r:AV}
  (hr:SL op ti (ev tm x) (ev tm y)=some r):bJ P o tm m nm r m:=by
 refine bJ.pure λa w σ I h _=>?_;have hx:=dG (σ:=σ) (I:=I) (w:=w) (tm:=tm) (a:=a) (x:=x) λs e=>h s (by simp[ho,Op.operands,e]);have hy:=dG (σ:=σ) (I:=I) (w:=w) (tm:=tm) (a:=a) (x:=y) λs e=>h s (by simp[ho,Op.operands,e])
 have fin:∀v,(do eqGuard op T x y (a.eval x) (a.eval y);binOp op T (a.eval x) (a.eval y):Sem Value).run P w=.ok v w->RV σ I w r v->
   ∃v,(execOp a.eval o).run P w=.ok (.value v) w/\RV σ I w r v:=by
  intro v h1 h2;refine⟨v,?_,h2⟩;simp only[execOp,ho,dS,h1];rfl
 revert hr hx hy fin;generalize ev tm x=A;generalize ev tm y=B;intro hr hx hy fin;unfold SL at hr;split at hr
 ·rename_i k p k' q;have e1:=eF hx;have e2:=eF hy;split at hr
  ·rename_i hk;subst hk;rw[e1,e2]at fin;cases hv:QY op k p q with
   |none=>simp[hv]at hr
   |some v=>
    simp[hv]at hr;subst hr;refine fin v ?_ (.d (.v _));cases op<;>simp only[QY]at hv<;>first
     | (cases hv;done)
     | (cases hv;simp[eqGuard,binOp,Op.intArith,Op.intCmp];done)
     | (cases hv;simp[eqGuard,binOp,Op.intBits,Sk,HM,Aw,I4];done)
     | (split at hv<;>first| (cases hv;done)| (rename_i h0;cases hv;simp[eqGuard,binOp,Op.intDiv,h0];done))
     | (cases hv;simp[eqGuard,binOp,Op.intCmp];rfl)
  ·cases hr
 ·rename_i p q;have e1:=eF hx;have e2:=eF hy;rw[e1,e2]at fin;cases hv:NW op p q with
  |none=>simp[hv]at hr
  |some v=>
   simp[hv]at hr;subst hr;refine fin v ?_ (.d (.v _));cases op<;>simp[NW]at hv<;>(subst hv;simp[eqGuard,binOp,Op.stringOp,SM];done)
 ·rename_i p q;have e1:=eF hx;have e2:=eF hy;rw[e1,e2]at fin;split at hr
  ·rename_i hk;obtain⟨d,_,hd,hkd⟩:=VQ (w:=w) hT;have hd':d=.bool:=by
    rw[hk]at hkd;cases d<;>simp[iS]at hkd<;>rfl
   subst hd';split at hr
   ·cases hr;refine fin (.bool (decide (p=q))) ?_ (.d (.v _));simp[eqGuard,binOp,Op.equal,Op.maxDepth,run_equalIn_bool w 9999 T p q hd];rfl
   ·cases hr;refine fin (.bool (!decide (p=q))) ?_ (.d (.v _));simp[eqGuard,binOp,Op.equal,Op.maxDepth,run_equalIn_bool w 9999 T p q hd];rfl
   ·cases hr
  ·cases hr
 ·split at hr
  ·rename_i cs ds hcs hds;obtain⟨xs,ex,lx,rx⟩:=S8 hx hcs;obtain⟨ys,ey,ly,ry⟩:=S8 hy hds;rw[ex,ey]at fin;split at hr
   ·rename_i ks hks;split at hr
    ·rename_i hg;obtain⟨hg1,hg2⟩:=hg;split at hr
     ·rename_i p hp;have hv:=Pw hp lx ly rx ry;obtain⟨i,d,z,hi,hd,hz,hti⟩:=jO hT;have hfl:pR P 8 T=some ks:=by rw[hti]at hks;exact hks
      have hag:jV d=true:=by
       rw[hti]at hg1;cases d<;>simp[TI.agg,iS]at hg1<;>rfl
      have heq:=Fk 8 10000 T ks d hfl (by omega) hd xs ys p hv w;simp only[hag,mk,fK]at heq;have hguard:∀op,(eqGuard op T x y (.agg xs.toArray) (.agg ys.toArray)).run P w=.ok () w:=λop=>
       run_eqGuard_agg w op T x y _ _ (by rw[hti]at hg2;exact hg2)
      split at hr
      ·cases hr;refine fin (.bool p) ?_ (.d (.v _));simp only[dS,hguard,fB,run_eql_struct,heq]
      ·cases hr;refine fin (.bool (!p)) ?_ (.d (.v _));simp only[dS,hguard,fB,run_neq_struct,heq]
      ·cases hr
     ·cases hr
    ·cases hr
   ·cases hr
  ·cases hr
def NF (op:UnOp):AV->Option AV
 |.d (.v (.bool b))=>match op with
  |.not=>some (.d (.v (.bool (!b))))
  |_=>none
 |.d (.v (.int k n))=>match op with
  |.neg=>some (.d (.v (.int k (k.wrap (0-n)))))
  |_=>none
 |_=>none
theorem zdW {P:Program}{o:Oper}{op:UnOp}{T:TypeId}{x:Operand}(ho:o.op=.unOp op T x)(tm:Nat->AV)(m:Mem)(nm:Nat){r:AV}
  (hr:NF op (ev tm x)=some r):bJ P o tm m nm r m:=by
 refine bJ.pure λa w σ I h _=>?_;have hx:=dG (σ:=σ) (I:=I) (w:=w) (tm:=tm) (a:=a) (x:=x) λs e=>h s (by simp[ho,Op.operands,e]);have fin:∀v,(Op.unary op (a.eval x)).run P w=.ok v w->RV σ I w r v->∃v,(execOp a.eval o).run P w=.ok (.value v) w/\RV σ I w r v:=
  λv h1 h2=>⟨v,by simp[execOp,ho,h1],h2⟩
 revert hr hx fin;generalize ev tm x=A;intro hr hx fin;unfold NF at hr;split at hr
 ·rw[eF hx]at fin;split at hr
  ·cases hr;refine fin _ ?_ (.d (.v _));simp[Op.unary]
  ·cases hr
 ·rw[eF hx]at fin;split at hr
  ·cases hr;refine fin _ ?_ (.d (.v _));simp[Op.unary,Op.intArith]
  ·cases hr
 ·cases hr
def FQ (off:Nat):AV->Option AV
 |.ptr b o=>some (.ptr b (o+off))
 |.gR b sz i o=>some (.gR b sz i (o+off))
 |.d (.bE cs)=>some (.d (.bE (cs.drop off)))
 |_=>none
theorem Pr {σ:Names}{I:Nat->Prop}{w:World}{off:Nat}{x r:AV}{v:Value}(hr:FQ off x=some r)(h:RV σ I w x v):
  ∃ad,v=.pointer (some ad)/\RV σ I w r (.pointer (some (ad.add off))):=by
 unfold FQ at hr;split at hr
 ·cases hr;cases h with
  |ptr h=>exact⟨_,rfl,by rw[add_plain];exact .ptr h⟩
 ·cases hr;cases h with
  |gR h=>exact⟨_,rfl,by rw[add_plain,Nat.add_assoc];exact .gR h⟩
 ·cases hr;cases h with
  |d h=>
   cases h with
   |bE val hI hc hrr hone=>
    refine⟨_,rfl,?_⟩;rw[add_plain];refine .d (.bE (λj=>val (off+j)) hI (λj c hj=>?_) (λj c hj=>?_) (λj c hj=>by rw[CN]at hj;exact hone _ c hj));all_goals grind
 ·cases hr
def RK (P:Program)(ti:TI)(f:Nat):Option Nat:=
 match ti.k with
 |.dN fs=>match fs[f]? with
  |some (off,t,_)=>if bV P t=0 then none else some off
  |none=>none
 |_=>none
theorem zej {P:Program}{o:Oper}{T:TypeId}{x:Operand}{f:Nat}(ho:o.op=.fieldAddr T x f)(tm:Nat->AV)(m:Mem)(nm:Nat){ti:TI}(hT:aS P T=some ti){off:Nat}(hf:RK P ti f=some off){r:AV}
  (hr:FQ off (ev tm x)=some r):bJ P o tm m nm r m:=by
 refine bJ.pure λa w σ I h _=>?_;obtain⟨ad,hv,hres⟩:=Pr hr (dG (σ:=σ) (I:=I) (w:=w) (tm:=tm) (a:=a) (x:=x) λs e=>h s (by simp[ho,Op.operands,e]));refine⟨_,?_,hres⟩;obtain⟨i,d,z,hi,hd,hz,rfl⟩:=jO hT;unfold RK at hf;split at hf
 ·rename_i fs hk;cases d<;>simp[iS]at hk;rename_i fields;subst hk;split at hf
  ·rename_i off' t bl hq;split at hf
   ·cases hf
   ·rename_i hsz;cases hf;simp at hq;obtain⟨fd,hfd,e1,e2,_⟩:=hq;have hfd':fields[f]? =some fd:=by omega
    subst e1;subst e2;have hsize:(sizeOf fd.type).run P w=.ok (bV P fd.type) w:=by
     unfold bV at hsz⊢;cases hq:P.info? fd.type with
     |none=>simp[hq]at hsz
     |some i=>simp[sizeOf,typeInfo,hq]
    simp[execOp,ho,Instr.fieldAt,cZ hd,hfd',Instr.sureAddr,hv,fieldPlace,hsize,hsz]
  ·cases hf
 ·cases hf
theorem zek {P:Program}{o:Oper}{T:TypeId}{x:Operand}{f:Nat}(ho:o.op=.field T x f)(tm:Nat->AV)(m:Mem)(nm:Nat){ti:TI}(hT:aS P T=some ti){fs:List (Nat×Nat×Bool)}(hk:ti.k=.dN fs)
  {off t:Nat} {bl:Bool} (hf:fs[f]? =some (off,t,bl)) {tf:TI} (htf:aS P t=some tf) {cs:List AV} (hx:D4 (ev tm x)=some cs) {r:AV} (hr:tD tf.agg tf.sz off cs=some r):bJ P o tm m nm r m:=by
 refine bJ.pure λa w σ I h _=>?_;obtain⟨xs,ex,lx,rx⟩:=S8 (dG (σ:=σ) (I:=I) (w:=w) (tm:=tm) (a:=a) (x:=x) λs e=>h s (by simp[ho,Op.operands,e])) hx;obtain⟨i,d,z,hi,hd,hz,rfl⟩:=jO hT;cases d<;>simp[iS]at hk;rename_i fields;subst hk;simp at hf;obtain⟨fd,hfd,rfl,rfl,_⟩:=hf;have hfd':fields[f]? =some fd:=by omega
 obtain⟨i',d',z',hi',hd',hz',rfl⟩:=jO htf;have hsz:bV P fd.type=i'.size:=Cu hi';have key:∃v,(part fd.type xs.toArray fd.offset).run P w=.ok v w/\RV σ I w r v:=by
  unfold tD at hr;cases hg:jV d' with
  |true=>
   have hg':(TI.mk i'.size i'.bytes z'.cells.toList (iS d') (P.eqGuardType P.depth fd.type) (pR P 8 fd.type) (DP z')).agg=true:=by
    cases d'<;>simp[jV]at hg<;>rfl
   simp only[hg',fK]at hr;split at hr
   ·rename_i hle;cases hr;refine⟨_,G4 hd' (xs:=xs) (off:=fd.offset) (by rw[hsz];omega) (λh=>by rw[hg]at h;cases h),?_⟩;simp only[hg,fK,hsz];refine .agg (by simp;omega) (λj c y h1 h2=>?_);have hj:j<i'.size:=by
     rcases y9 j i'.size with h|h
     ·exact h
     ·rw[List.getElem?_take_eq_none h]at h1;cases h1
    simp only[TM hj,CN]at h1 h2;exact rx _ c y h1 h2
   ·cases hr
  |false=>
   have hg':(TI.mk i'.size i'.bytes z'.cells.toList (iS d') (P.eqGuardType P.depth fd.type) (pR P 8 fd.type) (DP z')).agg=false:=by
    cases d'<;>simp[jV]at hg<;>rfl
   simp only[hg',iO]at hr;have hlt:fd.offset<xs.length:=by
    have:=(cE.1 hr).1;omega
   refine⟨xs[fd.offset],?_,rx _ r _ hr (bO hlt)⟩;simp[part,E3 hd',hg,hlt]
 obtain⟨v,h1,h2⟩:=key;exact⟨v,by simp[execOp,ho,Instr.field,cZ hd,hfd',ex,asAgg,h1],h2⟩
def FJ (k:K)(sz:Nat)(mem:Mem)(x i:AV):Option aN:=
 match k,i with
 |.arr n _,.d (.v (.int _ j))=>if 0<=j/\j<n then(FQ (j.toNat*sz) x).map λr=>⟨r,[],[]⟩else none
 |.dX _,.d (.v (.int _ j))=>match x with
  |.d (.ro _ es)=>match es[j.toNat]? with
   |some e=>if 0<=j/\e.length=sz then some ⟨.d (.bE e),[],[]⟩else none
   |none=>none
  |.own b=>match mem b with
   |some (.grow z es _)=>if 0<=j/\j<es.length/\z=sz then some ⟨.gR b sz j.toNat 0,[b],[]⟩else none
   |_=>none
  |.sl b z i0 len=>if 0<=j/\j<len/\z=sz then some ⟨.gR b sz (i0+j.toNat) 0,[],[]⟩else none
  |_=>none
 |_,_=>none
theorem TD {σ:Names}{I:Nat->Prop}{w:World}{k:IntKind}{n:Int}{y:Value}(h:RV σ I w (.d (.v (.int k n))) y):y=.int k n:=eF h
theorem WQ {P:Program}{o:Oper}{T E:TypeId}{x i:Operand}(ho:o.op=.indexAddr T x i)(tm:Nat->AV)(mem:Mem)(nm:Nat){ti:TI}(hT:aS P T=some ti)(hE:(∃n,ti.k=.arr n E)\/ti.k=.dX E){te:TI}(hTe:aS P E=some te){e:aN}
  (he:FJ ti.k te.sz mem (ev tm x) (ev tm i)=some e):bJ P o tm (e.mr mem) nm e.res (e.mw mem):=by
 have hwr:e.wr=[]:=by
  unfold FJ at he
  repeat' split at he
  all_goals first
   | (cases he;done)
   | (cases he;rfl)
   | (simp at he;obtain⟨_,_,rfl⟩:=he;rfl)
 have hmw:e.mw mem=e.mr mem:=by
  obtain⟨r,rd,wr⟩:=e;simp only at hwr;subst hwr;exact aN.vC _ _ _
 rw[hmw];refine bJ.pure λa w σ I h hm=>?_;have hx:=dG (σ:=σ) (I:=I) (w:=w) (tm:=tm) (a:=a) (x:=x) λs e=>h s (by simp[ho,Op.operands,e]);have hi:=dG (σ:=σ) (I:=I) (w:=w) (tm:=tm) (a:=a) (x:=i) λs e=>h s (by simp[ho,Op.operands,e]);obtain⟨inf,d,z,hinf,hd,hz,hti⟩:=jO hT;have fin:∀v,(Instr.indexAt T (a.eval x) (a.eval i)).run P w=.ok v w->RV σ I w e.res v->∃v,(execOp a.eval o).run P w=.ok (.value v) w/\RV σ I w e.res v:=
  λv h1 h2=>⟨v,by simp[execOp,ho,h1],h2⟩
 have hsz:=sX (w:=w) hTe;revert he hx hi fin hm;generalize ev tm x=A;generalize ev tm i=B;intro he hm hx hi fin;unfold FJ at he;split at he
 ·rename_i n E' k j hk;rw[TD hi]at fin;have hEE:E'=E:=by
   rcases hE with⟨n',h⟩|h
   ·rw[hk]at h;cases h;rfl
   ·rw[hk]at h;cases h
  subst hEE;rw[hti]at hk;simp only at hk;cases d<;>simp[iS]at hk;obtain⟨rfl,rfl⟩:=hk;split at he
  ·rename_i hb;cases hr:FQ (j.toNat*te.sz) A with
   |none=>simp[hr]at he
   |some r=>
    simp[hr]at he;subst he;obtain⟨ad,hv,hres⟩:=Pr hr hx;rw[hv]at fin;refine fin _ ?_ hres;simp[Instr.indexAt,asIntOf,cZ hd,Instr.sureAddr,hb,hsz]
  ·cases he
 ·rename_i E' k j hk;rw[TD hi]at fin;have hEE:E'=E:=by
   rcases hE with⟨n',h⟩|h
   ·rw[hk]at h;cases h
   ·rw[hk]at h;cases h;rfl
  subst hEE;rw[hti]at hk;simp only at hk;cases d<;>simp[iS]at hk;subst hk;split at he
  ·rename_i fc es;split at he
   ·rename_i el hel;split at he
    ·rename_i hb;cases he;cases hx with
     |d hx=>
      generalize hy:a.eval x=y at hx fin;cases hx with
      |nil=>simp at hel
      |emp=>simp at hel
      |ro val hI hss hcap hmax hfc hc hrr hone=>
       rename_i sz blk off cap;have hlt:j.toNat<es.length:=(cE.1 hel).1;have hsz':sz=te.sz:=by rw[<-hss el (gT hel)];exact hb.2
       subst hsz';refine fin (.pointer (some ((⟨blk,off,none⟩:Addr).add (j.toNat*te.sz)))) ?_ ?_
       ·have h1:0<=j/\j<(es.length:Int):=by omega
        simp[Instr.indexAt,asIntOf,cZ hd,h1,hsz]
       ·rw[add_plain];exact .d (.bE (λq=>val j.toNat q) hI (λq c hq=>hc _ el q c hel hq) (λq c hq=>hrr _ el q c hel hq) (λq c hq=>hone _ el q c hel hq))
    ·cases he
   ·cases he
  ·rename_i b;split at he
   ·rename_i zz es T' hb;split at he
    ·rename_i hc;obtain⟨c1,c2,rfl⟩:=hc;cases he;obtain⟨y,hy,hrb⟩:=hm.grow (aN.kY hb (.inl (by simp)));generalize hev:a.eval x=u at hx fin;cases hx with
     |own h=>
      rw[hy]at h;cases h;rcases hrb with⟨rfl,rfl⟩|⟨_,rfl,rfl⟩|⟨n,cap,arr,rfl,g1,g2,g3,g4,g5,g6⟩
      ·simp at c2;omega
      ·simp at c2;omega
      ·refine fin (.pointer (some ((⟨n,0,none⟩:Addr).add (j.toNat*te.sz)))) ?_ ?_
       ·have h1:0<=j/\j<(es.length:Int):=⟨c1,c2⟩;simp[Instr.indexAt,asIntOf,cZ hd,h1,hsz]
       ·rw[add_plain];have:=RV.gR (σ:=σ) (I:=I) (w:=w) (b:=b) (sz:=te.sz) (i:=j.toNat) (off:=0) hy;simpa using this
    ·cases he
   ·cases he
  ·rename_i b zz i0 len;split at he
   ·rename_i hc;obtain⟨c1,c2,rfl⟩:=hc;cases he;generalize hev:a.eval x=u at hx fin;cases hx with
    |sl h hs=>
     cases hs with
     |nil=>omega
     |none=>omega
     |some hcc hll=>
     rename_i n L cap C;refine fin (.pointer (some ((⟨n,i0*te.sz,none⟩:Addr).add (j.toNat*te.sz)))) ?_ ?_
     ·have h1:0<=j/\j<(len:Int):=⟨c1,c2⟩;simp[Instr.indexAt,asIntOf,cZ hd,h1,hsz]
     ·rw[add_plain,<-kC];have:=RV.gR (σ:=σ) (I:=I) (w:=w) (b:=b) (sz:=te.sz) (i:=i0+j.toNat) (off:=0) h;simpa using this
   ·cases he
  ·cases he
 ·cases he
theorem zel {P:Program}{o:Oper}{x:Operand}{i:Nat}(ho:o.op=.extract x i)(tm:Nat->AV)(m:Mem)(nm:Nat){vs:List AV}(hx:ev tm x=.aU vs){r:AV}(hr:vs[i]? =some r):bJ P o tm m nm r m:=by
 refine bJ.pure λa w σ I h _=>?_;have hx':=dG (σ:=σ) (I:=I) (w:=w) (tm:=tm) (a:=a) (x:=x) λs e=>h s (by simp[ho,Op.operands,e]);rw[hx]at hx';generalize he:a.eval x=u at hx';cases hx' with
 |aU hl hrr=>
  rename_i xs;have hlt:i<xs.length:=by grind
  refine⟨xs[i],?_,hrr i r _ hr (bO hlt)⟩;simp[execOp,ho,he,Instr.extract,hlt]
theorem XL {α β:Type}{f:α->β}{l:List α}{a b:β}(h:l.map f=[a,b]):∃x y,l=[x,y]/\f x=a/\f y=b:=by
 match l with
 |[]=>cases h
 |[_]=>cases h
 |[x,y]=>cases h;exact⟨x,y,rfl,rfl,rfl⟩
 |_::_::_::_=>cases h
theorem XM {α β:Type}{f:α->β}{l:List α}{a b c:β}(h:l.map f=[a,b,c]):∃x y z,l=[x,y,z]/\f x=a/\f y=b/\f z=c:=by
 match l with
 |[]=>cases h
 |x::r=>simp at h;obtain⟨y,z,rfl,h2,h3⟩:=XL h.2;exact⟨x,y,z,rfl,h.1,h2,h3⟩
theorem zfI {α β:Type}{f:α->β}{l:List α}{a b c d:β}(h:l.map f=[a,b,c,d]):∃x y z t,l=[x,y,z,t]/\f x=a/\f y=b/\f z=c/\f t=d:=by
 match l with
 |[]=>cases h
 |x::r=>simp at h;obtain⟨y,z,t,rfl,h2,h3,h4⟩:=XM h.2;exact⟨x,y,z,t,rfl,h.1,h2,h3,h4⟩
def QB :List AV->Option AV
 |[.d (.v (.int k a)),.d (.v (.int _ b))]=>some (.d (.v (.int k (if b<a then b else a))))
 |[.d (.v (.int k a)),.d (.v (.int _ b)),.d (.v (.int _ c))]=>some (.d (.v (.int k (if c<(if b<a then b else a)then c else(if b<a then b else a)))))
 |_=>none
def QD :List AV->Option AV
 |[.d (.v (.int k a)),.d (.v (.int _ b))]=>some (.d (.v (.int k (if a<b then b else a))))
 |[.d (.v (.int k a)),.d (.v (.int _ b)),.d (.v (.int _ c))]=>some (.d (.v (.int k (if(if a<b then b else a)<c then c else(if a<b then b else a)))))
 |[.d (.v (.int k a)),.d (.v (.int _ b)),.d (.v (.int _ c)),.d (.v (.int _ d))]=>
  some (.d (.v (.int k (if(if(if a<b then b else a)<c then c else(if a<b then b else a))<d then d else(if(if a<b then b else a)<c then c else(if a<b then b else a))))))
 |_=>none
def IA (k:K)(mem:Mem):AV->Option aN
 |.d (.v (.string s))=>if k=.str then some ⟨.d (.v (.int .i64 s.size)),[],[]⟩else none
 |.d (.v (.slice none 0 0))=>match k with|.dX _=>some ⟨.d (.v (.int .i64 0)),[],[]⟩|_=>none
 |.d (.ro _ es)=>match k with|.dX _=>some ⟨.d (.v (.int .i64 es.length)),[],[]⟩|_=>none
 |.sl _ _ _ len=>match k with|.dX _=>some ⟨.d (.v (.int .i64 len)),[],[]⟩|_=>none
 |.own b=>match k,mem b with
  |.dX _,some (.grow _ es _)=>some ⟨.d (.v (.int .i64 es.length)),[b],[]⟩
  |_,_=>none
 |_=>none
theorem zd7 {P:Program}{o:Oper}{c:Call}(ho:o.op=.call c)(hc:c.callee=.builtin .min)(tm:Nat->AV)(m:Mem)(nm:Nat){r:AV}(hr:QB (c.args.toList.map (ev tm))=some r):bJ P o tm m nm r m:=by
 refine bJ.pure λa w σ I h _=>?_;have harg:∀x∈c.args.toList,RV σ I w (ev tm x) (a.eval x):=λx hx=>dG λs e=>h s (by subst e;simp[ho,Op.operands,Call.operands,hc];simpa using hx);have fin:∀v,(Builtin.min_ c.argTypes o.type (c.args.map a.eval)).run P w=.ok v w->RV σ I w r v->∃v,(execOp a.eval o).run P w=.ok (.value v) w/\RV σ I w r v:=
  λv h1 h2=>⟨v,by simp[execOp,ho,resolve,hc,invoke,builtin,h1],h2⟩
 simp only[Builtin.min_,TY]at fin;generalize c.args.toList=l at*;unfold QB at hr;split at hr
 ·rename_i k p k' q he;obtain⟨x,y,rfl,q1,q2⟩:=XL he
  ·have e1:=harg x (by simp);have e2:=harg y (by simp);rw[q1]at e1;rw[q2]at e2;rw[kE,kE,zC,eF e1,eF e2]at fin;cases hr;exact fin _ (by simp[Builtin.min2]) (.d (.v _))
 ·rename_i k p k' q k'' s he;obtain⟨x,y,z,rfl,q1,q2,q3⟩:=XM he
  ·have e1:=harg x (by simp);have e2:=harg y (by simp);have e3:=harg z (by simp);rw[q1]at e1;rw[q2]at e2;rw[q3]at e3;rw[kE,kE,kE,zC,eF e1,eF e2,eF e3]at fin;cases hr;exact fin _ (by simp[Builtin.min2]) (.d (.v _))
 ·cases hr
theorem zd8 {P:Program}{o:Oper}{c:Call}(ho:o.op=.call c)(hc:c.callee=.builtin .max)(tm:Nat->AV)(m:Mem)(nm:Nat){r:AV}(hr:QD (c.args.toList.map (ev tm))=some r):bJ P o tm m nm r m:=by
 refine bJ.pure λa w σ I h _=>?_;have harg:∀x∈c.args.toList,RV σ I w (ev tm x) (a.eval x):=λx hx=>dG λs e=>h s (by subst e;simp[ho,Op.operands,Call.operands,hc];simpa using hx);have fin:∀v,(Builtin.max_ c.argTypes o.type (c.args.map a.eval)).run P w=.ok v w->RV σ I w r v->∃v,(execOp a.eval o).run P w=.ok (.value v) w/\RV σ I w r v:=
  λv h1 h2=>⟨v,by simp[execOp,ho,resolve,hc,invoke,builtin,h1],h2⟩
 simp only[Builtin.max_,TY]at fin;generalize c.args.toList=l at*;unfold QD at hr;split at hr
 ·rename_i k p k' q he;obtain⟨x,y,rfl,q1,q2⟩:=XL he
  ·have e1:=harg x (by simp);have e2:=harg y (by simp);rw[q1]at e1;rw[q2]at e2;rw[kE,kE,zC,eF e1,eF e2]at fin;cases hr;exact fin _ (by simp[Builtin.max2]) (.d (.v _))
 ·rename_i k p k' q k'' s he;obtain⟨x,y,z,rfl,q1,q2,q3⟩:=XM he
  ·have e1:=harg x (by simp);have e2:=harg y (by simp);have e3:=harg z (by simp);rw[q1]at e1;rw[q2]at e2;rw[q3]at e3;rw[kE,kE,kE,zC,eF e1,eF e2,eF e3]at fin;cases hr;exact fin _ (by simp[Builtin.max2]) (.d (.v _))
 ·rename_i k p k' q k'' s k3 u he;obtain⟨x,y,z,t,rfl,q1,q2,q3,q4⟩:=zfI he
  ·have e1:=harg x (by simp);have e2:=harg y (by simp);have e3:=harg z (by simp);have e4:=harg t (by simp);rw[q1]at e1;rw[q2]at e2;rw[q3]at e3;rw[q4]at e4;rw[kE,kE,kE,kE,zC,eF e1,eF e2,eF e3,eF e4]at fin;cases hr;exact fin _ (by simp[Builtin.max2]) (.d (.v _))
 ·cases hr
theorem Jg {P:Program}{o:Oper}{c:Call}(ho:o.op=.call c)(hc:c.callee=.builtin .len)(tm:Nat->AV)(mem:Mem)(nm:Nat){T:TypeId}(hT:c.argTypes[0]? =some T){ti:TI}(hti:aS P T=some ti){x:Operand}(hx:c.args[0]? =some x){e:aN}
  (he:IA ti.k mem (ev tm x)=some e):bJ P o tm (e.mr mem) nm e.res (e.mw mem):=by
 have hwr:e.wr=[]:=by
  unfold IA at he
  repeat' split at he
  all_goals first
   | (cases he;done)
   | (cases he;rfl)
 have hmw:e.mw mem=e.mr mem:=by
  obtain⟨r,rd,wr⟩:=e;simp only at hwr;subst hwr;exact aN.vC _ _ _
 rw[hmw];refine bJ.pure λa w σ I h hm=>?_;have hmem:x∈c.args.toList:=by
  rw[<-zG]at hx;exact gT hx
 have hv:=dG (σ:=σ) (I:=I) (w:=w) (tm:=tm) (a:=a) (x:=x) λs e=>h s (by subst e;simp[ho,Op.operands,Call.operands,hc];simpa using hmem);have hxe:(c.args.map a.eval)[0]? =some (a.eval x):=by simp[hx]
 obtain⟨d,hdr,hd,hkd⟩:=VQ (w:=w) hti;have fin:∀v,(Builtin.len_ c.argTypes o.type (c.args.map a.eval)).run P w=.ok v w->RV σ I w e.res v->∃v,(execOp a.eval o).run P w=.ok (.value v) w/\RV σ I w e.res v:=
  λv h1 h2=>⟨v,by simp[execOp,ho,resolve,hc,invoke,builtin,h1],h2⟩
 simp only[Builtin.len_,hT,hxe]at fin;rw[<-hkd]at he;revert he hv fin hm;generalize ev tm x=A;generalize a.eval x=u;intro hm hv he fin;unfold IA at he;split at he
 ·rename_i s;cases d<;>simp[iS]at he;subst he;rw[eF hv]at fin;exact fin _ (by simp[cZ hd,goInt]) (.d (.v _))
 ·cases d<;>simp[iS]at he;subst he;rw[eF hv]at fin;exact fin (.int .i64 0) (by simp[cZ hd,goInt]) (.d (.v _))
 ·rename_i fc es;cases d<;>simp[iS]at he;subst he;cases hv with
  |d hv=>
   cases hv with
   |nil=>exact fin (.int .i64 0) (by simp[cZ hd,goInt]) (.d (.v _))
   |emp=>exact fin (.int .i64 0) (by simp[cZ hd,goInt]) (.d (.v _))
   |ro _ _ _ _ _ _ _ _ _=>exact fin (.int .i64 es.length) (by simp[cZ hd,goInt]) (.d (.v _))
 ·rename_i b z i len;cases d<;>simp[iS]at he;subst he;cases hv with
  |sl _ hs=>
   cases hs<;>exact fin (.int .i64 _) (by simp[cZ hd,goInt]) (.d (.v _))
 ·rename_i b;split at he
  ·rename_i E z es T' hk hb;cases d<;>simp[iS]at hk;cases he;obtain⟨y,hy,hrb⟩:=hm.grow (aN.kY hb (.inl (by simp)));cases hv with
   |own h=>
    rw[hy]at h;cases h;rcases hrb with⟨rfl,rfl⟩|⟨_,rfl,rfl⟩|⟨n,cap,arr,rfl,_⟩
    ·exact fin (.int .i64 0) (by simp[cZ hd,goInt]) (.d (.v _))
    ·exact fin (.int .i64 0) (by simp[cZ hd,goInt]) (.d (.v _))
    ·exact fin (.int .i64 es.length) (by simp[cZ hd,goInt]) (.d (.v _))
  ·cases he
 ·cases he
theorem Pc (off:Nat):∀(l:List Value) (k:Nat) (a:Array Value),off+k+l.length<=a.size->
  ((l.zipIdx k).foldl (λcs p=>cs.setIfInBounds (off+p.2) p.1) a).size=a.size/\
  ∀i,((l.zipIdx k).foldl (λcs p=>cs.setIfInBounds (off+p.2) p.1) a)[i]? =if off+k<=i/\i<off+k+l.length then l[i-(off+k)]? else a[i]?
 |[],k,a,_=>by
  refine⟨rfl,λi=>?_⟩;simp only[List.zipIdx_nil,List.foldl_nil,gZ,AX];rw[aT (by omega)]
 |x::l,k,a,h=>by
  simp only[jI]at h;obtain⟨h1,h2⟩:=Pc off l (k+1) (a.setIfInBounds (off+k) x) (by simp;omega);simp only[List.zipIdx_cons,pH];refine⟨by rw[h1];simp,λi=>?_⟩;rw[h2 i];simp only[jI];by_cases e:i=off+k
  ·subst e;rw[aT (by omega),aZ (by omega),Array.getElem?_setIfInBounds_self_of_lt (by omega)];simp
  ·by_cases hi:off+(k+1)<=i/\i<off+(k+1)+l.length
   ·rw[aZ hi,aZ (by omega)];have:i-(off+k)=(i-(off+(k+1)))+1:=by omega
    rw[this,JQ]
   ·rw[aT hi,aT (by omega),vU (by omega)]
def zY (place:Nat->Option (Nat×Nat))(cells:List AV):List (Nat×AV)->Option (List AV)
 |[]=>some cells
 | (i,v)::rest=>match place i,cellsOf v with
   |some (off,size),some cs=>if cs.length=size/\off+cs.length<=cells.length then zY place (lay cells off cs) rest else none
   |_,_=>none
theorem RJ {σ:Names}{I:Nat->Prop}{w:World}{place:Nat->Option (Nat×Nat)}:∀(parts:List (Nat×AV)) (vs:List (Nat×Value)) (cells:List AV) (arr:Array Value) (r:List AV),zY place cells parts=some r->
  vs.length=parts.length->(∀(j:Nat) p q,parts[j]? =some p->vs[j]? =some q->p.1=q.1/\RV σ I w p.2 q.2)->arr.size=cells.length->(∀(i:Nat) c x,cells[i]? =some c->arr[i]? =some x->RV σ I w c x)->
  ∃arr',Instr.fill place arr vs=some arr'/\arr'.size=r.length/\∀(i:Nat) c x,r[i]? =some c->arr'[i]? =some x->RV σ I w c x
 |[],[],cells,arr,r,h,_,_,ha,hr=>by cases h;exact⟨arr,rfl,ha,hr⟩
 | (i,v)::rest,(i',u)::vs,cells,arr,r,h,hl,hp,ha,hr=>by
   unfold zY at h;split at h
   ·rename_i off size cs hpl hcs;split at h
    ·rename_i hc;obtain⟨e1,hv⟩:=hp 0 _ _ rfl rfl;simp only at e1 hv;subst e1;obtain⟨l1,r1⟩:=JA hv hcs;obtain⟨s1,s2⟩:=Pc off u.cells.toList 0 arr (by simp;omega);have e2:u.cells.zipIdx.foldl (λcs p=>cs.setIfInBounds (off+p.2) p.1) arr=(u.cells.toList.zipIdx 0).foldl (λcs p=>cs.setIfInBounds (off+p.2) p.1) arr:=by
      rw[<-Array.foldl_toList,Array.toList_zipIdx]
     have lay1:(lay cells off cs).length=cells.length:=K7 _ _ _ hc.2;obtain⟨arr',f1,f2,f3⟩:=RJ rest vs (lay cells off cs) (u.cells.zipIdx.foldl (λcs p=>cs.setIfInBounds (off+p.2) p.1) arr) r h (by simpa using hl)
      (λj p q h1 h2=>hp (j+1) p q (by simpa using h1) (by simpa using h2)) (by rw[e2,s1,lay1];exact ha) (λj c x h1 h2=>by
        rw[K8 _ _ _ _ hc.2]at h1;rw[e2,s2 j]at h2;simp only[AX]at h2;have hlen:u.cells.toList.length=cs.length:=by simp;omega
        rw[hlen]at h2;split at h1
        ·rename_i hin;rw[aZ hin]at h2;exact r1 (j-off) c x h1 (by simpa using h2)
        ·rename_i hin;rw[aT hin]at h2;exact hr j c x h1 h2)
     refine⟨arr',?_,f2,f3⟩;unfold Instr.fill;simp only[hpl];rw[aT (by simp;omega)];exact f1
    ·cases h
   ·cases h
 |[],_::_,_,_,_,_,hl,_,_,_=>by simp at hl
 |_::_,[],_,_,_,_,hl,_,_,_=>by simp at hl
def SE (P:Program)(ti:TI)(parts:List (Nat×AV)):Option AV:=
 match ti.k with
 |.dN fs=>(zY (λi=>(fs[i]?).map λf=>(f.1,bV P f.2.1)) (ti.zero.map λv=>.d (.v v)) parts).map .agg
 |.arr _ e=>(zY (λi=>some (i*bV P e,bV P e)) (ti.zero.map λv=>.d (.v v)) parts).map .agg
 |_=>none
def X6 (P:Program)(fs:List (Nat×Nat×Bool)):Bool:=fs.all λf=>(aS P f.2.1).isSome
theorem Nq {P:Program}{t:TypeId}(h:(aS P t).isSome=true):(P.info? t).isSome=true:=by
 obtain⟨ti,h⟩:=y7.1 h;obtain⟨i,d,z,hi,_⟩:=jO h;simp[hi]
def QS (P:Program):K->Bool
 |.dN fs=>X6 P fs
 |.arr _ e=>(aS P e).isSome
 |_=>false
def RY :K->Bool
 |.iface _=>false
 |_=>true
theorem run_places {P:Program}{w:World}:∀(fs:List Field),(fs.all λf=>(P.info? f.type).isSome)=true->
  (fs.mapM λf=>do pure (f.offset,<-sizeOf f.type):Sem (List (Nat×Nat))).run P w=.ok (fs.map λf=>(f.offset,bV P f.type)) w
 |[],_=>by rw[List.mapM_nil];rfl
 |f::fs,h=>by
  simp only[yE,bL]at h;obtain⟨i,hi⟩:=y7.1 h.1;have hsz:(sizeOf f.type).run P w=.ok (bV P f.type) w:=by simp[sizeOf,typeInfo,hi,bV]
  rw[List.mapM_cons];simp only[dS,hsz,fB,oD,run_places fs h.2,kE]
theorem zet {P:Program}{o:Oper}{T:TypeId}{parts:Array (Nat×Operand)}(ho:o.op=.build T parts)(tm:Nat->AV)(m:Mem)(nm:Nat){ti:TI}(hT:aS P T=some ti)
  (hk:QS P ti.k=true) {r:AV} (hr:SE P ti (parts.toList.map λp=>(p.1,ev tm p.2))=some r):bJ P o tm m nm r m:=by
 refine bJ.pure λa w σ I h _=>?_;obtain⟨i,d,z,hi,hd,hz,rfl⟩:=jO hT;have hparts:∀(j:Nat) p q,(parts.toList.map λp=>(p.1,ev tm p.2))[j]? =some p->((parts.map λ(i,x)=>(i,a.eval x)).toList)[j]? =some q->p.1=q.1/\RV σ I w p.2 q.2:=by
  intro j p q h1 h2;simp only[jX,TY]at h1 h2;cases hx:parts.toList[j]? with
  |none=>simp[hx]at h1
  |some x=>
   rw[hx]at h1 h2;simp at h1 h2;subst h1;subst h2;refine⟨rfl,dG λs e=>h s ?_⟩;simp only[ho,Op.operands,List.mem_toArray,fU];exact⟨x,gT hx,e⟩
 have hzero:(zeroValue T).run P w=.ok z w:=by simp[zeroValue,typeInfo,hi,hz]
 have hz1:z.cells.size=(z.cells.toList.map λv=>AV.d (.v v)).length:=by simp
 have hz2:∀(i:Nat) c x,(z.cells.toList.map λv=>AV.d (.v v))[i]? =some c->z.cells[i]? =some x->RV σ I w c x:=by
  intro i c x h1 h2;simp at h1;obtain⟨y,hy,rfl⟩:=h1;rw[h2]at hy;cases hy;exact .d (.v _)
 have fin:∀arr' (l:List AV),(Instr.build T (parts.map λ(i,x)=>(i,a.eval x))).run P w=.ok (.agg arr') w->r=.agg l->arr'.size=l.length->(∀(i:Nat) c x,l[i]? =some c->arr'[i]? =some x->RV σ I w c x)->
   ∃v,(execOp a.eval o).run P w=.ok (.value v) w/\RV σ I w r v:=by
  intro arr' l h1 h2 h3 h4;refine⟨.agg arr',by simp[execOp,ho,h1],?_⟩;rw[h2,show arr'=arr'.toList.toArray by simp];exact .agg (by simpa using h3) (λi c x q1 q2=>h4 i c x q1 (by simpa using q2))
 simp only[SE]at hr;cases d<;>simp only[iS,QS]at hr hk<;>first| (cases hr;done)|skip
 ·rename_i n e;cases hfl:zY (λi=>some (i*bV P e,bV P e)) (z.cells.toList.map λv=>.d (.v v)) (parts.toList.map λp=>(p.1,ev tm p.2))with
  |none=>rw[hfl]at hr;cases hr
  |some l=>
   rw[hfl]at hr;simp at hr;obtain⟨arr',f1,f2,f3⟩:=RJ (σ:=σ) (I:=I) (w:=w) _ _ _ z.cells l hfl (by simp) hparts hz1 hz2;obtain⟨ie,hie⟩:=y7.1 (Nq hk);have hsz:(sizeOf e).run P w=.ok (bV P e) w:=by simp[sizeOf,typeInfo,hie,bV]
   refine fin arr' l ?_ hr.symm f2 f3;simp only[Instr.build,dS,hzero,fB,cZ hd,hsz,f1];rfl
 ·rename_i fields;cases hfl:zY (fun i=>((fields.toList.map fun f=>(f.offset,f.type,f.name== "_"))[i]?).map fun f=>(f.1,bV P f.2.1)) (z.cells.toList.map fun v=>.d (.v v)) (parts.toList.map fun p=>(p.1,ev tm p.2))with
  |none=>rw[hfl]at hr;cases hr
  |some l=>
   rw[hfl]at hr;simp only[tM,pX]at hr;have hpl:(fun(i:Nat)=>((fields.toList.map fun f=>(f.offset,f.type,f.name== "_"))[i]?).map fun(f:Nat×Nat×Bool)=>(f.1,bV P f.2.1))=fun(i:Nat)=>((fields.toList.map fun f=>(f.offset,bV P f.type)).toArray)[i]? :=by
    funext i;simp[Function.comp_def]
   rw[hpl]at hfl;obtain⟨arr',f1,f2,f3⟩:=RJ (σ:=σ) (I:=I) (w:=w) _ _ _ z.cells l hfl (by simp) hparts hz1 hz2;have hkn:(fields.toList.all λf=>(P.info? f.type).isSome)=true:=by
    simp only[X6,List.all_map,dP,Function.comp_apply]at hk⊢;exact λf hf=>Nq (hk f hf)
   have hplaces:(fields.mapM λf=>do pure (f.offset,<-sizeOf f.type):Sem (Array (Nat×Nat))).run P w=.ok (fields.toList.map λf=>(f.offset,bV P f.type)).toArray w:=by
    have e2:(fields.mapM λf=>do pure (f.offset,<-sizeOf f.type):Sem (Array (Nat×Nat)))=List.toArray<$>(fields.toList.mapM λf=>do pure (f.offset,<-sizeOf f.type)):=by
     rw[<-List.mapM_toArray]
    rw[e2,map_eq_pure_bind];simp only[dS,run_places _ hkn,fB,oD]
   refine fin arr' l ?_ hr.symm f2 f3;simp only[Instr.build,dS,hzero,fB,cZ hd,hplaces,f1];rfl
def W8 :AV->Bool
 |.ptr _ _=>true
 |.gR _ _ _ _=>true
 |.d (.bE _)=>true
 |.d (.gB _ _)=>true
 |.gB _ _=>true
 |.fn (.func _) _ _=>true
 |.d (.fn (.func _) _ _)=>true
 |.d (.v (.pointer (some _)))=>true
 |.d (.v (.func (.func _) _ _))=>true
 |_=>false
theorem zd4 {P:Program}{o:Oper}{x:Operand}(ho:o.op=.nilCheck x)(tm:Nat->AV)(m:Mem)(nm:Nat)(hx:W8 (ev tm x)=true):bJ P o tm m nm (ev tm x) m:=by
 refine bJ.pure λa w σ I h _=>?_;have hv:=dG (σ:=σ) (I:=I) (w:=w) (tm:=tm) (a:=a) (x:=x) λs e=>h s (by simp[ho,Op.operands,e]);refine⟨a.eval x,?_,hv⟩;simp only[execOp,ho];generalize a.eval x=u at hv;generalize ev tm x=A at hv hx;cases hv with
 |d hv=>
  cases hv with
  |v _=>
   cases u<;>first| (cases hx;done)|skip
   ·rename_i q;cases q<;>first| (cases hx;done)|rfl
   ·rename_i fn _ _;cases fn<;>first| (cases hx;done)|rfl
  | @fn f _ _ _ _ _ _ _ _=>cases f<;>first| (cases hx;done)|rfl
  |bE _ _ _ _=>rfl
  |gB _=>rfl
  |_=>cases hx
 | @fn f _ _ _ _ _ _ _ _=>cases f<;>first| (cases hx;done)|rfl
 |ptr _=>rfl
 |gR _=>rfl
 |gB _=>rfl
 |_=>cases hx
def XI (t:TypeId):AV->AV
 |.d x=>.d (.gB t x)
 |x=>.gB t x
theorem zeb {P:Program}{o:Oper}{T:TypeId}{x:Operand}(ho:o.op=.makeInterface T x)(tm:Nat->AV)(m:Mem)(nm:Nat){ti:TI}(hT:aS P T=some ti)(hk:RY ti.k=true):
  bJ P o tm m nm (XI T (ev tm x)) m:=by
 refine bJ.pure λa w σ I h _=>?_;have hv:=dG (σ:=σ) (I:=I) (w:=w) (tm:=tm) (a:=a) (x:=x) λs e=>h s (by simp[ho,Op.operands,e]);obtain⟨i,d,z,hi,hd,hz,rfl⟩:=jO hT;refine⟨.iface T (a.eval x),?_,?_⟩
 ·simp only[execOp,ho,Instr.makeInterface,dS,cZ hd];cases d<;>simp[iS,RY]at hk<;>rfl
 ·generalize ev tm x=A at hv;cases A<;>first
   | (cases hv with|d hv=>exact .d (.gB hv))
   |exact .gB hv
theorem zec {P:Program}{o:Oper}{f:Fn}{first captured:Array Operand}(ho:o.op=.makeFunc f first captured)(tm:Nat->AV)(m:Mem)(nm:Nat):
  bJ P o tm m nm (.fn f (first.toList.map (ev tm)) (captured.toList.map (ev tm))) m:=by
 refine bJ.pure λa w σ I h _=>?_;refine⟨.func f (first.map a.eval) (captured.map a.eval),by simp[execOp,ho,Instr.makeFunc],?_⟩;have key:∀(l:Array Operand),(∀x∈l.toList,RV σ I w (ev tm x) (a.eval x))->∀(i:Nat) c x,(l.toList.map (ev tm))[i]? =some c->(l.toList.map a.eval)[i]? =some x->RV σ I w c x:=by
  intro l hl i c x h1 h2;simp only[jX]at h1 h2;cases hx:l.toList[i]? with
  |none=>simp[hx]at h1
  |some y=>
   grind
 have e1:first.map a.eval=(first.toList.map a.eval).toArray:=by grind
 have e2:captured.map a.eval=(captured.toList.map a.eval).toArray:=by grind
 rw[e1,e2];exact .fn (by simp) (by simp)
  (key first (λx hx=>dG λs e=>h s (by subst e;simp[ho,Op.operands];exact .inl (by simpa using hx))))
  (key captured (λx hx=>dG λs e=>h s (by subst e;simp[ho,Op.operands];exact .inr (by simpa using hx))))
def Q0 (n:Nat)(agg:Bool)(sz:Nat)(x:AV):AV->Option AV
 |.d (.v (.int _ j))=>match D4 x with
  |some cs=>if 0<=j/\j<n then tD agg sz (j.toNat*sz) cs else none
  |none=>none
 |_=>none
def QZ (x:AV):AV->Option AV
 |.d (.v (.int _ j))=>match x with
  |.d (.v (.string s))=>match s[j.toNat]? with
   |some b=>if 0<=j then some (.d (.v (.int .u8 b.toNat)))else none
   |none=>none
  |_=>none
 |_=>none
theorem zbD {P:Program}{w:World}{σ:Names}{I:Nat->Prop}{t:TypeId}{ti:TI}(hT:aS P t=some ti){xs:List Value}{cs:List AV}{off:Nat}{r:AV}(hr:tD ti.agg ti.sz off cs=some r)(hl:xs.length=cs.length)
  (hx:∀(i:Nat) c y,cs[i]? =some c->xs[i]? =some y->RV σ I w c y):∃v,(part t xs.toArray off).run P w=.ok v w/\RV σ I w r v:=by
 obtain⟨i',d',z',hi',hd',hz',rfl⟩:=jO hT;have hsz:bV P t=i'.size:=Cu hi';unfold tD at hr;cases hg:jV d' with
 |true=>
  have hg':(TI.mk i'.size i'.bytes z'.cells.toList (iS d') (P.eqGuardType P.depth t) (pR P 8 t) (DP z')).agg=true:=by
   cases d'<;>simp[jV]at hg<;>rfl
  simp only[hg',fK]at hr;split at hr
  ·rename_i hle;cases hr;refine⟨_,G4 hd' (xs:=xs) (off:=off) (by rw[hsz];omega) (λh=>by rw[hg]at h;cases h),?_⟩;simp only[hg,fK,hsz];refine .agg (by simp;omega) (λj c y h1 h2=>?_)
   grind
  ·cases hr
 |false=>
  have hg':(TI.mk i'.size i'.bytes z'.cells.toList (iS d') (P.eqGuardType P.depth t) (pR P 8 t) (DP z')).agg=false:=by
   cases d'<;>simp[jV]at hg<;>rfl
  simp only[hg',iO]at hr;have hlt:off<xs.length:=by
   have:=(cE.1 hr).1;omega
  refine⟨xs[off],?_,hx _ r _ hr (bO hlt)⟩;simp[part,E3 hd',hg,hlt]
theorem zei {P:Program}{o:Oper}{T E:TypeId}{n:Nat}{x i:Operand}(ho:o.op=.index T x i)(tm:Nat->AV)(m:Mem)(nm:Nat){ti:TI}(hT:aS P T=some ti)(hE:ti.k=.arr n E){te:TI}(hTe:aS P E=some te){r:AV}
  (hr:Q0 n te.agg te.sz (ev tm x) (ev tm i)=some r):bJ P o tm m nm r m:=by
 refine bJ.pure λa w σ I h _=>?_;have hx:=dG (σ:=σ) (I:=I) (w:=w) (tm:=tm) (a:=a) (x:=x) λs e=>h s (by simp[ho,Op.operands,e]);have hi:=dG (σ:=σ) (I:=I) (w:=w) (tm:=tm) (a:=a) (x:=i) λs e=>h s (by simp[ho,Op.operands,e]);obtain⟨inf,d,z,hinf,hd,hz,rfl⟩:=jO hT;cases d<;>simp[iS]at hE;obtain⟨rfl,rfl⟩:=hE;have hsz:=sX (w:=w) hTe;revert hr hx hi;generalize ev tm i=B;intro hx hi hr;unfold Q0 at hr;split at hr<;>first| (cases hr;done)|skip
 split at hr
 ·rename_i cs hcs;split at hr
  ·rename_i hb;obtain⟨xs,ex,lx,rx⟩:=S8 hx hcs;obtain⟨v,h1,h2⟩:=zbD hTe hr lx rx;refine⟨v,?_,h2⟩;simp[execOp,ho,Instr.index,TD hi,ex,asIntOf,cZ hd,hb,hsz,h1]
  ·cases hr
 ·cases hr
theorem zeg {P:Program}{o:Oper}{T:TypeId}{x i:Operand}(ho:o.op=.index T x i)(tm:Nat->AV)(m:Mem)(nm:Nat){ti:TI}(hT:aS P T=some ti)(hE:ti.k=.str){r:AV}
  (hr:QZ (ev tm x) (ev tm i)=some r):bJ P o tm m nm r m:=by
 refine bJ.pure λa w σ I h _=>?_;have hx:=dG (σ:=σ) (I:=I) (w:=w) (tm:=tm) (a:=a) (x:=x) λs e=>h s (by simp[ho,Op.operands,e]);have hi:=dG (σ:=σ) (I:=I) (w:=w) (tm:=tm) (a:=a) (x:=i) λs e=>h s (by simp[ho,Op.operands,e]);obtain⟨inf,d,z,hinf,hd,hz,rfl⟩:=jO hT;cases d<;>simp[iS]at hE;revert hr hx hi;generalize ev tm x=A;generalize ev tm i=B;intro hr hx hi;unfold QZ at hr;split at hr<;>first| (cases hr;done)|skip
 split at hr<;>first| (cases hr;done)|skip
 split at hr
 ·rename_i b hb;split at hr
  ·rename_i h0;cases hr;refine⟨.int .u8 b.toNat,?_,.d (.v _)⟩;simp[execOp,ho,Instr.index,TD hi,eF hx,asIntOf,cZ hd,h0,hb]
  ·cases hr
 ·cases hr
structure X where
 tm:List (Nat×AV)
 mm:List (Nat×Option aY)
 nx:Nat
def cI :List (Nat×AV)->Nat->AV
 |[],_=>.any
 | (s,v)::r,t=>if s=t then v else cI r t
def cK :List (Nat×Option aY)->Nat->Option aY
 |[],_=>none
 | (c,k)::r,b=>if c=b then k else cK r b
def X.den (x:X):S:={tm:=cI x.tm,mm:=cK x.mm,fr:=λb=>x.nx<=b}
def zQ (dst:Option Nat)(v:AV)(l:List (Nat×AV)):List (Nat×AV):=
 match dst with
 |some d=>(d,v)::l
 |none=>l
def X.app (x:X)(dst:Option Nat)(e:aN):X:={tm:=zQ dst e.res x.tm,mm:=e.wr++x.mm,nx:=x.nx}
theorem Mo (l:List (Nat×Option aY))(r:List (Nat×Option aY))(b:Nat):cK (l++r) b=(wrote l b).getD (cK r b):=by
 induction l with
 |nil=>rfl
 |cons p l ih=>
  simp only[yD,cK,wrote];split<;>simp[ih]
theorem X.Qd (x:X)(dst:Option Nat)(e:aN):(x.app dst e).den.tm=(λt=>if dst=some t then e.res else x.den.tm t)/\(x.app dst e).den.mm=λb=>(wrote e.wr b).getD (x.den.mm b):=by
 refine⟨?_,?_⟩
 ·funext t
  cases dst with
  |none=>simp[X.den,X.app,zQ]
  |some d=>simp[X.den,X.app,zQ,cI]
 ·funext b
  simp[X.den,X.app,Mo]
def aN.qQ (e:aN):List Nat×List Nat:=(e.rd,e.wr.map (·.1))
def WH (o:Oper):List Nat:=o.op.operands.toList.filterMap λ|.tmp t=>some t|_=>none
def XQ (ops:Array Oper)(o:Oper):List Nat:=
 WH o++(match o.guard with
  |some (g,_)=>match ops[g]? with
   |some p=>p.dst.toList
   |none=>[]
  |none=>[])
def IU (o:Oper):List Nat:=o.after.toList.filterMap λe=>if Region.binds .any e then some e.on else none
def Ho (ops:List Oper):List (List Nat):=
 ops.foldl (λacc o=>acc++[((IU o)++(IU o).flatMap λe=>acc.getD e []).eraseDups]) []
def LU (a b:List Nat):Bool:=a.all λx=>!b.contains x
def meets (ops:Array Oper)(x y:Oper):Bool:=
 (match x.dst with
   |some d=>y.dst==some d|| (XQ ops y).contains d
   |none=>false)||
 (match y.dst with
   |some d=>(XQ ops x).contains d
   |none=>false)
def IV (ops:Array Oper)(pre:List (List Nat)):Bool:=
 (List.range ops.size).all λj=>
   match ops[j]? with
   |none=>true
   |some o=>
    (IU o).all (λe=>decide (e<j))&&
    (pre.getD j []).all (λi=>(IU o).any λe=>i==e|| (pre.getD e []).contains i)&&
    (List.range j).all λi=>(pre.getD j []).contains i|| (match ops[i]? with|some p=>!meets ops p o|none=>true)
def RC (pre:List (List Nat))(feet:List (List Nat×List Nat)):Bool:=
 (List.range feet.length).all λj=>(List.range j).all λi=>
   (pre.getD j []).contains i||
   (let a:=feet.getD i ([],[]);let b:=feet.getD j ([],[]);LU a.2 b.1&&LU a.2 b.2&&LU b.2 a.1)
def iY (es:List (List D))(n:Nat):Prop:=∀e∈es,e.length=n
@[simp] theorem lenAll_nil (n:Nat):iY [] n=True:=eq_true (λe h=>by cases h)
@[simp] theorem lenAll_cons (e:List D)(es:List (List D))(n:Nat):iY (e::es) n=(e.length=n/\iY es n):=by simp[iY]
@[simp] theorem lenAll_append (es fs:List (List D))(n:Nat):iY (es++fs) n=(iY es n/\iY fs n):=by
  simp only[iY,gU,eq_iff_iff];exact⟨λh=>⟨λe he=>h e (.inl he),λe he=>h e (.inr he)⟩,λh e he=>he.elim (h.1 e) (h.2 e)⟩
theorem tZ {α:Type}{f:α->List D}{n:Nat}(h:∀a,(f a).length=n)(l:List α):iY (l.map f) n=True:=by
 refine eq_true (λe he=>?_)
 grind
theorem zfV {es:List (List D)}{n:Nat}(k:Nat)(h:iY es n):iY (es.drop k) n:=λe he=>h e (yB he)
def GQ (sz:Nat)(mem:Mem):AV->Option (List (List D)×List Nat)
 |.d (.v (.slice none 0 0))=>some ([],[])
 |.d (.ro _ es)=>some (es,[])
 |.own b=>match mem b with
  |some (.grow z es _)=>if z=sz then some (es,[b])else none
  |_=>none
 |.sl b z i len=>match mem b with
  |some (.grow z' es _)=>if z=sz/\z'=sz/\i+len<=es.length then some ((es.drop i).take len,[b])else none
  |_=>none
 |_=>none
structure oP (I:Nat->Prop)(w:World)(sz:Nat)(es:List (List D))(v:Value)(a:Option Addr)(c:Nat)(val:Nat->Nat->Value):Prop where
 v:v=.slice a es.length c
 cap:es.length<=c
 max:c<=maxLen
 non:a=none->es=[]/\c=0
 cell:∀ad,a=some ad->∀(i:Nat) e (j:Nat) x,es[i]? =some e->e[j]? =some x->ad.spot=Option.none/\w.cell? ⟨ad.block,ad.off+i*sz+j,Option.none⟩=some (val i j)
 rd:∀(i:Nat) e (j:Nat) x,es[i]? =some e->e[j]? =some x->RD I w x (val i j)
 one:∀(i:Nat) e (j:Nat) x,es[i]? =some e->e[j]? =some x->(val i j).oneCell'=true
 len:∀e∈es,e.length=sz
theorem oP.nil {I:Nat->Prop}{w:World}{sz:Nat}:oP I w sz [] (.slice none 0 0) none 0 (λ_ _=>undef):=
 ⟨rfl,bY _,by simp[maxLen],(λ_=>⟨rfl,rfl⟩),(λ_ h=>by cases h),(λi e j x h=>by simp at h),(λi e j x h=>by simp at h),(λe h=>by cases h)⟩
theorem oP.emp {I:Nat->Prop}{w:World}{sz:Nat}(a:Addr):oP I w sz [] (.slice (some a) 0 0) (some a) 0 (λ_ _=>undef):=
 ⟨rfl,bY _,by simp[maxLen],(λh=>by cases h),(λ_ _ i e j x h=>by simp at h),(λi e j x h=>by simp at h),(λi e j x h=>by simp at h),(λe h=>by cases h)⟩
theorem Mr {I:Nat->Prop}{w:World}{sz:Nat}{fc:Bool}{es:List (List D)}{v:Value}(hs:∀e∈es,e.length=sz)(h:RD I w (.ro fc es) v):∃a c val,oP I w sz es v a c val:=by
 cases h with
 |nil=>exact⟨_,_,_,.nil⟩
 |emp=>exact⟨_,_,_,.emp _⟩
 | @ro z _ _ blk off cap val hI hsz hcap hmax hfc hc hr h1=>
   refine⟨_,_,val,rfl,hcap,hmax,(λh=>by cases h),(λad h i e j x he hx=>?_),(λi e j x he hx=>hr i e j x he hx),(λi e j x he hx=>h1 i e j x he hx),hs⟩
   grind
theorem Ms {σ:Names}{I:Nat->Prop}{w:World}{m:Mem}(hm:RM σ I w m){b sz:Nat}{es:List (List D)}{T:TypeId}(h:m b=some (.grow sz es T)){v:Value}(hv:RV σ I w (.own b) v):∃a c val,oP I w sz es v a c val:=by
 obtain⟨x,hx,hrb⟩:=hm.grow h;cases hv with
 |own h' _=>
  rw[hx]at h';cases h';rcases hrb with⟨rfl,rfl⟩|⟨a,rfl,rfl⟩|⟨n,cap,arr,rfl,g1,g2,g3,g4,g5,g6⟩
  ·exact⟨_,_,_,.nil⟩
  ·exact⟨_,_,_,.emp _⟩
  ·refine⟨_,_,(λi j=>arr.getD (i*sz+j) undef),rfl,g3,g4,(λh=>by cases h),(λad h i e j x he hx'=>?_),(λi e j x he hx'=>?_),(λi e j x he hx'=>?_),g5⟩
   ·cases h;obtain⟨q,hq,_⟩:=g6 i e j x he hx';rw[AB g1];simp[hq]
   ·obtain⟨q,hq,hr,_⟩:=g6 i e j x he hx';simpa[hq]using hr
   ·obtain⟨q,hq,_,ho⟩:=g6 i e j x he hx';simpa[hq]using ho
theorem XS {σ:Names}{I:Nat->Prop}{w:World}{m:Mem}(hm:RM σ I w m){b sz i len:Nat}{es:List (List D)}{T:TypeId}(h:m b=some (.grow sz es T))(hle:i+len<=es.length){v:Value}(hv:RV σ I w (.sl b sz i len) v):
  ∃a c val,oP I w sz ((es.drop i).take len) v a c val:=by
 obtain⟨x,hx,hrb⟩:=hm.grow h;have hl0:len=0->∀{v:Value} {a:Option Addr} {c:Nat} {val:Nat->Nat->Value},oP I w sz [] v a c val->oP I w sz ((es.drop i).take len) v a c val:=by
  rintro rfl v a c val h;simpa using h
 cases hv with
 |sl h' hs=>
  rw[hx]at h';cases h';cases hs with
  |nil=>exact⟨_,_,_,hl0 rfl .nil⟩
  |none a=>exact⟨_,_,_,hl0 rfl (.emp a)⟩
  |some hc hl=>
   rename_i n L cap c;rcases hrb with⟨e,_⟩|⟨a,e,rfl⟩|⟨n',cap',arr,e,g1,g2,g3,g4,g5,g6⟩
   ·cases e
   ·cases e;have:len=0:=by omega
    have hc0:c=0:=by omega
    subst hc0;exact⟨_,_,_,hl0 this (by subst this;exact .emp _)⟩
   ·cases e;have hlen:((es.drop i).take len).length=len:=by grind
    have get:∀k e,((es.drop i).take len)[k]? =some e->es[i+k]? =some e:=by
     grind
    refine⟨_,_,(λk j=>arr.getD ((i+k)*sz+j) undef),by rw[hlen],by omega,by omega,(λh=>by cases h),(λad h k e j x he hx'=>?_),(λk e j x he hx'=>?_),(λk e j x he hx'=>?_),(λe he=>g5 e (yB (pY he)))⟩
    ·cases h;obtain⟨q,hq,_⟩:=g6 (i+k) e j x (get k e he) hx';refine⟨rfl,?_⟩;rw[AB g1,<-kC];simp[hq]
    ·obtain⟨q,hq,hr,_⟩:=g6 (i+k) e j x (get k e he) hx';simpa[hq]using hr
    ·obtain⟨q,hq,_,ho⟩:=g6 (i+k) e j x (get k e he) hx';simpa[hq]using ho
theorem Dc {σ:Names}{I:Nat->Prop}{w:World}{sz:Nat}{mem mr:Mem}{x:AV}{v:Value}{es:List (List D)}{rd:List Nat}(h:GQ sz mem x=some (es,rd))(hs:∀e∈es,e.length=sz)(hv:RV σ I w x v)(hm:RM σ I w mr)
  (hr:∀b∈rd,∀k,mem b=some k->mr b=some k):∃a c val,oP I w sz es v a c val:=by
 unfold GQ at h;split at h
 ·cases h;rw[eF hv];exact⟨_,_,_,.nil⟩
 ·cases h;cases hv with
  |d hv=>exact Mr hs hv
 ·rename_i b;split at h
  ·rename_i z es' T hb;split at h
   ·rename_i hz;subst hz;cases h;exact Ms hm (hr b (by simp) _ hb) hv
   ·cases h
  ·cases h
 ·rename_i b z i len;split at h
  ·rename_i z' es' T hb;split at h
   ·rename_i hz;obtain⟨rfl,rfl,hle⟩:=hz;cases h;exact XS hm (hr b (by simp) _ hb) hle hv
   ·cases h
  ·cases h
 ·cases h
def l9 (sz n:Nat)(val:Nat->Nat->Value):List Value:=(List.range (n*sz)).map λq=>val (q/sz) (q%sz)
theorem xU (sz n:Nat)(val:Nat->Nat->Value):(l9 sz n val).length=n*sz:=by simp[l9]
theorem zhC {sz n:Nat}{val:Nat->Nat->Value}{q:Nat}{u:Value}(h:(l9 sz n val)[q]? =some u):q<n*sz/\0<sz/\q/sz<n/\q%sz<sz/\u=val (q/sz) (q%sz):=by
 have hlt:q<n*sz:=by have:=(cE.1 h).1;rwa[xU]at this
 have hsz:0<sz:=by
  grind
 refine⟨hlt,hsz,TL (by rwa[uO]),EH _ hsz,?_⟩;simp[l9,hlt]at h;exact h.symm
theorem Pf {sz n:Nat}{val:Nat->Nat->Value}{i j:Nat}(hi:i<n)(hj:j<sz):(l9 sz n val)[i*sz+j]? =some (val i j):=by
 have hlt:i*sz+j<n*sz:=by
  have:(i+1)*sz<=n*sz:=oQ sz hi;rw[kC,sN]at this;omega
 have h1:(i*sz+j)/sz=i:=by
  rw[uO,Nat.mul_add_div (by omega)];simp[Nat.div_eq_of_lt hj]
 have h2:(i*sz+j)%sz=j:=by
  rw[uO,Nat.mul_add_mod];exact TK hj
 simp[l9,hlt,h1,h2]
theorem oP.flat {I:Nat->Prop}{w:World}{sz:Nat}{es:List (List D)}{v:Value}{a:Option Addr}{c:Nat}{val:Nat->Nat->Value}(h:oP I w sz es v a c val){ad:Addr}(ha:a=some ad):
  ∀q u,(l9 sz es.length val)[q]? =some u->w.cell? (ad.add q)=some u:=by
 intro q u hq;obtain⟨h1,h2,h3,h4,rfl⟩:=zhC hq;have he:es[q/sz]? =some es[q/sz]:=bO h3;have hl:es[q/sz].length=sz:=h.len _ (mF _);obtain⟨g1,g2⟩:=h.cell ad ha (q/sz) _ (q%sz) _ he (bO (by omega));obtain⟨blk,off,spot⟩:=ad;simp only at g1;subst g1;rw[add_plain];rw[Nat.add_assoc,uO,Nat.div_add_mod]at g2;exact g2
structure Src (P:Program)(w:World)(u:TypeId)(size:Nat)(x:Value)(m:Nat)(news:List Value):Prop where
 kind:(∃e,P.underlying u=some (.slice e))\/P.underlying u=some .string
 len:(Builtin.lenOf x).run P w=.ok m w
 len':(Builtin.lenOf x).run P w.drew=.ok m w.drew
 cells:(Builtin.firstCells size m x).run P w=.ok news.toArray w
 cells':(Builtin.firstCells size m x).run P w.drew=.ok news.toArray w.drew
 size:news.length=m*size
section
variable {P : Program} {w : World}
theorem zbL {t u ty e:TypeId}{i:TypeInfo}(ht:P.underlying t=some (.slice e))(hi:P.info? e=some i)
  {g off sLen sCap:Nat} {cur:Array Value} (hg:w.heap[g]? =some (.cells cur e (0,0))) {x:Value} {m:Nat} {news:List Value} (hs:Src P w u i.size x m news) (h1:∀u∈news,u.oneCell'=true)
  (hroom:sLen+m<=sCap) (hfit:sLen*i.size+news.length<=cur.size):
  (Builtin.append_ #[t,u] ty #[.slice (some ⟨g,0,none⟩) sLen sCap,x]).run P w=
    .ok (.slice (some ⟨g,0,none⟩) (sLen+m) sCap) (w.setRow g (cur.toList.take (sLen*i.size)++news++cur.toList.drop (sLen*i.size+news.length)).toArray):=by
 have hst:=TH P g (sLen*i.size) e news 0 cur w hg (by simpa using hfit) h1;simp only[AX]at hst;have hl:=hs.len;have hc:=hs.cells;rcases hs.kind with⟨_,hu⟩|hu<;>simp[Builtin.append_,cZ ht,cZ hu,sizeOf,typeInfo,hi,hl,hroom,hc,Addr.add_lit,hst]
theorem zbK {t u ty e:TypeId}{i:TypeInfo}(ht:P.underlying t=some (.slice e))(hi:P.info? e=some i)
  {b:Option Addr} {sLen sCap:Nat} {x:Value} (hs:Src P w u i.size x 0 []) (hroom:sLen<=sCap):
  (Builtin.append_ #[t,u] ty #[.slice b sLen sCap,x]).run P w=.ok (.slice b sLen sCap) w:=by
 have hl:=hs.len;have hc:=hs.cells;rcases hs.kind with⟨_,hu⟩|hu<;>cases b<;>simp[Builtin.append_,cZ ht,cZ hu,sizeOf,typeInfo,hi,hl,hroom,hc,storeCells]
theorem zbM {t u ty e:TypeId}{i:TypeInfo}{z:Value}(ht:P.underlying t=some (.slice e))(hi:P.info? e=some i)(hz:i.zero=some z)
  {b:Option Addr} {sLen sCap:Nat} {olds:List Value} (hlo:olds.length=sLen*i.size) (holds:(Builtin.firstCells i.size sLen (.slice b sLen sCap)).run P w.drew=.ok olds.toArray w.drew)
  {x:Value} {m:Nat} {news:List Value} (hs:Src P w u i.size x m news)
  (hg:sCap<sLen+m) (h63:((sLen+m:Nat):Int)<=9223372036854775807) (hfit:Builtin.nextslicecap (sLen+m) sCap*i.bytes<=281474976710656):
  (Builtin.append_ #[t,u] ty #[.slice b sLen sCap,x]).run P w=
    .ok (.slice (some ⟨w.heap.size,0,none⟩) (sLen+m) (grownCap w (sLen+m) sCap e))
     (w.drew.alloc (.cells (olds.toArray++news.toArray++Builtin.zeroCells z.cells (grownCap w (sLen+m) sCap e-(sLen+m))) e)):=by
 have hl:=hs.len;have hc:=hs.cells';have hn:¬(sLen+m<=sCap):=by omega
 have h63':¬(9223372036854775807<((sLen:Int)+(m:Int))):=by omega
 have h48':¬(281474976710656<Builtin.nextslicecap (sLen+m) sCap*i.bytes):=by omega
 rcases hs.kind with⟨_,hu⟩|hu
 all_goals
  simp[Builtin.append_,cZ ht,cZ hu,sizeOf,typeInfo,zeroValue,hi,hz,hl,hn,h63',h48',Question.forced,hc,holds,newRow,grownCap]
  try(congr 2;apply Array.ext';simp[TU])
end
def CF (σ:Names)(m:Mem)(b:Option Nat)(n:Nat):Prop:=∃c k y,b=some c/\m c=some k/\σ c=some y/\hb y=some n
theorem eG.swap {σ:Names}{I:Nat->Prop}{w w':World}{m m':Mem}{nm:Nat}{x:Value}{k:aY}(b:Option Nat)(hib:∀n,I n->n<w.heap.size)(hm:RM σ I w m)(hσ:σ nm=none)
  (h1:w'.os=w.os) (h2:w'.tape=w.tape) (h3:sI w' w) (hs:w.heap.size<=w'.heap.size)
  (hfr:∀j,j<w.heap.size->¬CF σ m b j->w'.heap[j]? =w.heap[j]?) (hk:∀σ':Names,(∀b y,σ b=some y->σ' b=some y)->RB σ' I w' k x)
  (hx:∀n,hb x=some n->CF σ m b n\/(w.heap.size<=n/\n<w'.heap.size))
  (hm':∀c q,m' c=some q->(c=nm/\q=k)\/(c≠nm/\b≠some c/\m c=some q)):eG σ I w m nm (fC σ nm x) I w' m':=by
 have ext:∀b y,σ b=some y->fC σ nm x b=some y:=by
  intro b y h;unfold fC
  grind
 have upn:fC σ nm x nm=some x:=by simp[fC]
 have leadI:∀n,CF σ m b n->¬I n/\n<w.heap.size:=by
  rintro n ⟨c,q,y,_,g1,g2,g3⟩;obtain⟨y',hy',_,hn⟩:=hm.blk c q g1;simp_all
 have old:∀c q,c≠nm->b≠some c->m c=some q->∃y,σ c=some y/\fC σ nm x c=some y/\RB (fC σ nm x) I w' q y/\∀n,hb y=some n->n<w.heap.size/\¬I n/\¬CF σ m b n:=by
  intro c q hc hb hq;obtain⟨y,hy,hrb,hn⟩:=hm.blk c q hq;have hnl:∀n,AI.hb y=some n->¬CF σ m b n:=by
   rintro n h ⟨c',q',y',e,g1,g2,g3⟩;have:=hm.apart c c' q q' y y' n hq g1 hy g2 h g3;subst this;exact hb e
  refine⟨y,hy,ext _ _ hy,hrb.mono (λn h=>hfr n (hib n h) (λg=>(leadI n g).1 h)) (λ_ h=>h) ext (λn h=>hfr n (hn n h).1 (hnl n h)),λn h=>⟨(hn n h).1,(hn n h).2,hnl n h⟩⟩
 refine⟨h1,h2,h3,hs,ext,λc g1 g2=>?_,λ_ h=>h,λn h=>AU (hib n h) hs,λn h=>.inl h,λj hj hno=>hfr j hj (λg=>?_),⟨λc q hq=>?_,λc c' q q' y y' n g1 g2 g3 g4 g5 g6=>?_⟩,λc q hq=>?_,λn hn=>?_⟩
 ·by_cases e:c=nm
  ·subst e;exact⟨bY _,by omega⟩
  ·simp[fC,e,g1]at g2
 ·obtain⟨c,q,y,_,g1,g2,g3⟩:=g;exact hno ⟨c,q,y,g1,g2,g3⟩
 ·rcases hm' c q hq with⟨rfl,rfl⟩|⟨hc,hb,hq⟩
  ·refine⟨x,upn,hk _ ext,λn hn=>?_⟩;rcases hx n hn with g|⟨g1,g2⟩
   ·exact⟨AU (leadI n g).2 hs,(leadI n g).1⟩
   ·exact⟨g2,λh=>by have:=hib n h;omega⟩
  ·obtain⟨y,_,hy,hrb,hn⟩:=old c q hc hb hq;exact⟨y,hy,hrb,λn h=>⟨AU (hn n h).1 hs,(hn n h).2.1⟩⟩
 ·rcases hm' c q g1 with⟨rfl,rfl⟩|⟨hc,hb,hq⟩<;>rcases hm' c' q' g2 with⟨rfl,rfl⟩|⟨hc',hb',hq'⟩
  ·rfl
  ·obtain⟨u,_,hu,_,hun⟩:=old c' q' hc' hb' hq';rw[g4]at hu;cases hu;rw[upn]at g3;cases g3;rcases hx n g5 with g|⟨g,_⟩
   ·exact absurd g (hun n g6).2.2
   ·have:=(hun n g6).1;omega
  ·obtain⟨u,_,hu,_,hun⟩:=old c q hc hb hq;rw[g3]at hu;cases hu;rw[upn]at g4;cases g4;rcases hx n g6 with g|⟨g,_⟩
   ·exact absurd g (hun n g5).2.2
   ·have:=(hun n g5).1;omega
  ·obtain⟨u,hu0,hu,_,_⟩:=old c q hc hb hq;obtain⟨u',hu0',hu',_,_⟩:=old c' q' hc' hb' hq';rw[g3]at hu;cases hu;rw[g4]at hu';cases hu';exact hm.apart c c' q q' y y' n hq hq' hu0 hu0' g5 g6
 ·rcases hm' c q hq with⟨rfl,_⟩|⟨_,_,hq⟩
  ·exact .inr ⟨bY _,by omega⟩
  ·exact .inl (by simp[hq])
 ·obtain⟨c,q,y,g1,g2,g3⟩:=hn;rcases hm' c q g1 with⟨rfl,rfl⟩|⟨hc,hb,hq⟩
  ·rw[upn]at g2;cases g2;rcases hx n g3 with⟨c',q',y',_,p1,p2,p3⟩|⟨g,_⟩
   ·exact .inl ⟨c',q',y',p1,p2,p3⟩
   ·exact .inr g
  ·obtain⟨u,hu0,hu,_,_⟩:=old c q hc hb hq;rw[g2]at hu;cases hu;exact .inl ⟨c,q,y,hq,hu0,g3⟩
theorem HA {σ:Names}{I:Nat->Prop}{w:World}{sz:Nat}{es:List (List D)}{T:TypeId}{n cap:Nat}{arr:Array Value}{vals:List Value}(hw:w.heap[n]? =some (.cells arr T (0,0)))(hcap:es.length<=cap)(hmax:cap<=maxLen)(hl:cap*sz<=arr.size)
  (hs:∀e∈es,e.length=sz) (hv:∀(q:Nat) (u:Value),vals[q]? =some u->arr[q]? =some u)
  (hr:∀(i:Nat) e (j:Nat) c,es[i]? =some e->e[j]? =some c->∃x,vals[i*sz+j]? =some x/\RD I w c x/\x.oneCell'=true):RB σ I w (.grow sz es T) (.slice (some ⟨n,0,none⟩) es.length cap):=
 .grow hw hl hcap hmax hs λi e j c he hc=>by
  obtain⟨x,h1,h2,h3⟩:=hr i e j c he hc;exact⟨x,hv _ _ h1,h2,h3⟩
def Cells (I:Nat->Prop)(w:World)(sz:Nat)(es:List (List D))(vals:List Value):Prop:=
 vals.length=es.length*sz/\(∀e∈es,e.length=sz)/\∀(i:Nat) e (j:Nat) c,es[i]? =some e->e[j]? =some c->∃x,vals[i*sz+j]? =some x/\RD I w c x/\x.oneCell'=true
theorem oP.cells {I:Nat->Prop}{w:World}{sz:Nat}{es:List (List D)}{v:Value}{a:Option Addr}{c:Nat}{val:Nat->Nat->Value}(h:oP I w sz es v a c val):Cells I w sz es (l9 sz es.length val):=by
 refine⟨xU _ _ _,h.len,λi e j x he hx=>?_⟩;have h1:i<es.length:=(cE.1 he).1;have h2:j<sz:=by rw[<-h.len e (gT he)];exact(cE.1 hx).1
 exact⟨_,Pf h1 h2,h.rd i e j x he hx,h.one i e j x he hx⟩
theorem Cells.append {I:Nat->Prop}{w:World}{sz:Nat}{es fs:List (List D)}{xs ys:List Value}(h:Cells I w sz es xs)(g:Cells I w sz fs ys):Cells I w sz (es++fs) (xs++ys):=by
 obtain⟨h1,h2,h3⟩:=h;obtain⟨g1,g2,g3⟩:=g;refine⟨by simp[h1,g1,kC],λe he=>(gU.1 he).elim (h2 e) (g2 e),λi e j c he hc=>?_⟩;by_cases hi:i<es.length
 ·grind
 ·rw[tN (by omega)]at he;obtain⟨x,p1,p2⟩:=g3 _ e j c he hc;refine⟨x,?_,p2⟩;have:es.length*sz<=i*sz:=oQ sz (by omega);rw[tN (by omega),h1,show i*sz+j-es.length*sz=(i-es.length)*sz+j by rw[Nat.sub_mul];omega];exact p1
theorem Cells.mono {I I':Nat->Prop}{w w':World}{sz:Nat}{es:List (List D)}{xs:List Value}(h:Cells I w sz es xs)(hw:∀n,I n->w'.heap[n]? =w.heap[n]?)(hI:∀n,I n->I' n):Cells I' w' sz es xs:=
 ⟨h.1,h.2.1,λi e j c he hc=>let⟨x,p1,p2,p3⟩:=h.2.2 i e j c he hc;⟨x,p1,p2.mono hw hI,p3⟩⟩
theorem Cells.one {I:Nat->Prop}{w:World}{sz:Nat}{es:List (List D)}{xs:List Value}(h:Cells I w sz es xs):∀u∈xs,u.oneCell'=true:=by
 intro u hu;obtain⟨q,hq⟩:=MU.1 hu;have hlt:q<es.length*sz:=by have:=(cE.1 hq).1;rwa[h.1]at this
 have hsz:0<sz:=by
  grind
 have h3:q/sz<es.length:=TL (by rwa[uO]);have h4:q%sz<sz:=EH _ hsz;have hl:es[q/sz].length=sz:=h.2.1 _ (mF _);obtain⟨x,p1,_,p3⟩:=h.2.2 (q/sz) es[q/sz] (q%sz) (es[q/sz][q%sz]'(by omega)) (bO h3) (bO (by omega));rw[uO,Nat.div_add_mod,hq]at p1;cases p1;exact p3
def FU (sz:Nat)(E:TypeId)(mem:Mem):AV->Option (List (List D)×Bool×Option Nat)
 |.d (.v (.slice none 0 0))=>some ([],true,none)
 |.d (.ro true es)=>some (es,true,none)
 |.own b=>match mem b with
  |some (.grow z es T)=>if z=sz/\T=E then some (es,false,some b)else none
  |_=>none
 |.sl b z 0 len=>match mem b with
  |some (.grow z' es T)=>if z=sz/\z'=sz/\T=E/\len<=es.length then some (es.take len,false,some b)else none
  |_=>none
 |_=>none
def strCells (s:ByteArray):List (List D):=s.toList.map λc=>[.v (.int .u8 c.toNat)]
def L8 (str:Bool)(sz:Nat)(mem:Mem)(x:AV):Option (List (List D)×List Nat):=
 if str then(if sz=1 then match x with
  |.d (.v (.string s))=>some (strCells s,[])
  |_=>none else none)
 else GQ sz mem x
def FZ (str:Bool)(sz bytes:Nat)(E:TypeId)(mem:Mem)(nm:Nat)(d s:AV):Option (Prop×aN):=
 match FU sz E mem d,L8 str sz mem s with
 |some (es0,full,b),some (es1,rd)=>
  some ((full=true->es0=[]\/es1≠[])/\iY es0 sz/\iY es1 sz/\(es0.length+es1.length)*bytes<=140737488355328,
   ⟨.own nm,rd,(nm,some (.grow sz (es0++es1) E))::b.toList.map λb=>(b,none)⟩)
 |_,_=>none
theorem Vy (s:ByteArray):∀(n i:Nat) (r:List UInt8),s.size-i=n->ByteArray.toList.loop s i r=r.reverse++s.data.toList.drop i:=by
 intro n;induction n with
 |zero=>
  intro i r h;rw[ByteArray.toList.loop];have:s.data.toList.length<=i:=by simp;show s.size<=i;omega
  simp[show¬i<s.size by omega,TR this]
 |succ n ih=>
  intro i r h;rw[ByteArray.toList.loop];have hi:i<s.size:=by omega
  rw[aZ hi,ih (i+1) _ (by omega)];have hd:s.data.toList.drop i=s.get! i::s.data.toList.drop (i+1):=by
   rw[tP (by simpa using hi)];have:i<s.data.size:=hi;rw[show s.get! i=s.data[i]! from rfl,EE s.data i this];simp
  rw[hd];simp
theorem SC (s:ByteArray):s.toList=s.data.toList:=by
 rw[ByteArray.toList,Vy s _ 0 [] rfl];simp
theorem zio {σ:Names}{I:Nat->Prop}{w:World}{sz:Nat}{E:TypeId}{mem mr:Mem}{x:AV}{v:Value}{es:List (List D)}{full:Bool}{b:Option Nat}(h:FU sz E mem x=some (es,full,b))(hs:∀e∈es,e.length=sz)(hv:RV σ I w x v)
  (hm:RM σ I w mr) (hr:∀c,b=some c->∀k,mem c=some k->mr c=some k):
  ∃a c val,oP I w sz es v a c val/\(full=true->c=es.length)/\
   (full=false->c=0\/∃g arr,a=some ⟨g,0,none⟩/\w.heap[g]? =some (.cells arr E (0,0))/\c*sz<=arr.size/\CF σ mr b g):=by
 unfold FU at h;split at h
 ·cases h;rw[eF hv];exact⟨_,_,_,.nil,λ_=>rfl,λh=>by cases h⟩
 ·cases h;cases hv with
  |d hv=>
   cases hv with
   |nil=>exact⟨_,_,_,.nil,λ_=>rfl,λh=>by cases h⟩
   |emp=>exact⟨_,_,_,.emp _,λ_=>rfl,λh=>by cases h⟩
   |ro val hI hsz hcap hmax hfc hc hr' h1=>
    obtain⟨a,c,val',hl⟩:=Mr hs (RD.ro val hI hsz hcap hmax hfc hc hr' h1);have:=hl.v
    grind
 ·rename_i b';split at h
  ·rename_i z es' T hb;split at h
   ·rename_i hz;obtain⟨rfl,rfl⟩:=hz;cases h;have hb':=hr b' rfl _ hb;obtain⟨a,c,val,hl⟩:=Ms hm hb' hv;refine⟨a,c,val,hl,(λh=>by cases h),λ_=>?_⟩;obtain⟨y,hy,hrb⟩:=hm.grow hb';cases hv with
    |own h' _=>
     rw[hy]at h';cases h';have hlv:=hl.v;rcases hrb with⟨rfl,rfl⟩|⟨a',rfl,rfl⟩|⟨n,cap,arr,rfl,g1,g2,g3,g4,g5,g6⟩
     ·cases hlv;exact .inl rfl
     ·cases hlv;exact .inl rfl
     ·simp only[Value.slice.injEq]at hlv;obtain⟨rfl,_,rfl⟩:=hlv;rcases wY cap with h0|h0
      ·exact .inl h0
      ·exact .inr ⟨n,arr,rfl,g1,g2,b',_,_,rfl,hb',hy,vJ h0⟩
   ·cases h
  ·cases h
 ·rename_i b' z len;split at h
  ·rename_i z' es' T hb;split at h
   ·rename_i hz;obtain⟨rfl,rfl,rfl,hle⟩:=hz;cases h;have hb':=hr b' rfl _ hb;have hl:=XS hm hb' (i:=0) (len:=len) (by omega) hv;simp at hl;obtain⟨a,c,val,hl⟩:=hl;refine⟨a,c,val,hl,(λh=>by cases h),λ_=>?_⟩;obtain⟨y,hy,hrb⟩:=hm.grow hb';cases hv with
    |sl h' hs'=>
     rw[hy]at h';cases h';have hlv:=hl.v;cases hs' with
     |nil=>cases hlv;exact .inl rfl
     |none a'=>
      simp only[Value.slice.injEq]at hlv;exact .inl hlv.2.2.symm
     |some hc hl'=>
      rename_i n L cap c';simp at hlv;obtain⟨rfl,_,rfl⟩:=hlv;rcases hrb with⟨e,_⟩|⟨a',e,rfl⟩|⟨n',cap',arr,e,g1,g2,g3,g4,g5,g6⟩
      ·cases e
      ·cases e;exact .inl (by omega)
      ·cases e;rcases wY cap with h0|h0
       ·exact .inl (by omega)
       ·exact .inr ⟨n,arr,rfl,g1,dH (oQ _ (by omega)) g2,b',_,_,rfl,hb',hy,vJ h0⟩
   ·cases h
  ·cases h
 ·cases h
theorem oP.src {I:Nat->Prop}{P:Program}{w:World}{sz:Nat}{es:List (List D)}{v:Value}{a:Option Addr}{c:Nat}{val:Nat->Nat->Value}(h:oP I w sz es v a c val){u:TypeId}{e:TypeId}(hu:P.underlying u=some (.slice e)):
  Src P w u sz v es.length (l9 sz es.length val):=by
 have hv:=h.v;subst hv;cases a with
 |none=>
  obtain⟨rfl,rfl⟩:=h.non rfl;refine⟨.inl ⟨_,hu⟩,by simp[Builtin.lenOf],by simp[Builtin.lenOf],?_,?_,xU _ _ _⟩<;>simp[Builtin.firstCells,l9]
 |some ad=>
  refine⟨.inl ⟨_,hu⟩,by simp[Builtin.lenOf],by simp[Builtin.lenOf],run_firstCells_some w sz _ ad _ _ _ (xU _ _ _) (h.flat rfl),run_firstCells_some w.drew sz _ ad _ _ _ (xU _ _ _) (by simpa using h.flat rfl),xU _ _ _⟩
theorem Za {P:Program}{w:World}{u:TypeId}(hu:P.underlying u=some .string)(s:ByteArray):Src P w u 1 (.string s) s.size (s.toList.map λc=>.int .u8 c.toNat):=by
 have key:((s.extract 0 s.size).data.map λb=>Value.int .u8 b.toNat)=(s.toList.map λc=>Value.int .u8 (c.toNat:Int)).toArray:=by
  apply Array.ext';have:s.extract 0 s.size=s:=by simp
  simp[SC]
 refine⟨.inr hu,by simp[Builtin.lenOf],by simp[Builtin.lenOf],?_,?_,by simp[SC]⟩<;>
 ·simp only[Builtin.firstCells];rw[key];simp
theorem zjr {I:Nat->Prop}{w:World}(s:ByteArray):Cells I w 1 (strCells s) (s.toList.map λc=>.int .u8 c.toNat):=by
 refine⟨by simp[strCells],λe he=>?_,λi e j c he hc=>?_⟩
 ·simp only[strCells,fU]at he;obtain⟨_,_,rfl⟩:=he;rfl
 ·simp only[strCells,jX]at he;cases hq:s.toList[i]? with
  |none=>simp[hq]at he
  |some q=>
   simp only[hq,tM,pX]at he;subst he;cases j with
   |zero=>
    simp at hc;subst hc;exact⟨.int .u8 q.toNat,by simp[hq],.v _,rfl⟩
   |succ j=>simp at hc
theorem strCells_length (s:ByteArray):(strCells s).length=s.size:=by
 simp[strCells,SC]
theorem WR {P:Program}{o:Oper}{c:Call}(ho:o.op=.call c)(hc:c.callee=.builtin .append)(tm:Nat->AV)(mem:Mem)(nm:Nat){T U:TypeId}(hT:c.argTypes=#[T,U]){x y:Operand}(hx:c.args=#[x,y])
  {E:TypeId} {ti te:TI} (hti:aS P T=some ti) (hk:ti.k=.dX E) (hte:aS P E=some te) (hb0:0<te.bytes) (hz0:te.zero.length=te.sz) {str:Bool} (hU:if str then P.underlying U=some .string else∃e,P.underlying U=some (.slice e)) {sc:Prop} {e:aN}
  (he:FZ str te.sz te.bytes E mem nm (ev tm x) (ev tm y)=some (sc,e)) (hsc:sc):bJ P o tm (e.mr mem) nm e.res (e.mw mem):=by
 unfold FZ at he;split at he
 case h_2=>cases he
 rename_i es0 full b es1 rd hd hs;cases he;obtain⟨s1,s2,s3,s4⟩:=hsc;refine bJ.val λa w σ I hib hop hm hfree=>?_;have hfr:σ nm=none:=hfree nm ⟨bY _,by omega⟩;have hvx:=dG (σ:=σ) (I:=I) (w:=w) (tm:=tm) (a:=a) (x:=x) λs e=>hop s (by subst e;simp[ho,Op.operands,Call.operands,hx]);have hvy:=dG (σ:=σ) (I:=I) (w:=w) (tm:=tm) (a:=a) (x:=y) λs e=>hop s (by subst e;simp[ho,Op.operands,Call.operands,hx]);obtain⟨d,hdr,hdu,hkd⟩:=VQ (w:=w) hti;have hdE:d=.slice E:=by
  rw[hk]at hkd;cases d<;>simp[iS]at hkd<;>simp[hkd]
 subst hdE;obtain⟨i,de,z,hi,hde,hz,hte'⟩:=jO hte;have e_sz:i.size=te.sz:=by rw[hte']
 have e_by:i.bytes=te.bytes:=by rw[hte']
 have e_z:z.cells.size=te.sz:=by
  rw[hte']at hz0;simp at hz0;rw[hz0,<-e_sz]
 have hmr:∀c,b=some c->∀k,mem c=some k->(aN.mk (.own nm) rd ((nm,some (.grow te.sz (es0++es1) E))::b.toList.map λb=>(b,none))).mr mem c=some k:=by
  rintro c rfl k hk;refine aN.kY hk (.inr ?_);simp only[Option.toList_some,kE,zC,wrote];split<;>simp
 have hrd:∀c∈rd,∀k,mem c=some k->(aN.mk (.own nm) rd ((nm,some (.grow te.sz (es0++es1) E))::b.toList.map λb=>(b,none))).mr mem c=some k:=λc hc k hk=>aN.kY hk (.inl hc);obtain⟨a0,c0,val0,hl0,hfull,hroom⟩:=zio hd s2 hvx hm hmr;obtain⟨news,hsrc,hcel⟩:∃news,Src P w U te.sz (a.eval y) es1.length news/\Cells I w te.sz es1 news:=by
  unfold L8 at hs;split at hs
  ·rename_i hstr;rw[aZ hstr]at hU;split at hs
   ·rename_i h1;split at hs
    ·rename_i s hy;cases hs;rw[hy]at hvy;rw[eF hvy,h1];rw[strCells_length];exact⟨_,Za hU s,zjr s⟩
    ·cases hs
   ·cases hs
  ·rename_i hstr;rw[aT hstr]at hU;obtain⟨eU,hU⟩:=hU;obtain⟨a1,c1,val1,hl1⟩:=Dc hs s3 hvy hm hrd;exact⟨_,hl1.src hU,hl1.cells⟩
 have hbound:es0.length+es1.length<=140737488355328:=dH (Nat.le_mul_of_pos_right _ hb0) s4;have hmx:es0.length+es1.length<=maxLen:=by simp only[maxLen];omega
 have hcells0:=hl0.cells
 have hmwm:∀c q,(aN.mk (.own nm) rd ((nm,some (.grow te.sz (es0++es1) E))::b.toList.map λb=>(b,none))).mw mem c=some q->
   (c=nm/\q=.grow te.sz (es0++es1) E)\/(c≠nm/\b≠some c/\(aN.mk (.own nm) rd ((nm,some (.grow te.sz (es0++es1) E))::b.toList.map λb=>(b,none))).mr mem c=some q):=by
  intro c q h;simp only[aN.mw,wrote]at h;by_cases h1:nm=c
  ·subst h1;simp at h;exact .inl ⟨rfl,h.symm⟩
  ·rw[aT h1]at h;cases b with
   |none=>
    simp only[Option.toList_none,zC,wrote]at h;split at h
    ·rename_i hc;exact .inr ⟨x9 h1,(λh=>by cases h),aN.kY h (.inl hc)⟩
    ·cases h
   |some b'=>
    simp only[Option.toList_some,kE,zC,wrote]at h;by_cases h2:b'=c
    ·simp[h2]at h
    ·simp only[h2,iO]at h;split at h
     ·rename_i hc;exact .inr ⟨x9 h1,(λh=>by cases h;exact h2 rfl),aN.kY h (.inl hc)⟩
     ·cases h
 have fin:∀v w',(Builtin.append_ #[T,U] o.type #[a.eval x,a.eval y]).run P w=.ok v w'->w'.os=w.os->w'.tape=w.tape->sI w' w->w.heap.size<=w'.heap.size->
   (∀j,j<w.heap.size->¬CF σ ((aN.mk (.own nm) rd ((nm,some (.grow te.sz (es0++es1) E))::b.toList.map λb=>(b,none))).mr mem) b j->w'.heap[j]? =w.heap[j]?)->
   (∀σ',RB σ' I w' (.grow te.sz (es0++es1) E) v)->v.oneCell'=true->
   (∀n,hb v=some n->CF σ ((aN.mk (.own nm) rd ((nm,some (.grow te.sz (es0++es1) E))::b.toList.map λb=>(b,none))).mr mem) b n\/(w.heap.size<=n/\n<w'.heap.size))->
   ∃v w' σ' I',(execOp a.eval o).run P w=.ok (.value v) w'/\eG σ I w ((aN.mk (.own nm) rd ((nm,some (.grow te.sz (es0++es1) E))::b.toList.map λb=>(b,none))).mr mem) nm σ' I' w'
    ((aN.mk (.own nm) rd ((nm,some (.grow te.sz (es0++es1) E))::b.toList.map λb=>(b,none))).mw mem)/\RV σ' I' w' (.own nm) v:=by
  intro v w' h1 p1 p2 p3 p4 p5 p6 p6' p7;refine⟨v,w',fC σ nm v,I,?_,eG.swap b hib hm hfr p1 p2 p3 p4 p5 (λσ' _=>p6 σ') p7 hmwm,.own (by simp[fC]) p6'⟩;simp[execOp,ho,resolve,hc,invoke,builtin,hT,hx,h1]
 have hlv:=hl0.v;rw[hlv]at fin;by_cases hnone:es1.length=0/\(c0=0\/full=false)
 ·obtain⟨h1,hcz⟩:=hnone;have he1:es1=[]:=kH h1;subst he1;have hn0:news=[]:=kH (by rw[hsrc.size];simp);subst hn0;have hrun:=zbK (P:=P) (w:=w) (t:=T) (u:=U) (ty:=o.type) hdu hi (b:=a0) (sLen:=es0.length) (sCap:=c0) (x:=a.eval y) (by rw[e_sz];exact hsrc) hl0.cap;refine fin _ w hrun rfl rfl ⟨rfl,bY _⟩ (bY _) (λ_ _ _=>rfl) (λσ'=>?_) rfl (λn hn=>?_)
  ·simp only[MZ];rcases wY c0 with h0|h0
   ·have:es0=[]:=kH (by have:=hl0.cap;omega);subst this;subst h0;cases a0 with
    |none=>exact .none
    |some a0=>exact .emp a0
   ·have hf:full=false:=by rcases hcz with h|h;omega;exact h
    rcases hroom hf with h|⟨g,arr,rfl,g1,g2,g3⟩
    ·omega
    ·refine HA (vals:=l9 te.sz es0.length val0) g1 hl0.cap hl0.max g2 hcells0.2.1 (λq u hq=>?_) hcells0.2.2;have:=hl0.flat rfl q u hq
     rwa[add_plain,AR,AB g1]at this
  ·rcases wY c0 with h0|h0
   ·subst h0;cases a0<;>cases hn
   ·have hf:full=false:=by rcases hcz with h|h;omega;exact h
    rcases hroom hf with h|⟨g,arr,rfl,g1,g2,g3⟩
    ·omega
    ·rw[vJ h0]at hn;cases hn;exact .inl g3
 by_cases hin:es0.length+es1.length<=c0/\full=false
 ·obtain⟨hin,hf⟩:=hin;rcases hroom hf with h|⟨g,arr,rfl,g1,g2,g3⟩
  ·exfalso;apply hnone;exact⟨by omega,.inl h⟩
  ·have hfit:es0.length*i.size+news.length<=arr.size:=by
    rw[hsrc.size,e_sz,<-kC];exact dH (oQ _ hin) g2
   have hrun:=zbL (P:=P) (w:=w) (t:=T) (u:=U) (ty:=o.type) hdu hi (g:=g) (off:=0) (sLen:=es0.length) (sCap:=c0) (cur:=arr) g1 (x:=a.eval y) (m:=es1.length) (news:=news) (by rw[e_sz];exact hsrc) hcel.one hin hfit;have hc0:0<c0:=by
    rcases wY c0 with h|h
    ·exfalso;apply hnone;exact⟨by omega,.inl h⟩
    ·exact h
   have hgI:¬I g:=by
    obtain⟨c',q',y',_,p1,p2,p3⟩:=g3;obtain⟨y'',hy'',_,hn⟩:=hm.blk c' q' p1;rw[p2]at hy'';cases hy'';exact(hn g p3).2
   refine fin _ _ hrun rfl rfl ⟨rfl,bY _⟩ (by simp) (λj _ hj=>CG w g j _ (λe=>hj (e▸g3))) (λσ'=>?_) rfl (λn hn=>?_)
   ·have hv0:∀q u,(l9 te.sz es0.length val0)[q]? =some u->arr[q]? =some u:=λq u hq=>by
     have:=hl0.flat rfl q u hq
     rwa[add_plain,AR,AB g1]at this
    have htake:arr.toList.take (es0.length*i.size)=l9 te.sz es0.length val0:=by
     rw[e_sz];apply JT;intro q;have hll:(l9 te.sz es0.length val0).length=es0.length*te.sz:=xU _ _ _;by_cases hq:q<es0.length*te.sz
     ·rw[TM hq];have:=hv0 q _ (bO (by rw[hll];exact hq));rw[bO (show q<(l9 te.sz es0.length val0).length by rw[hll];exact hq),<-this];simp
     ·rw[JP (by rw[CL];omega),JP (by omega)]
    have hsum:(es0++es1).length=es0.length+es1.length:=by simp
    have hcc:Cells I (w.setRow g (arr.toList.take (es0.length*i.size)++news++arr.toList.drop (es0.length*i.size+news.length)).toArray) te.sz (es0++es1) (l9 te.sz es0.length val0++news):=
     (hcells0.append hcel).mono (λn hn=>CG w g n _ (λe=>hgI (e▸hn))) (λ_ h=>h)
    rw[<-hsum];refine HA (vals:=l9 te.sz es0.length val0++news) (setRow_heap w g arr _ E _ g1) (by omega) hl0.max ?_ hcc.2.1 (λq u hq=>?_) hcc.2.2
    ·simp only[JL,bZ,CL,AY,Array.length_toList];omega
    ·rw[htake,MW,qX]
     ·exact hq
     ·exact(cE.1 hq).1
   ·rw[vJ hc0]at hn;cases hn;exact .inl g3
 ·
  have hg:c0<es0.length+es1.length:=by
   cases hf:full with
   |false=>simp[hf]at hin;omega
   |true=>
    have:=hfull hf;rcases s1 hf with h|h
    ·subst h;simp only[gZ]at this⊢;have:es1.length≠0:=λh=>hnone ⟨h,.inl this⟩;omega
    ·have:0<es1.length:=vS.2 h;omega
  have holds:(Builtin.firstCells i.size es0.length (.slice a0 es0.length c0)).run P w.drew=.ok (l9 te.sz es0.length val0).toArray w.drew:=by
   rw[e_sz];cases a0 with
   |none=>
    obtain⟨rfl,rfl⟩:=hl0.non rfl;simp[Builtin.firstCells,l9]
   |some ad=>exact run_firstCells_some w.drew te.sz _ ad _ _ _ (xU _ _ _) (by simpa using hl0.flat rfl)
  have hrun:=zbM (P:=P) (w:=w) (t:=T) (u:=U) (ty:=o.type) hdu hi hz (b:=a0) (sLen:=es0.length) (sCap:=c0) (olds:=l9 te.sz es0.length val0) (by rw[e_sz];exact xU _ _ _) holds (x:=a.eval y) (m:=es1.length) (news:=news)
   (by rw[e_sz];exact hsrc) hg (by omega) (growslice_fits hg (by rw[e_by];exact s4))
  refine fin _ _ hrun rfl rfl ⟨rfl,Nat.le_succ _⟩ (by simp) (λj hj _=>wX w.drew _ hj) (λσ'=>?_) rfl (λn hn=>?_)
  ·have hsum:(es0++es1).length=es0.length+es1.length:=by simp
   have hge:=grownCap_ge w (es0.length+es1.length) c0 E;have hcc:Cells I (w.drew.alloc (.cells ((l9 te.sz es0.length val0).toArray++news.toArray++Builtin.zeroCells z.cells (grownCap w (es0.length+es1.length) c0 E-(es0.length+es1.length))) E)) te.sz (es0++es1) (l9 te.sz es0.length val0++news):=
    (hcells0.append hcel).mono (λn hn=>wX w.drew _ (hib n hn)) (λ_ h=>h)
   have hres:=HA (σ:=σ') (vals:=l9 te.sz es0.length val0++news) (T:=E) (cap:=grownCap w (es0.length+es1.length) c0 E) (ED w.drew (.cells ((l9 te.sz es0.length val0).toArray++news.toArray++Builtin.zeroCells z.cells (grownCap w (es0.length+es1.length) c0 E-(es0.length+es1.length))) E)) (by rw[hsum];exact hge) (grownCap_le_maxLen w _ _ _ hmx) ?_ hcc.2.1 (λq u hq=>?_) hcc.2.2
   ·rw[hsum]at hres;exact hres
   ·simp only[Array.size_append,JL,size_zeroCells,e_z,xU,hsrc.size];rw[<-kC,<-kC];exact oQ _ (by omega)
   ·have hlt:=(cE.1 hq).1;rw[Array.getElem?_append_left (by simpa using hlt)];simpa using hq
  ·have:0<grownCap w (es0.length+es1.length) c0 E:=by have:=grownCap_ge w (es0.length+es1.length) c0 E;omega
   rw[vJ this]at hn;cases hn;exact .inr ⟨bY _,by simp⟩
def sA (m:Option Int)(cap:Nat):Nat:=
 match m with
 |some m=>m.toNat
 |none=>cap
@[simp] theorem vB (m:Int)(cap:Nat):sA (some m) cap=m.toNat:=rfl
@[simp] theorem P8 (cap:Nat):sA none cap=cap:=rfl
def FI :Option AV->Option (Option Int)
 |none=>some none
 |some (.d (.v (.int _ n)))=>some (some n)
 |_=>none
def IW (l h:Int)(m:Option Int)(len:Nat):Prop:=0<=l/\l<=h/\h<=len/\(match m with|some m=>h<=m/\m<=len|none=>True)
def KG (k:K)(sz:Nat)(mem:Mem)(x:AV)(lo hi mx:Option AV):Option (Prop×aN):=
 match FI lo,FI hi,FI mx with
 |some lo,some hi,some mx=>
  match k,x with
  |.str,.d (.v (.string s))=>if mx=none then some (0<=lo.getD 0/\lo.getD 0<=hi.getD s.size/\hi.getD s.size<=s.size,⟨.d (.v (.string (s.extract (lo.getD 0).toNat (hi.getD s.size).toNat))),[],[]⟩)else none
  |.dX _,.d (.v (.slice none 0 0))=>some (IW (lo.getD 0) (hi.getD ((0:Nat):Int)) mx 0,⟨.d (.v (.slice none 0 0)),[],[]⟩)
  |.dX _,.d (.ro fc es)=>some (IW (lo.getD 0) (hi.getD es.length) mx es.length/\iY es sz,
    ⟨.d (.ro (match mx with|some m=>decide (m=hi.getD es.length)|none=>fc&&decide (hi.getD es.length=es.length)) ((es.take (hi.getD es.length).toNat).drop (lo.getD 0).toNat)),[],[]⟩)
  |.dX _,.own b=>match mem b with
   |some (.grow z es _)=>if z=sz then some (IW (lo.getD 0) (hi.getD es.length) mx es.length,⟨.sl b sz (lo.getD 0).toNat ((hi.getD es.length).toNat-(lo.getD 0).toNat),[b],[]⟩)else none
   |_=>none
  |.dX _,.sl b z i len=>if z=sz then some (IW (lo.getD 0) (hi.getD len) mx len,⟨.sl b sz (i+(lo.getD 0).toNat) ((hi.getD len).toNat-(lo.getD 0).toNat),[],[]⟩)else none
  |_,_=>none
 |_,_,_=>none
theorem YF {σ:Names}{I:Nat->Prop}{w:World}{x:Option AV}{n:Option Int}(h:FI x=some n){v:Option Value}(hn:x=none↔v=none)(hv:∀a b,x=some a->v=some b->RV σ I w a b):
  (n=none/\v=none)\/∃k i,n=some i/\v=some (.int k i):=by
 unfold FI at h;split at h
 ·simp_all
 ·rename_i k i;cases h;cases v with
  |none=>have:=hn.2 rfl;cases this
  |some v=>exact .inr ⟨k,i,rfl,by rw[eF (hv _ _ rfl rfl)]⟩
 ·cases h
theorem A7 {P:Program}{w:World}{k:IntKind}{i:Int}{y:Nat}{code:BoundsCode}(h0:0<=i)(h1:i<=y):(Instr.sliceBound (.int k i) y code).run P w=.ok i.toNat w:=by
 simp[Instr.sliceBound,asIntOf,h0,h1]
theorem xD {P:Program}{w:World}{isS:Bool}{len cap:Nat}{lo hi mx:Option Int}{vl vh vm:Option Value}(hl:(lo=none/\vl=none)\/∃k i,lo=some i/\vl=some (.int k i))(hh:(hi=none/\vh=none)\/∃k i,hi=some i/\vh=some (.int k i))
  (hm:(mx=none/\vm=none)\/∃k i,mx=some i/\vm=some (.int k i)) (hb:IW (lo.getD 0) (hi.getD len) mx len) (hmh:mx≠none->hi≠none) (hc:len<=cap):
  (Instr.sliceBounds isS len cap vl vh vm).run P w=.ok ((lo.getD 0).toNat,(hi.getD len).toNat,sA mx cap) w:=by
 obtain⟨b1,b2,b3,b4⟩:=hb;unfold Instr.sliceBounds;rcases hm with⟨rfl,rfl⟩|⟨km,m,rfl,rfl⟩
 ·rcases hh with⟨rfl,rfl⟩|⟨kh,h,rfl,rfl⟩
  ·rcases hl with⟨rfl,rfl⟩|⟨kl,l,rfl,rfl⟩
   ·simp
   ·simp at b1 b2 b3;simp only[dS,oD,fB,A7 b1 b2];simp
  ·simp at b2 b3;rcases hl with⟨rfl,rfl⟩|⟨kl,l,rfl,rfl⟩
   ·simp at b1 b2;simp only[dS,oD,fB,A7 (y:=cap) b2 (by omega)];simp
   ·simp at b1 b2;simp only[dS,oD,fB,A7 (y:=cap) (i:=h) (by omega) (by omega),A7 (y:=h.toNat) b1 (by omega)];simp
 ·rcases hh with⟨rfl,rfl⟩|⟨kh,h,rfl,rfl⟩
  ·exact absurd rfl (hmh (by simp))
  ·simp at b2 b3 b4;rcases hl with⟨rfl,rfl⟩|⟨kl,l,rfl,rfl⟩
   ·simp at b1 b2;simp only[dS,fB,A7 (y:=cap) (i:=m) (by omega) (by omega),A7 (y:=m.toNat) (i:=h) (by omega) (by omega)];simp
   ·simp at b1 b2;simp only[dS,fB,A7 (y:=cap) (i:=m) (by omega) (by omega),A7 (y:=m.toNat) (i:=h) (by omega) (by omega),A7 (y:=h.toNat) b1 (by omega)];simp
theorem uU {P:Program}{T:TypeId}{ti:TI}(hT:aS P T=some ti){E:TypeId}(hk:ti.k=.dX E):P.underlying T=some (.slice E):=by
 obtain⟨i,d,z,hi,hd,hz,rfl⟩:=jO hT;rw[hd];simp only at hk;cases d<;>simp[iS]at hk<;>simp[hk]
theorem J7 {P:Program}{T:TypeId}{ti:TI}(hT:aS P T=some ti)(hk:ti.k=.str):P.underlying T=some .string:=by
 obtain⟨i,d,z,hi,hd,hz,rfl⟩:=jO hT;rw[hd];simp only at hk;cases d<;>simp[iS]at hk<;>rfl
theorem ok_slice {P:Program}{o:Oper}{T:TypeId}{x:Operand}{lo hi mx:Option Operand}(ho:o.op=.slice T x lo hi mx)(hmh:mx≠none->hi≠none)(tm:Nat->AV)(mem:Mem)(nm:Nat){ti:TI}(hT:aS P T=some ti){sz:Nat}
  (hE:∀E,ti.k=.dX E->∃te,aS P E=some te/\te.sz=sz) {sc:Prop} {e:aN} (he:KG ti.k sz mem (ev tm x) (lo.map (ev tm)) (hi.map (ev tm)) (mx.map (ev tm))=some (sc,e)) (hsc:sc):bJ P o tm (e.mr mem) nm e.res (e.mw mem):=by
 unfold KG at he;split at he
 case h_2=>cases he
 rename_i lo' hi' mx' el eh em;have hwr:e.wr=[]:=by
  grind
 have hmw:e.mw mem=e.mr mem:=by
  obtain⟨r,rd,wr⟩:=e;simp only at hwr;subst hwr;exact aN.vC _ _ _
 rw[hmw];refine bJ.pure λa w σ I h hm=>?_;have hx:=dG (σ:=σ) (I:=I) (w:=w) (tm:=tm) (a:=a) (x:=x) λs e=>h s (by simp[ho,Op.operands,e]);have il:=YF (σ:=σ) (I:=I) (w:=w) el (v:=lo.map a.eval) (by cases lo<;>simp) (λp q hp hq=>by
  cases lo with
  |none=>cases hp
  |some y=>simp at hp hq;subst hp;subst hq;exact dG λs e=>h s (by simp[ho,Op.operands,e]))
 have ih:=YF (σ:=σ) (I:=I) (w:=w) eh (v:=hi.map a.eval) (by cases hi<;>simp) (λp q hp hq=>by
  cases hi with
  |none=>cases hp
  |some y=>simp at hp hq;subst hp;subst hq;exact dG λs e=>h s (by simp[ho,Op.operands,e]))
 have im:=YF (σ:=σ) (I:=I) (w:=w) em (v:=mx.map a.eval) (by cases mx<;>simp) (λp q hp hq=>by
  cases mx with
  |none=>cases hp
  |some y=>simp at hp hq;subst hp;subst hq;exact dG λs e=>h s (by simp[ho,Op.operands,e]))
 have hmh':mx'≠none->hi'≠none:=by
  intro h1 h2;have:mx≠none:=by
   rintro rfl;simp[FI]at em;exact h1 em.symm
  have hh:=hmh this;cases hi with
  |none=>exact hh rfl
  |some y=>
   rcases ih with⟨_,h⟩|⟨_,_,h,_⟩
   ·cases h
   ·rw[h2]at h;cases h
 have fin:∀v,(Instr.sliceAt T (a.eval x) (lo.map a.eval) (hi.map a.eval) (mx.map a.eval)).run P w=.ok v w->RV σ I w e.res v->∃v,(execOp a.eval o).run P w=.ok (.value v) w/\RV σ I w e.res v:=
  λv h1 h2=>⟨v,by simp[execOp,ho,h1],h2⟩
 revert he hx fin hm;generalize ev tm x=A;intro he hm hx fin;split at he
 ·rename_i s hk;split at he
  ·rename_i hmx;cases he;subst hmx;obtain⟨c1,c2,c3⟩:=hsc;rw[eF hx]at fin;refine fin _ ?_ (.d (.v _));have hm0:mx.map a.eval=none:=by
    rcases im with⟨_,h⟩|⟨_,_,h,_⟩
    ·exact h
    ·cases h
   have hu:=J7 hT hk;have hbb:=xD (P:=P) (w:=w) (isS:=false) (len:=s.size) (cap:=s.size) il ih (mx:=none) (vm:=none) (.inl ⟨rfl,rfl⟩) ⟨c1,c2,c3,trivial⟩ (λh=>absurd rfl h) (bY _);simp only[Instr.sliceAt,Instr.slice,dS,cZ hu,fB,hm0];simp[hbb]
  ·cases he
 ·rename_i E hk;cases he;have hbb:=xD (P:=P) (w:=w) (isS:=true) (len:=0) (cap:=0) il ih im hsc hmh' (bY _);have hu:=uU hT hk;obtain⟨te,hte,rfl⟩:=hE _ hk;rw[eF hx]at fin;obtain⟨b1,b2,b3,b4⟩:=hsc;refine fin (.slice none 0 0) ?_ (.d (.v _));simp only[Instr.sliceAt,Instr.slice,dS,cZ hu,fB,hbb,sX hte,oD];congr 2
  ·simp
  ·have:(hi'.getD ↑(0:Nat)).toNat=0:=by omega
   omega
  ·cases mx' with
   |none=>simp
   |some m=>simp only[vB]at b4⊢;omega
 ·rename_i E fc es hk;cases he;obtain⟨hbd,hss⟩:=hsc;have hu:=uU hT hk;obtain⟨te,hte,rfl⟩:=hE _ hk;obtain⟨b1,b2,b3,b4⟩:=id hbd;have hle:((es.take (hi'.getD es.length).toNat).drop (lo'.getD 0).toNat).length=(hi'.getD es.length).toNat-(lo'.getD 0).toNat:=by
   rw[AY,CL];omega
  have emp0:es=[]->∀v,(v=.slice none 0 0\/∃a,v=.slice (some a) 0 0)->∀fc',RV σ I w (.d (.ro fc' ((es.take (hi'.getD es.length).toNat).drop (lo'.getD 0).toNat))) v:=by
   rintro rfl v hv fc';simp only[List.take_nil,List.drop_nil];rcases hv with rfl|⟨a,rfl⟩
   ·exact .d .nil
   ·exact .d .emp
  cases hx with
  |d hx=>
   generalize hy:a.eval x=y at hx fin;cases hx with
   |nil=>
    have hbb:=xD (P:=P) (w:=w) (isS:=true) (len:=0) (cap:=0) il ih im hbd hmh' (bY _);refine fin (.slice none 0 0) ?_ (emp0 rfl _ (.inl rfl) _);simp only[gZ]at b3 b4 b2;simp only[Instr.sliceAt,Instr.slice,dS,cZ hu,fB,hbb,sX hte,oD];congr 2
    ·simp
    ·omega
    ·cases mx' with
     |none=>simp
     |some m=>simp only[vB]at b4⊢;omega
   | @emp _ ad=>
     have hbb:=xD (P:=P) (w:=w) (isS:=true) (len:=0) (cap:=0) il ih im hbd hmh' (bY _);simp only[gZ]at b3 b4 b2;refine fin (.slice (some ad) 0 0) ?_ (emp0 rfl _ (.inr ⟨ad,rfl⟩) _);simp only[Instr.sliceAt,Instr.slice,dS,cZ hu,fB,hbb,sX hte,oD];have e1:(lo'.getD 0).toNat=0:=by omega
     have e2:(sA mx' 0)=0:=by
      cases mx' with
      |none=>rfl
      |some m=>simp only[vB]at b4⊢;omega
     rw[e1,e2];congr 2
     omega
   | @ro z _ _ blk off cap val hI hsz hcap hmax hfc hc hr h1=>
     have hbb:=xD (P:=P) (w:=w) (isS:=true) (len:=es.length) (cap:=cap) il ih im hbd hmh' hcap;have hm1:(hi'.getD ↑es.length).toNat<=(sA mx' cap):=by
      cases mx' with
      |none=>simp only[P8];omega
      |some m=>simp only[vB]at b4⊢;omega
     have hm2:(sA mx' cap)<=cap:=by
      cases mx' with
      |none=>exact bY _
      |some m=>simp only[vB]at b4⊢;omega
     generalize hM:(sA mx' cap)=M at hbb hm1 hm2
     have hrun:(Instr.sliceAt T (.slice (some ⟨blk,off,none⟩) es.length cap) (lo.map a.eval) (hi.map a.eval) (mx.map a.eval)).run P w=
       .ok (.slice (if M=(lo'.getD 0).toNat then some ⟨blk,off,none⟩else some ⟨blk,off+(lo'.getD 0).toNat*te.sz,none⟩) ((hi'.getD es.length).toNat-(lo'.getD 0).toNat) (M-(lo'.getD 0).toNat)) w:=by
      simp only[Instr.sliceAt,Instr.slice,dS,cZ hu,fB,hbb,sX hte,oD,tM,add_plain]
     refine fin _ hrun ?_;by_cases hml:M=(lo'.getD 0).toNat
     ·rw[aZ hml,hml];have:(hi'.getD es.length).toNat-(lo'.getD 0).toNat=0:=by omega
      rw[this,Nat.sub_self];rw[this]at hle;rw[kH hle];exact .d .emp
     ·rw[aT hml,<-hle];have get:∀k e,((es.take (hi'.getD es.length).toNat).drop (lo'.getD 0).toNat)[k]? =some e->es[(lo'.getD 0).toNat+k]? =some e:=by
       intro k e hk;rw[CN,List.getElem?_take]at hk;split at hk
       ·exact hk
       ·cases hk
      have hz:∀k e,es[k]? =some e->z=te.sz:=λk e he=>by rw[<-hsz e (gT he)];exact hss e (gT he)
      refine .d (.ro (sz:=te.sz) (λi j=>val ((lo'.getD 0).toNat+i) j) hI (λe he=>hss e (pY (yB he))) (by rw[hle];omega) (by omega) (λhf=>?_) (λi e j c he hcc=>?_) (λi e j c he hcc=>hr _ e j c (get i e he) hcc) (λi e j c he hcc=>h1 _ e j c (get i e he) hcc))
      ·rw[hle];cases mx' with
       |none=>
        simp only[bL,dA]at hf;have:=hfc hf.1;simp only[P8]at hM;omega
       |some m=>simp only[dA,vB]at hf hM;omega
      ·have:=hc _ e j c (get i e he) hcc;rw[hz _ e (get i e he),kC]at this;rw[Nat.add_assoc off];exact this
 ·rename_i E b hk;split at he
  ·rename_i z es T' hb;split at he
   ·rename_i hz;subst hz;cases he;have hu:=uU hT hk;obtain⟨te,hte,rfl⟩:=hE _ hk;obtain⟨b1,b2,b3,b4⟩:=id hsc;obtain⟨y,hy,hrb⟩:=hm.grow (aN.kY hb (.inl (by simp)));generalize hev:a.eval x=u at hx fin;cases hx with
    |own h' _=>
     rw[hy]at h';cases h';rcases hrb with⟨rfl,rfl⟩|⟨ad,rfl,rfl⟩|⟨n,cap,arr,rfl,g1,g2,g3,g4,g5,g6⟩
     ·have hbb:=xD (P:=P) (w:=w) (isS:=true) (len:=0) (cap:=0) il ih im hsc hmh' (bY _);simp only[gZ]at b3 b4 b2;have e1:(lo'.getD 0).toNat=0:=by omega
      have e3:(hi'.getD ↑(0:Nat)).toNat=0:=by omega
      have e2:(sA mx' 0)=0:=by
       cases mx' with
       |none=>rfl
       |some m=>simp only[vB]at b4⊢;omega
      refine fin (.slice none 0 0) ?_ ?_
      ·simp only[Instr.sliceAt,Instr.slice,dS,cZ hu,fB,hbb,sX hte,oD,e1,e2,e3];rfl
      ·simp only[gZ,e1,e3];exact .sl hy .nil
     ·have hbb:=xD (P:=P) (w:=w) (isS:=true) (len:=0) (cap:=0) il ih im hsc hmh' (bY _);simp only[gZ]at b3 b4 b2;have e1:(lo'.getD 0).toNat=0:=by omega
      have e3:(hi'.getD ↑(0:Nat)).toNat=0:=by omega
      have e2:(sA mx' 0)=0:=by
       cases mx' with
       |none=>rfl
       |some m=>simp only[vB]at b4⊢;omega
      refine fin (.slice (some ad) 0 0) ?_ ?_
      ·simp only[Instr.sliceAt,Instr.slice,dS,cZ hu,fB,hbb,sX hte,oD,e1,e2,e3];rfl
      ·simp only[gZ,e1,e3];exact .sl hy (.none ad)
     ·have hbb:=xD (P:=P) (w:=w) (isS:=true) (len:=es.length) (cap:=cap) il ih im hsc hmh' g3;have hm1:(hi'.getD ↑es.length).toNat<=(sA mx' cap):=by
       cases mx' with
       |none=>simp only[P8];omega
       |some m=>simp only[vB]at b4⊢;omega
      have hm2:(sA mx' cap)<=cap:=by
       cases mx' with
       |none=>exact bY _
       |some m=>simp only[vB]at b4⊢;omega
      generalize hM:(sA mx' cap)=M at hbb hm1 hm2
      have hrun:(Instr.sliceAt T (.slice (some ⟨n,0,none⟩) es.length cap) (lo.map a.eval) (hi.map a.eval) (mx.map a.eval)).run P w=
        .ok (.slice (if M=(lo'.getD 0).toNat then some ⟨n,0,none⟩else some ⟨n,(lo'.getD 0).toNat*te.sz,none⟩) ((hi'.getD es.length).toNat-(lo'.getD 0).toNat) (M-(lo'.getD 0).toNat)) w:=by
       simp only[Instr.sliceAt,Instr.slice,dS,cZ hu,fB,hbb,sX hte,oD,tM,add_plain,AR]
      refine fin _ hrun ?_;by_cases hml:M=(lo'.getD 0).toNat
      ·rw[aZ hml,hml];have:(hi'.getD es.length).toNat-(lo'.getD 0).toNat=0:=by omega
       rw[this,Nat.sub_self];exact .sl hy (.none _)
      ·rw[aT hml];exact .sl hy (.some (by omega) (by omega))
   ·cases he
  ·cases he
 ·rename_i E b z i len hk;split at he
  ·rename_i hz;subst hz;cases he;have hu:=uU hT hk;obtain⟨te,hte,rfl⟩:=hE _ hk;obtain⟨b1,b2,b3,b4⟩:=id hsc;generalize hev:a.eval x=u at hx fin;cases hx with
   |sl h' hs=>
    cases hs with
    |nil=>
     have hbb:=xD (P:=P) (w:=w) (isS:=true) (len:=0) (cap:=0) il ih im hsc hmh' (bY _);have e1:(lo'.getD 0).toNat=0:=by omega
     have e3:(hi'.getD ↑(0:Nat)).toNat=0:=by omega
     have e2:(sA mx' 0)=0:=by
      cases mx' with
      |none=>rfl
      |some m=>simp only[vB]at b4⊢;omega
     refine fin (.slice none 0 0) ?_ ?_
     ·simp only[Instr.sliceAt,Instr.slice,dS,cZ hu,fB,hbb,sX hte,oD,e1,e2,e3];rfl
     ·simp only[e1,e3];exact .sl h' .nil
    |none ad=>
     have hbb:=xD (P:=P) (w:=w) (isS:=true) (len:=0) (cap:=0) il ih im hsc hmh' (bY _);have e1:(lo'.getD 0).toNat=0:=by omega
     have e3:(hi'.getD ↑(0:Nat)).toNat=0:=by omega
     have e2:(sA mx' 0)=0:=by
      cases mx' with
      |none=>rfl
      |some m=>simp only[vB]at b4⊢;omega
     refine fin (.slice (some ad) 0 0) ?_ ?_
     ·simp only[Instr.sliceAt,Instr.slice,dS,cZ hu,fB,hbb,sX hte,oD,e1,e2,e3];rfl
     ·simp only[e1,e3];exact .sl h' (.none ad)
    |some hcc hll=>
     rename_i n L cap C;have hbb:=xD (P:=P) (w:=w) (isS:=true) (len:=len) (cap:=C) il ih im hsc hmh' hll;have hm1:(hi'.getD ↑len).toNat<=(sA mx' C):=by
      cases mx' with
      |none=>simp only[P8];omega
      |some m=>simp only[vB]at b4⊢;omega
     have hm2:(sA mx' C)<=C:=by
      cases mx' with
      |none=>exact bY _
      |some m=>simp only[vB]at b4⊢;omega
     generalize hM:(sA mx' C)=M at hbb hm1 hm2
     have hrun:(Instr.sliceAt T (.slice (some ⟨n,i*te.sz,none⟩) len C) (lo.map a.eval) (hi.map a.eval) (mx.map a.eval)).run P w=
       .ok (.slice (if M=(lo'.getD 0).toNat then some ⟨n,i*te.sz,none⟩else some ⟨n,i*te.sz+(lo'.getD 0).toNat*te.sz,none⟩) ((hi'.getD len).toNat-(lo'.getD 0).toNat) (M-(lo'.getD 0).toNat)) w:=by
      simp only[Instr.sliceAt,Instr.slice,dS,cZ hu,fB,hbb,sX hte,oD,tM,add_plain]
     refine fin _ hrun ?_;by_cases hml:M=(lo'.getD 0).toNat
     ·rw[aZ hml,hml];have:(hi'.getD len).toNat-(lo'.getD 0).toNat=0:=by omega
      rw[this,Nat.sub_self];exact .sl h' (.none _)
     ·rw[aT hml,<-kC];exact .sl h' (.some (by omega) (by omega))
  ·cases he
 ·cases he
def chunk {α:Type}(sz:Nat):Nat->List α->List (List α)
 |0,_=>[]
 |n+1,l=>l.take sz::chunk sz n (l.drop sz)
theorem ZL {α:Type}(sz:Nat):∀(n:Nat) (l:List α),(chunk sz n l).length=n
 |0,_=>rfl
 |n+1,l=>by simp[chunk,ZL sz n]
theorem Qx {α:Type}{sz:Nat}:∀{n:Nat} {l:List α},l.length=n*sz->∀e∈chunk sz n l,e.length=sz
 |0,_,_,e,h=>by cases h
 |n+1,l,hl,e,h=>by
  simp only[chunk,kD]at h;rw[kC,sN]at hl;rcases h with rfl|h
  ·rw[CL];omega
  ·exact Qx (n:=n) (l:=l.drop sz) (by rw[AY];omega) e h
theorem Qy {α:Type}{sz:Nat}:∀{n:Nat} {l:List α} {i j:Nat} {e:List α} {c:α},l.length=n*sz->(chunk sz n l)[i]? =some e->e[j]? =some c->l[i*sz+j]? =some c
 |0,_,_,_,_,_,_,h,_=>by simp[chunk]at h
 |n+1,l,0,j,e,c,hl,h,hc=>by
  simp only[chunk,GG,pX]at h;subst h;rw[List.getElem?_take]at hc;split at hc
  ·simpa using hc
  ·cases hc
 |n+1,l,i+1,j,e,c,hl,h,hc=>by
  simp only[chunk,JQ]at h;rw[kC,sN]at hl;have:=Qy (n:=n) (l:=l.drop sz) (by rw[AY];omega) h hc;rw[CN]at this;rw[kC,sN,show i*sz+sz+j=sz+(i*sz+j) by omega];exact this
def LY (sz len:Nat)(zero:List Value)(E:TypeId)(nm:Nat)(parts:List (Nat×AV)):Option (Prop×aN):=
 match zY (λi=>some (i*sz,sz)) ((List.replicate len zero).flatten.map λv=>.d (.v v)) parts with
 |some l=>match q8 l with
  |some ds=>if len*sz<=16777216/\zero.length=sz/\len<=16777216/\ds.length=len*sz/\(l.all DE=true)then some (True,⟨.own nm,[],[(nm,some (.grow sz (chunk sz len ds) E))]⟩)else none
  |none=>none
 |none=>none
theorem MM {σ:Names}{I:Nat->Prop}{w:World}{d:D}{v:Value}(h:RV σ I w (.d d) v):RD I w d v:=by
 cases h with
 |d h=>exact h
theorem T2 (n sz:Nat)(z:Array Value)(hz:z.size=sz):((Array.range (n*sz)).map (z[· %z.size]!)).toList=(List.replicate n z.toList).flatten:=by
 subst hz;rw[TY,Array.toList_range];apply JT;intro q;rw[jX];rcases y9 q (n*z.size)with h|h
 ·have hz0:0<z.size:=by
   grind
  rw[List.getElem?_range h];simp;have key:∀(n q:Nat),q<n*z.size->(List.replicate n z.toList).flatten[q]? =some z[q%z.size]! :=by
   intro n;induction n with
   |zero=>intro q h;simp at h
   |succ n ih=>
    intro q h;rw[kC,sN]at h;rw[List.replicate_succ,List.flatten_cons];by_cases hq:q<z.size
    ·rw[qX (by simpa using hq),TK hq];simp[hq]
    ·rw[tN (by simp;omega)];have:=ih (q-z.size) (by omega);rw[Array.length_toList,this,Nat.mod_eq_sub_mod (a:=q) (by omega)]
  rw[key n q h]
 all_goals simp_all
theorem Jk {P:Program}{o:Oper}{T:TypeId}{len:Nat}{parts:Array (Nat×Operand)}(ho:o.op=.buildSlice T len parts)(tm:Nat->AV)(mem:Mem)(nm:Nat){ti te:TI}{E:TypeId}(hT:aS P T=some ti)(hk:ti.k=.dX E)(hE:aS P E=some te){sc:Prop}{e:aN}
  (he:LY te.sz len te.zero E nm (parts.toList.map λp=>(p.1,ev tm p.2))=some (sc,e)):bJ P o tm (e.mr mem) nm e.res (e.mw mem):=by
 unfold LY at he;split at he
 case h_2=>cases he
 rename_i l hl;split at he
 case h_2=>cases he
 rename_i ds hds;split at he
 case isFalse=>cases he
 rename_i hc;obtain⟨c1,c2,c3',c4,c5⟩:=hc;have c3:len<=maxLen:=by simp only[maxLen];omega
 cases he;refine bJ.val λa w σ I hib h hm hfree=>?_;have hu:=uU hT hk;obtain⟨i,d,z,hi,hd,hz,hte⟩:=jO hE;have hparts:∀(j:Nat) p q,(parts.toList.map λp=>(p.1,ev tm p.2))[j]? =some p->((parts.map λ(i,x)=>(i,a.eval x)).toList)[j]? =some q->p.1=q.1/\RV σ I w p.2 q.2:=by
  intro j p q h1 h2;simp only[jX,TY]at h1 h2;cases hx:parts.toList[j]? with
  |none=>simp[hx]at h1
  |some x=>
   rw[hx]at h1 h2;simp at h1 h2;subst h1;subst h2;refine⟨rfl,dG λs e=>h s ?_⟩;simp only[ho,Op.operands,List.mem_toArray,fU];exact⟨x,gT hx,e⟩
 have hsz:i.size=te.sz:=by rw[hte]
 have hzz:te.zero=z.cells.toList:=by rw[hte]
 have hzc:z.cells.size=te.sz:=by rw[<-c2,hzz];simp
 have hzero:(zeroValue E).run P w=.ok z w:=by simp[zeroValue,typeInfo,hi,hz]
 have hz1:((Array.range (len*te.sz)).map (z.cells[· %z.cells.size]!)).size=((List.replicate len te.zero).flatten.map λv=>AV.d (.v v)).length:=by
  rw[<-Array.length_toList,T2 len te.sz z.cells hzc,hzz];simp
 obtain⟨arr',f1,f2,f3⟩:=RJ (σ:=σ) (I:=I) (w:=w) _ _ _ ((Array.range (len*te.sz)).map (z.cells[· %z.cells.size]!)) l hl (by simp) hparts hz1 (λq c x h1 h2=>by
  rw[<-zG,T2 len te.sz z.cells hzc,<-hzz]at h2;rw[jX,h2]at h1;cases h1;exact .d (.v _))
 have hld:=vY hds;subst hld;have hrun:(Instr.buildSlice T len (parts.map λ(i,x)=>(i,a.eval x))).run P w=.ok (.slice (some ⟨w.heap.size,0,none⟩) len len) (w.alloc (.cells arr' E (0,0))):=by
  simp only[Instr.buildSlice,dS,cZ hu,fB,sX hE];rw[aT (by omega)];by_cases h0:len*te.sz=0
  ·have:(Array.range (len*te.sz)).map (z.cells[· %z.cells.size]!)=#[]:=by rw[h0];simp
   rw[this]at f1;have f1':Instr.fill (λi=>some (i*te.sz,te.sz)) #[] (Array.map (λx=>(x.fst,a.eval x.snd)) parts).toList=some arr':=f1;simp only[h0,pure_bind];rw[show(Array.range 0).map ((#[]:Array Value)[· % (#[]:Array Value).size]!)=#[] by simp,f1'];simp[newRow]
  ·have f1':Instr.fill (λi=>some (i*te.sz,te.sz)) ((Array.range (len*te.sz)).map (z.cells[· %z.cells.size]!)) (Array.map (λx=>(x.fst,a.eval x.snd)) parts).toList=some arr':=f1;rw[aT h0];simp only[dS,hzero,oD,fB,f1'];simp[newRow]
 have hcell:∀(i:Nat) e (j:Nat) c,(chunk te.sz len ds)[i]? =some e->e[j]? =some c->∃x,arr'.toList[i*te.sz+j]? =some x/\RD I w c x/\x.oneCell'=true:=by
  intro i e j c he hcc;have hg:=Qy c4 he hcc;have hlt:=(cE.1 hg).1;have ha:i*te.sz+j<arr'.size:=by rw[f2];simpa using hlt
  have hmap:(ds.map AV.d)[i*te.sz+j]? =some (.d c):=by simp[hg]
  have hv:=f3 (i*te.sz+j) _ _ hmap (uQ ha);refine⟨arr'[i*te.sz+j],by simp[ha],MM hv,PR hv ?_⟩;exact dP.1 c5 _ (gT hmap)
 have hfr:σ nm=none:=hfree nm ⟨bY _,by omega⟩;refine⟨.slice (some ⟨w.heap.size,0,none⟩) len len,w.alloc (.cells arr' E (0,0)),fC σ nm (.slice (some ⟨w.heap.size,0,none⟩) len len),I,?_,?_,.own (by simp[fC]) rfl⟩
 ·simp only[execOp,ho,dS,hrun,fB];rfl
 ·refine eG.swap (k:=.grow te.sz (chunk te.sz len ds) E) none hib hm hfr rfl rfl ⟨rfl,bY _⟩ (by simp) (λj hj _=>wX w _ hj) (λσ' _=>?_) (λn hn=>?_) (λc q hq=>?_)
  ·have:=HA (σ:=σ') (I:=I) (w:=w.alloc (.cells arr' E (0,0))) (sz:=te.sz) (es:=chunk te.sz len ds) (T:=E) (cap:=len) (vals:=arr'.toList) (ED w _) (by rw[ZL];exact bY _) c3 (by rw[f2];simp[c4]) (Qx c4) (λq u h=>by simpa using h)
    (λi e j c he hcc=>let⟨x,p1,p2,p3⟩:=hcell i e j c he hcc;⟨x,p1,p2.mono (λn hn=>wX w _ (hib n hn)) (λ_ h=>h),p3⟩)
   rwa[ZL]at this
  ·rcases wY len with h0|h0
   ·subst h0;cases hn
   ·rw[vJ h0]at hn;cases hn;exact .inr ⟨bY _,by simp⟩
  ·rw[aN.H7]at hq;by_cases e:c=nm
   ·simp[e]at hq;exact .inl ⟨e,hq.symm⟩
   ·simp[e]at hq
theorem aN.P9 {res:AV}{m:Mem}{b:Nat}{k:aY}:∀c q,(aN.mk res [] [(b,some k)]).mw m c=some q->c=b/\q=k:=by
 intro c q hq;rw[aN.H7]at hq;simp_all
theorem zea {P:Program}{o:Oper}{T:TypeId}{r:Option Operand}(ho:o.op=.makeMap T r)(hr:r=none)(tm:Nat->AV)(mem:Mem)(nm:Nat)(ka:Bool)(ks:List CK)(va:Bool){e:aN}
  (he:e=⟨.own nm,[],[(nm,some (.map ka ks va λ_=>none))]⟩):bJ P o tm (e.mr mem) nm e.res (e.mw mem):=by
 subst he;subst hr;refine bJ.val λa w σ I hib h hm hfree=>?_;have hfr:σ nm=none:=hfree nm ⟨bY _,by omega⟩;refine⟨.map (some w.heap.size),w.alloc (.map #[] 0),fC σ nm (.map (some w.heap.size)),I,?_,?_,.own (by simp[fC]) rfl⟩
 ·simp[execOp,ho];rfl
 ·refine eG.swap (k:=.map ka ks va λ_=>none) none hib hm hfr rfl rfl ⟨rfl,bY _⟩ (by simp) (λj hj _=>wX w _ hj) (λσ' _=>?_) (λn hn=>?_) (λc q hq=>.inl (aN.P9 c q hq))
  ·exact .map (λ_=>[]) (λ_=>[]) (ED w _) (λi e h=>by simp at h) (λi e h=>by simp at h) (λi j h=>by simp at h) (λk d h=>by cases h) (λi d j c x h=>by simp at h)
  ·cases hn;exact .inr ⟨bY _,by simp⟩
theorem zd0 {P:Program}{o:Oper}{T:TypeId}{x:Operand}(ho:o.op=.range T x)(tm:Nat->AV)(mem:Mem)(nm:Nat){ti:TI}(hT:aS P T=some ti)(hk:ti.k=.str){s:ByteArray}(hx:ev tm x=.d (.v (.string s))){e:aN}
  (he:e=⟨.own nm,[],[(nm,some (.iter s 0))]⟩):bJ P o tm (e.mr mem) nm e.res (e.mw mem):=by
 subst he;refine bJ.val λa w σ I hib h hm hfree=>?_;have hfr:σ nm=none:=hfree nm ⟨bY _,by omega⟩;have hv:=dG (σ:=σ) (I:=I) (w:=w) (tm:=tm) (a:=a) (x:=x) λs e=>h s (by simp[ho,Op.operands,e]);rw[hx]at hv;have hu:=J7 hT hk;refine⟨.pointer (some ⟨w.heap.size,0,none⟩),w.alloc (.stringIter s 0),fC σ nm (.pointer (some ⟨w.heap.size,0,none⟩)),I,?_,?_,.own (by simp[fC]) rfl⟩
 ·simp[execOp,ho,eF hv,Instr.range,cZ hu,newObj];rfl
 ·refine eG.swap (k:=.iter s 0) none hib hm hfr rfl rfl ⟨rfl,bY _⟩ (by simp) (λj hj _=>wX w _ hj) (λσ' _=>?_) (λn hn=>?_) (λc q hq=>.inl (aN.P9 c q hq))
  ·exact .iter (ED w _) rfl
  ·cases hn;exact .inr ⟨bY _,by simp⟩
def PZ (mem:Mem):AV->Option (Prop×aN)
 |.own b=>match mem b with
  |some (.iter s pos)=>if pos<s.size then some (True,⟨.aU [.d (.v (.bool true)),.d (.v (.int .i64 pos)),.d (.v (.int .i32 (Utf8.decode s pos).1))],[],[(b,some (.iter s (pos+(Utf8.decode s pos).2)))]⟩)
   else some (True,⟨.aU [.d (.v (.bool false))],[b],[]⟩)
  |_=>none
 |_=>none
theorem zd5 {P:Program}{o:Oper}{x:Operand}(ho:o.op=.next x true)(tm:Nat->AV)(mem:Mem)(nm:Nat){sc:Prop}{e:aN}(he:PZ mem (ev tm x)=some (sc,e)):bJ P o tm (e.mr mem) nm e.res (e.mw mem):=by
 unfold PZ at he;split at he
 case h_2=>cases he
 rename_i b hx;split at he
 case h_2=>cases he
 rename_i s pos hb;have rd:∀{mr:Mem} {a:Act} {w:World} {σ:Names} {I:Nat->Prop},RM σ I w mr->mr b=some (.iter s pos)->RV σ I w (ev tm x) (a.eval x)->∃n,a.eval x=.pointer (some ⟨n,0,none⟩)/\w.heap[n]? =some (.stringIter s pos)/\σ b=some (.pointer (some ⟨n,0,none⟩)):=by
  intro mr a w σ I hm hb' hv;rw[hx]at hv;obtain⟨y,hy,hrb,_⟩:=hm.blk b _ hb';cases hv with
  |own h _=>
   rw[hy]at h;cases h;cases hrb with
   |iter hw hx'=>exact⟨_,hx',hw,by rw[<-hx'];exact hy⟩
 split at he
 ·rename_i hlt;cases he;refine bJ.val λa w σ I hib h hm hfree=>?_;have hmb:=aN.kY (e:=⟨.aU [.d (.v (.bool true)),.d (.v (.int .i64 pos)),.d (.v (.int .i32 (Utf8.decode s pos).1))],[],[(b,some (.iter s (pos+(Utf8.decode s pos).2)))]⟩) hb (.inr (by simp[wrote]));obtain⟨n,h1,h2,h3⟩:=rd (a:=a) hm hmb (dG λs e=>h s (by simp[ho,Op.operands,e]));refine⟨_,{w with heap:=w.heap.setIfInBounds n (.stringIter s (pos+(Utf8.decode s pos).2))},σ,I,?_,?_,RV.aU (xs:=[.bool true,.int .i64 pos,.int .i32 (Utf8.decode s pos).1]) rfl ?_⟩
  ·simp[execOp,ho,h1,Instr.next,getObj,setObj,Sem.run,h2,hlt,goInt]
  ·refine eG.write (w':={w with heap:=w.heap.setIfInBounds n (.stringIter s (pos+(Utf8.decode s pos).2))}) (k':=.iter s (pos+(Utf8.decode s pos).2)) hib hm hmb h3 rfl (λj hj=>?_) (by simp) rfl rfl ⟨rfl,bY _⟩ (.iter ?_ rfl) (λc q hq=>?_)
   ·simp[vU (x9 hj)]
   ·have hlt':=(qZ.1 h2).1;simp[hlt']
   ·exact GV c q hq
  ·intro i c y h1 h2
   match i,h1,h2 with
   |0,h1,h2=>simp at h1 h2;subst h1;subst h2;exact .d (.v _)
   |1,h1,h2=>simp at h1 h2;subst h1;subst h2;exact .d (.v _)
   |2,h1,h2=>simp at h1 h2;subst h1;subst h2;exact .d (.v _)
   |i+3,h1,h2=>simp at h1
 ·rename_i hlt;cases he;rw[aN.vC];refine bJ.pure λa w σ I h hm=>?_;obtain⟨n,h1,h2,h3⟩:=rd (a:=a) hm (aN.kY hb (.inl (by simp))) (dG λs e=>h s (by simp[ho,Op.operands,e]));refine⟨_,?_,RV.aU (xs:=[.bool false]) rfl ?_⟩
  ·simp[execOp,ho,h1,Instr.next,getObj,Sem.run,h2,hlt]
  ·intro i c y h1 h2
   match i,h1,h2 with
   |0,h1,h2=>simp at h1 h2;subst h1;subst h2;exact .d (.v _)
   |i+1,h1,h2=>simp at h1
end Go.AI
