/-
  A FRAMEWORK OF MY OWN (1)
-/
import Derived.Orders
import Derived.WalkKit
import Derived.OwnWalkIn
import Derived.TacticsInMore
import Derived.LoopNIn
import Derived.LoopIn
import Derived.RegionIn
set_option linter.unusedSimpArgs false
set_option linter.unusedVariables false
set_option maxRecDepth 100000
set_option maxHeartbeats 8000000
namespace Go
theorem iV:type_of% @Array.getElem?_eq_getElem:=@Array.getElem?_eq_getElem
theorem CN:type_of% @Array.getElem?_eq_none:=@Array.getElem?_eq_none
theorem e7:type_of% @Array.getElem?_eq_some_iff:=@Array.getElem?_eq_some_iff
theorem rN:type_of% @Array.getElem?_modify:=@Array.getElem?_modify
theorem v7:type_of% @Array.getElem?_push:=@Array.getElem?_push
theorem lH:type_of% @Array.getElem?_setIfInBounds_ne:=@Array.getElem?_setIfInBounds_ne
theorem uK:type_of% @Array.getElem?_toList:=@Array.getElem?_toList
theorem CM:type_of% @Array.toList_map:=@Array.toList_map
theorem bN:type_of% @Bool.and_eq_true:=@Bool.and_eq_true
theorem pI:type_of% @Bool.and_false:=@Bool.and_false
theorem pH:type_of% @Bool.eq_iff_iff:=@Bool.eq_iff_iff
theorem rM:type_of% @Bool.false_and:=@Bool.false_and
theorem CL:type_of% @Bool.false_eq_true:=@Bool.false_eq_true
theorem CJ:type_of% @Bool.false_ne_true:=@Bool.false_ne_true
theorem vZ:type_of% @Bool.not_and:=@Bool.not_and
theorem pG:type_of% @Bool.or_eq_true:=@Bool.or_eq_true
theorem pF:type_of% @Bool.true_and:=@Bool.true_and
theorem gP:type_of% @Iff.rfl:=@Iff.rfl
theorem nQ:type_of% @Int.not_lt:=@Int.not_lt
theorem yO:type_of% @IntWalk.i64_in:=@IntWalk.i64_in
theorem oL:type_of% @List.all_cons:=@List.all_cons
theorem gY:type_of% @List.all_eq_false:=@List.all_eq_false
theorem yN:type_of% @List.all_eq_not_any_not:=@List.all_eq_not_any_not
theorem cS:type_of% @List.all_eq_true:=@List.all_eq_true
theorem yM:type_of% @List.any_eq_true:=@List.any_eq_true
theorem CH:type_of% @List.append_assoc:=@List.append_assoc
theorem yL:type_of% @List.append_nil:=@List.append_nil
theorem yK:type_of% @List.cons_append:=@List.cons_append
theorem qG:type_of% @List.drop_drop:=@List.drop_drop
theorem qF:type_of% @List.drop_eq_getElem_cons:=@List.drop_eq_getElem_cons
theorem GJ:type_of% @List.drop_eq_nil_of_le:=@List.drop_eq_nil_of_le
theorem sQ:type_of% @List.drop_length:=@List.drop_length
theorem gX:type_of% @List.eq_nil_of_length_eq_zero:=@List.eq_nil_of_length_eq_zero
theorem GI:type_of% @List.eq_of_mem_replicate:=@List.eq_of_mem_replicate
theorem yJ:type_of% @List.ext_getElem?:=@List.ext_getElem?
theorem jM:type_of% @List.filter_append:=@List.filter_append
theorem nP:type_of% @List.find?_cons:=@List.find?_cons
theorem CG:type_of% @List.find?_eq_none:=@List.find?_eq_none
theorem vY:type_of% @List.findIdx?_cons:=@List.findIdx?_cons
theorem mY:type_of% @List.foldl_append:=@List.foldl_append
theorem iG:type_of% @List.foldl_cons:=@List.foldl_cons
theorem lS:type_of% @List.getElem?_append_left:=@List.getElem?_append_left
theorem mF:type_of% @List.getElem?_append_right:=@List.getElem?_append_right
theorem sP:type_of% @List.getElem?_drop:=@List.getElem?_drop
theorem bL:type_of% @List.getElem?_eq_getElem:=@List.getElem?_eq_getElem
theorem CF:type_of% @List.getElem?_eq_none:=@List.getElem?_eq_none
theorem cJ:type_of% @List.getElem?_eq_some_iff:=@List.getElem?_eq_some_iff
theorem fN:type_of% @List.getElem?_map:=@List.getElem?_map
theorem sO:type_of% @List.getElem?_of_mem:=@List.getElem?_of_mem
theorem GH:type_of% @List.getElem?_take_of_lt:=@List.getElem?_take_of_lt
theorem yI:type_of% @List.getElem?_toArray:=@List.getElem?_toArray
theorem mD:type_of% @List.getElem_mem:=@List.getElem_mem
theorem yH:type_of% @List.getLastD_eq_getLast?:=@List.getLastD_eq_getLast?
theorem oK:type_of% @List.length_append:=@List.length_append
theorem jL:type_of% @List.length_cons:=@List.length_cons
theorem vX:type_of% @List.length_drop:=@List.length_drop
theorem CE:type_of% @List.length_eq_zero_iff:=@List.length_eq_zero_iff
theorem eE:type_of% @List.length_filter_le:=@List.length_filter_le
theorem vW:type_of% @List.length_map:=@List.length_map
theorem j6:type_of% @List.length_nil:=@List.length_nil
theorem CD:type_of% @List.length_pos_iff:=@List.length_pos_iff
theorem sN:type_of% @List.length_take:=@List.length_take
theorem sM:type_of% @List.map_append:=@List.map_append
theorem fM:type_of% @List.map_cons:=@List.map_cons
theorem qE:type_of% @List.map_nil:=@List.map_nil
theorem sL:type_of% @List.map_take:=@List.map_take
theorem fZ:type_of% @List.mem_append:=@List.mem_append
theorem iF:type_of% @List.mem_cons:=@List.mem_cons
theorem jK:type_of% @List.mem_filter:=@List.mem_filter
theorem dV:type_of% @List.mem_map:=@List.mem_map
theorem gI:type_of% @List.mem_of_getElem?:=@List.mem_of_getElem?
theorem rL:type_of% @List.mem_of_mem_take:=@List.mem_of_mem_take
theorem vV:type_of% @List.mem_range:=@List.mem_range
theorem uJ:type_of% @List.mem_singleton:=@List.mem_singleton
theorem uI:type_of% @List.nil_append:=@List.nil_append
theorem pE:type_of% @List.pairwise_cons:=@List.pairwise_cons
theorem vU:type_of% @List.size_toArray:=@List.size_toArray
theorem eW:type_of% @List.take_add_one:=@List.take_add_one
theorem yG:type_of% @List.take_append:=@List.take_append
theorem bK:type_of% @List.take_length:=@List.take_length
theorem fU:type_of% @Nat.add_mul:=@Nat.add_mul
theorem uH:type_of% @Nat.add_zero:=@Nat.add_zero
theorem mX:type_of% @Nat.eq_zero_or_pos:=@Nat.eq_zero_or_pos
theorem aY:type_of% @Nat.le_refl:=@Nat.le_refl
theorem cD:type_of% @Nat.le_trans:=@Nat.le_trans
theorem pD:type_of% @Nat.lt_of_lt_of_le:=@Nat.lt_of_lt_of_le
theorem pC:type_of% @Nat.lt_or_ge:=@Nat.lt_or_ge
theorem CC:type_of% @Nat.mod_eq_of_lt:=@Nat.mod_eq_of_lt
theorem qD:type_of% @Nat.mul_comm:=@Nat.mul_comm
theorem mC:type_of% @Nat.mul_le_mul_right:=@Nat.mul_le_mul_right
theorem nO:type_of% @Nat.one_mul:=@Nat.one_mul
theorem yF:type_of% @Nat.sub_zero:=@Nat.sub_zero
theorem rK:type_of% @Nat.zero_add:=@Nat.zero_add
theorem jJ:type_of% @Nat.zero_le:=@Nat.zero_le
theorem mW:type_of% @Ne.symm:=@Ne.symm
theorem vT:type_of% @Option.bind_some:=@Option.bind_some
theorem CB:type_of% @Option.getD_some:=@Option.getD_some
theorem oJ:type_of% @Option.isSome_iff_exists:=@Option.isSome_iff_exists
theorem iU:type_of% @Option.map_eq_some_iff:=@Option.map_eq_some_iff
theorem lF:type_of% @Option.map_some:=@Option.map_some
theorem kJ:type_of% @Option.some.inj:=@Option.some.inj
theorem mV:type_of% @Option.some.injEq:=@Option.some.injEq
theorem cC:type_of% @Result.andThen_ok:=@Result.andThen_ok
theorem bV:type_of% @Sem.run_bind:=@Sem.run_bind
theorem gW:type_of% @Sem.run_pure:=@Sem.run_pure
theorem uG:type_of% @UInt8.lt_iff_toNat_lt:=@UInt8.lt_iff_toNat_lt
theorem uF:type_of% @World.cell?_alloc_lt:=@World.cell?_alloc_lt
theorem GG:type_of% @World.frozen?_alloc_old:=@World.frozen?_alloc_old
theorem uE:type_of% @World.size_alloc:=@World.size_alloc
theorem sK:type_of% @callsIn_wide:=@callsIn_wide
theorem cI:type_of% @congrArg:=@congrArg
theorem CA:type_of% @decide_eq_decide:=@decide_eq_decide
theorem uD:type_of% @decide_eq_true:=@decide_eq_true
theorem dO:type_of% @decide_eq_true_eq:=@decide_eq_true_eq
theorem uC:type_of% @getElem!_pos:=@getElem!_pos
theorem uB:type_of% @heap_alloc_new:=@heap_alloc_new
theorem pB:type_of% @heap_alloc_old:=@heap_alloc_old
theorem j5:type_of% @if_false:=@if_false
theorem aR:type_of% @if_neg:=@if_neg
theorem bA:type_of% @if_pos:=@if_pos
theorem dY:type_of% @if_true:=@if_true
theorem kY:type_of% @of_decide_eq_false:=@of_decide_eq_false
theorem jI:type_of% @of_decide_eq_true:=@of_decide_eq_true
theorem rJ:type_of% @run_callFunc_extern:=@run_callFunc_extern
theorem bQ:type_of% @run_underlying:=@run_underlying
theorem uA:type_of% @setRow_other:=@setRow_other
theorem oI:type_of% @wpIn_mono:=@wpIn_mono
end Go
namespace Go.AI
inductive CK where
 |int|bool|str
 deriving DecidableEq
def CK.fits :CK->Value->Bool
 |.int,.int .i64 _=>true
 |.bool,.bool _=>true
 |.str,.string _=>true
 |_,_=>false
def dJ :List CK->List Value->Bool
 |[],[]=>true
 |k::ks,x::xs=>k.fits x&&dJ ks xs
 |_,_=>false
def mk (agg:Bool)(xs:List Value):Value:=if agg then .agg xs.toArray else xs.headD undef
inductive D where
 |v (x:Value)
 |agg (cs:List D)
 |ro (fc:Bool) (es:List (List D))
 |fn (f:Fn) (first captured:List D)
 |aT (cs:List D)
 |dC (t:TypeId) (x:D)
 |mp (ka:Bool) (ks:List CK) (va:Bool) (look:List Value->Option (List D))
inductive AV where
 |d (x:D)
 |any
 |ab
 |ptr (b off:Nat)
 |own (b:Nat)
 |dM (b sz i off:Nat)
 |sl (b sz i len:Nat)
 |agg (cs:List AV)
 |bC (vs:List AV)
 |fn (f:Fn) (first captured:List AV)
 |dC (t:TypeId) (x:AV)
inductive aN where
 |cells (cs:List AV) (T:TypeId)
 |grow (sz:Nat) (es:List (List D)) (T:TypeId)
 |map (ka:Bool) (ks:List CK) (va:Bool) (look:List Value->Option (List D))
 |iL (ka:Bool) (ks:List CK) (va:Bool) (look:List Value->Option (List D)) (kc:List Value) (c:Nat)
 |cL (es:Array MapEntry) (clock:Nat) (hole:Option (Nat×Nat))
 |iter (s:ByteArray) (pos:Nat)
 |cQ (ps:List Nat) (T:TypeId)
def hb :Value->Option Nat
 |.pointer (some a)=>some a.block
 |.slice (some a) _ (_+1)=>some a.block
 |.map (some n)=>some n
 |_=>none
theorem mR {a:Addr}{l c:Nat}(h:0<c):hb (.slice (some a) l c)=some a.block:=by
 cases c with
 |zero=>omega
 |succ c=>rfl
inductive RD (I:Nat->Prop)(w:World):D->Value->Prop
 |v (x:Value):RD I w (.v x) x
 |agg {cs:List D} {xs:List Value} (hl:xs.length=cs.length)
   (h:∀(i:Nat) c x,cs[i]? =some c->xs[i]? =some x->RD I w c x):RD I w (.agg cs) (.agg xs.toArray)
 |nil {fc:Bool}:RD I w (.ro fc []) (.slice none 0 0)
 |emp {fc:Bool} {a:Addr}:RD I w (.ro fc []) (.slice (some a) 0 0)
 |ro {sz:Nat} {fc:Bool} {es:List (List D)} {aS off cap:Nat} (val:Nat->Nat->Value) (hI:I aS)
   (hsz:∀e∈es,e.length=sz) (hcap:es.length<=cap) (hmax:cap<=maxLen) (hfc:fc=true->cap=es.length)
   (hc:∀(i:Nat) e (j:Nat) c,es[i]? =some e->e[j]? =some c->w.cell? ⟨aS,off+i*sz+j,none⟩=some (val i j))
   (hr:∀(i:Nat) e (j:Nat) c,es[i]? =some e->e[j]? =some c->RD I w c (val i j))
   (h1:∀(i:Nat) e (j:Nat) c,es[i]? =some e->e[j]? =some c->(val i j).oneCell'=true):
   RD I w (.ro fc es) (.slice (some ⟨aS,off,none⟩) es.length cap)
 |fn {f:Fn} {first captured:List D} {xs ys:List Value} (hx:xs.length=first.length) (hy:ys.length=captured.length)
   (h1:∀(i:Nat) c x,first[i]? =some c->xs[i]? =some x->RD I w c x)
   (h2:∀(i:Nat) c x,captured[i]? =some c->ys[i]? =some x->RD I w c x):RD I w (.fn f first captured) (.func f xs.toArray ys.toArray)
 |aT {cs:List D} {aS off:Nat} (val:Nat->Value) (hI:I aS)
   (hc:∀(j:Nat) c,cs[j]? =some c->w.cell? ⟨aS,off+j,none⟩=some (val j))
   (hr:∀(j:Nat) c,cs[j]? =some c->RD I w c (val j)) (h1:∀(j:Nat) c,cs[j]? =some c->(val j).oneCell'=true):RD I w (.aT cs) (.pointer (some ⟨aS,off,none⟩))
 |dC {t:TypeId} {x:D} {y:Value} (h:RD I w x y):RD I w (.dC t x) (.iface t y)
 |mp {ka:Bool} {ks:List CK} {va:Bool} {look:List Value->Option (List D)} {n clock:Nat} {es:Array MapEntry} (keys:Nat->List Value) (vals:Nat->List Value) (hI:I n) (hb:w.heap[n]? =some (.map es clock))
   (hk:∀(i:Nat) e,es[i]? =some e->e.key=mk ka (keys i)/\e.val=mk va (vals i)/\dJ ks (keys i)=true/\∃d,look (keys i)=some d/\d.length=(vals i).length)
   (hu:∀(i j:Nat),i<es.size->j<es.size->keys i=keys j->i=j)
   (hl:∀k d,look k=some d->∃i,i<es.size/\keys i=k)
   (hv:∀(i:Nat) d (j:Nat) c x,i<es.size->look (keys i)=some d->d[j]? =some c->(vals i)[j]? =some x->RD I w c x):RD I w (.mp ka ks va look) (.map (some n))
theorem BQ {w w':World}{a:Addr}(h:w'.heap[a.block]? =w.heap[a.block]?):w'.cell? a=w.cell? a:=by
 simp[World.cell?,h]
theorem RD.mono {I I':Nat->Prop}{w w':World}(hw:∀n,I n->w'.heap[n]? =w.heap[n]?)(hI:∀n,I n->I' n){d:D}{x:Value}
  (h:RD I w d x):RD I' w' d x:=by
 induction h with
 |v x=>exact .v x
 |agg hl _ ih=>exact .agg hl ih
 |nil=>exact .nil
 |emp=>exact .emp
 |ro val hi hsz hcap hmax hfc hc _ h1 ih=>
  exact .ro val (hI _ hi) hsz hcap hmax hfc (λi e j c h1 h2=>(BQ (hw _ hi)).trans (hc i e j c h1 h2)) ih h1
 |fn hx hy _ _ i1 i2=>exact .fn hx hy i1 i2
 |aT val hi hc _ h1 ih=>exact .aT val (hI _ hi) (λj c h1=>(BQ (hw _ hi)).trans (hc j c h1)) ih h1
 |dC _ ih=>exact .dC ih
 |mp keys vals hi hb hk hu hl _ ih=>exact .mp keys vals (hI _ hi) ((hw _ hi).trans hb) hk hu hl ih
abbrev Names :=Nat->Option Value
inductive x9 (sz:Nat):Value->Nat->Nat->Value->Prop
 |nil:x9 sz (.slice none 0 0) 0 0 (.slice none 0 0)
 |none {y:Value} {i:Nat} (a:Addr):x9 sz y i 0 (.slice (some a) 0 0)
 |some {n len cap i l c:Nat} (hc:i+c<=cap) (hl:l<=c):x9 sz (.slice (some ⟨n,0,none⟩) len cap) i l (.slice (some ⟨n,i*sz,none⟩) l c)
inductive RV (σ:Names)(I:Nat->Prop)(w:World):AV->Value->Prop
 |d {x:D} {y:Value} (h:RD I w x y):RV σ I w (.d x) y
 |any (y:Value):RV σ I w .any y
 |ab (t:Bool):RV σ I w .ab (.bool t)
 |ptr {b off n:Nat} (h:σ b=some (.pointer (some ⟨n,0,none⟩))):RV σ I w (.ptr b off) (.pointer (some ⟨n,off,none⟩))
 |own {b:Nat} {y:Value} (h:σ b=some y) (h1:y.oneCell'=true):RV σ I w (.own b) y
 |dM {b sz i off n len cap:Nat} (h:σ b=some (.slice (some ⟨n,0,none⟩) len cap)):RV σ I w (.dM b sz i off) (.pointer (some ⟨n,i*sz+off,none⟩))
 |sl {b sz i len:Nat} {y v:Value} (h:σ b=some y) (hs:x9 sz y i len v):RV σ I w (.sl b sz i len) v
 |agg {cs:List AV} {xs:List Value} (hl:xs.length=cs.length)
   (h:∀(i:Nat) c x,cs[i]? =some c->xs[i]? =some x->RV σ I w c x):RV σ I w (.agg cs) (.agg xs.toArray)
 |bC {cs:List AV} {xs:List Value} (hl:xs.length=cs.length)
   (h:∀(i:Nat) c x,cs[i]? =some c->xs[i]? =some x->RV σ I w c x):RV σ I w (.bC cs) (.tuple xs.toArray)
 |fn {f:Fn} {first captured:List AV} {xs ys:List Value} (hx:xs.length=first.length) (hy:ys.length=captured.length)
   (h1:∀(i:Nat) c x,first[i]? =some c->xs[i]? =some x->RV σ I w c x)
   (h2:∀(i:Nat) c x,captured[i]? =some c->ys[i]? =some x->RV σ I w c x):RV σ I w (.fn f first captured) (.func f xs.toArray ys.toArray)
 |dC {t:TypeId} {x:AV} {y:Value} (h:RV σ I w x y):RV σ I w (.dC t x) (.iface t y)
theorem RV.mono {σ σ':Names}{I I':Nat->Prop}{w w':World}(hw:∀n,I n->w'.heap[n]? =w.heap[n]?)(hI:∀n,I n->I' n)
  (hσ:∀b x,σ b=some x->σ' b=some x) {d:AV} {x:Value} (h:RV σ I w d x):RV σ' I' w' d x:=by
 induction h with
 |d h=>exact .d (h.mono hw hI)
 |any y=>exact .any y
 |ab t=>exact .ab t
 |ptr h=>exact .ptr (hσ _ _ h)
 |own h h1=>exact .own (hσ _ _ h) h1
 |dM h=>exact .dM (hσ _ _ h)
 |sl h hs=>exact .sl (hσ _ _ h) hs
 |agg hl _ ih=>exact .agg hl ih
 |bC hl _ ih=>exact .bC hl ih
 |fn hx hy _ _ i1 i2=>exact .fn hx hy i1 i2
 |dC _ ih=>exact .dC ih
def AV.aW (g:Nat->Nat):AV->AV
 |.d x=>.d x
 |.any=>.any
 |.ab=>.ab
 |.ptr b off=>.ptr (g b) off
 |.own b=>.own (g b)
 |.dM b sz i off=>.dM (g b) sz i off
 |.sl b sz i len=>.sl (g b) sz i len
 |.agg cs=>.agg (cs.map (AV.aW g))
 |.bC cs=>.bC (cs.map (AV.aW g))
 |.fn f a b=>.fn f (a.map (AV.aW g)) (b.map (AV.aW g))
 |.dC t x=>.dC t (x.aW g)
def dQ (σ:Names)(hole:Option (Nat×Nat))(es:Array MapEntry):Array MapEntry:=match hole with
 |none=>es
 |some (i,c)=>es.modify i λe=>{e with val:=(σ c).getD undef}
theorem FJ {σ σ':Names}{hole hole':Option (Nat×Nat)}{es:Array MapEntry}(h:hole'.map (·.1)=hole.map (·.1))(hc:∀q q',hole=some q->hole'=some q'->σ' q'.2=σ q.2):dQ σ' hole' es=dQ σ hole es:=by
 cases hole with
 |none=>cases hole' with
  |none=>rfl
  |some q'=>simp at h
 |some q=>cases hole' with
  |none=>simp at h
  |some q'=>
   obtain⟨i,c⟩:=q;obtain⟨i',c'⟩:=q';simp at h;subst h;have:=hc _ _ rfl rfl;simp only at this;simp only[dQ,this]
inductive RB (σ:Names)(I:Nat->Prop)(w:World):aN->Value->Prop
 |cells {cs:List AV} {T:TypeId} {n:Nat} {arr:Array Value} (hw:w.heap[n]? =some (.cells arr T (0,0))) (hl:arr.size=cs.length)
   (hr:∀(i:Nat) c x,cs[i]? =some c->arr[i]? =some x->RV σ I w c x):RB σ I w (.cells cs T) (.pointer (some ⟨n,0,none⟩))
 |none {sz:Nat} {T:TypeId}:RB σ I w (.grow sz [] T) (.slice none 0 0)
 |emp {sz:Nat} {T:TypeId} (a:Addr):RB σ I w (.grow sz [] T) (.slice (some a) 0 0)
 |grow {sz:Nat} {es:List (List D)} {T:TypeId} {n cap:Nat} {arr:Array Value} (hw:w.heap[n]? =some (.cells arr T (0,0)))
   (hl:cap*sz<=arr.size) (hcap:es.length<=cap) (hmax:cap<=maxLen) (hsz:∀e∈es,e.length=sz)
   (hr:∀(i:Nat) e (j:Nat) c,es[i]? =some e->e[j]? =some c->∃x,arr[i*sz+j]? =some x/\RD I w c x/\x.oneCell'=true):
   RB σ I w (.grow sz es T) (.slice (some ⟨n,0,none⟩) es.length cap)
 |map {ka:Bool} {ks:List CK} {va:Bool} {look:List Value->Option (List D)} {n clock:Nat} {es:Array MapEntry} (keys:Nat->List Value) (vals:Nat->List Value) (hw:w.heap[n]? =some (.map es clock)) (hbn:∀(i:Nat) e,es[i]? =some e->e.born<clock)
   (hk:∀(i:Nat) e,es[i]? =some e->e.key=mk ka (keys i)/\e.val=mk va (vals i)/\dJ ks (keys i)=true/\∃d,look (keys i)=some d/\d.length=(vals i).length)
   (hu:∀(i j:Nat),i<es.size->j<es.size->keys i=keys j->i=j)
   (hl:∀k d,look k=some d->∃i,i<es.size/\keys i=k)
   (hv:∀(i:Nat) d (j:Nat) c x,i<es.size->look (keys i)=some d->d[j]? =some c->(vals i)[j]? =some x->RD I w c x):RB σ I w (.map ka ks va look) (.map (some n))
 |iL {ka:Bool} {ks:List CK} {va:Bool} {look:List Value->Option (List D)} {kc:List Value} {c n cl:Nat} {z:Value} {es:Array MapEntry} (keys:Nat->List Value) (vals:Nat->List Value) (hw:w.heap[n]? =some (.map (es.push {key:=mk ka kc,val:=z,born:=cl}) (cl+1))) (hst:σ c=some (.int .i64 cl)) (hbn:∀(i:Nat) e,es[i]? =some e->e.born<cl)
   (hkc:look kc=none) (hfk:dJ ks kc=true)
   (hk:∀(i:Nat) e,es[i]? =some e->e.key=mk ka (keys i)/\e.val=mk va (vals i)/\dJ ks (keys i)=true/\∃d,look (keys i)=some d/\d.length=(vals i).length)
   (hu:∀(i j:Nat),i<es.size->j<es.size->keys i=keys j->i=j)
   (hl:∀k d,look k=some d->∃i,i<es.size/\keys i=k)
   (hv:∀(i:Nat) d (j:Nat) c x,i<es.size->look (keys i)=some d->d[j]? =some c->(vals i)[j]? =some x->RD I w c x):RB σ I w (.iL ka ks va look kc c) (.map (some n))
 |cL {es:Array MapEntry} {clock n:Nat} {hole:Option (Nat×Nat)} (hw:w.heap[n]? =some (.map (dQ σ hole es) clock)) (hc:∀q,hole=some q->∃v,σ q.2=some v/\v.oneCell'=true):RB σ I w (.cL es clock hole) (.map (some n))
 |iter {s:ByteArray} {pos n:Nat} {x:Value} (hw:w.heap[n]? =some (.stringIter s pos)) (hx:x=.pointer (some ⟨n,0,none⟩)):RB σ I w (.iter s pos) x
 |oV {T:TypeId}:RB σ I w (.cQ [] T) (.slice none 0 0)
 |n3 {T:TypeId} (a:Addr):RB σ I w (.cQ [] T) (.slice (some a) 0 0)
 |cQ {ps:List Nat} {T:TypeId} {n cap:Nat} {arr:Array Value} (hw:w.heap[n]? =some (.cells arr T (0,0))) (hl:cap+1<=arr.size) (hcap:ps.length<=cap+1) (hmax:cap+1<=maxLen)
   (hr:∀(i:Nat) b,ps[i]? =some b->∃m,σ b=some (.pointer (some ⟨m,0,none⟩))/\arr[i]? =some (.pointer (some ⟨m,0,none⟩))):RB σ I w (.cQ ps T) (.slice (some ⟨n,0,none⟩) ps.length (cap+1))
theorem RB.mono {σ σ':Names}{I I':Nat->Prop}{w w':World}(hw:∀n,I n->w'.heap[n]? =w.heap[n]?)(hI:∀n,I n->I' n)
  (hσ:∀b x,σ b=some x->σ' b=some x) {k:aN} {x:Value} (hn:∀n,hb x=some n->w'.heap[n]? =w.heap[n]?) (h:RB σ I w k x):
  RB σ' I' w' k x:=by
 cases h with
 |cells h1 h2 h3=>exact .cells ((hn _ rfl).trans h1) h2 (λi c x a b=>(h3 i c x a b).mono hw hI hσ)
 |none=>exact .none
 |emp a=>exact .emp a
 | @grow sz es T n cap arr h1 h2 h3 h4 h5 h6=>
   cases cap with
   |zero=>
    have:es=[]:=gX (by omega);subst this;exact .emp _
   |succ cap=>exact .grow ((hn _ rfl).trans h1) h2 h3 h4 h5 (λi e j c a b=>let⟨x,hx,hr,ho⟩:=h6 i e j c a b;⟨x,hx,hr.mono hw hI,ho⟩)
 |map keys vals h1 hb hk hu hl hv=>exact .map keys vals ((hn _ rfl).trans h1) hb hk hu hl (λi d j c x a b e f=>(hv i d j c x a b e f).mono hw hI)
 |iL keys vals h1 hst hb hkc hfk hk hu hl hv=>exact .iL keys vals ((hn _ rfl).trans h1) (hσ _ _ hst) hb hkc hfk hk hu hl (λi d j c x a b e f=>(hv i d j c x a b e f).mono hw hI)
 |cL h1 h2=>exact .cL (by rw[FJ (σ:=σ) rfl λq q' a b=>by rw[a]at b;cases b;obtain⟨v,h3,_⟩:=h2 q a;rw[h3,hσ _ _ h3]];exact(hn _ rfl).trans h1) (λq a=>let⟨v,h3,h4⟩:=h2 q a;⟨v,hσ _ _ h3,h4⟩)
 |iter h1 h2=>exact .iter ((hn _ (by rw[h2];rfl)).trans h1) h2
 |oV=>exact .oV
 |n3 a=>exact .n3 a
 |cQ h1 h2 h3 h4 h5=>exact .cQ ((hn _ rfl).trans h1) h2 h3 h4 (λi b hi=>let⟨m,p,q⟩:=h5 i b hi;⟨m,hσ _ _ p,q⟩)
abbrev Mem :=Nat->Option aN
structure RM (σ:Names)(I:Nat->Prop)(w:World)(m:Mem):Prop where
 aS:∀b k,m b=some k->∃x,σ b=some x/\RB σ I w k x/\∀n,hb x=some n->n<w.heap.size/\¬I n
 apart:∀b b' k k' x x' n,m b=some k->m b'=some k'->σ b=some x->σ b'=some x'->hb x=some n->hb x'=some n->b=b'
def cR (σ:Names)(m:Mem)(n:Nat):Prop:=∃b k x,m b=some k/\σ b=some x/\hb x=some n
def fresh (nm:Nat)(b:Nat):Prop:=nm<=b/\b<nm+64
structure lC (w' w:World):Prop where
 eq:w'.output=w.output
 drawn:w.drawn<=w'.drawn
theorem lC.refl (w:World):lC w w:=⟨rfl,aY _⟩
theorem lC.trans {a b c:World}(h:lC a b)(k:lC b c):lC a c:=⟨h.eq.trans k.eq,cD k.drawn h.drawn⟩
structure cB (σ:Names)(I:Nat->Prop)(w:World)(m:Mem)(nm:Nat)(σ':Names)(I':Nat->Prop)(w':World)(m':Mem):Prop where
 os:w'.os=w.os
 tape:w'.tape=w.tape
 output:lC w' w
 size:w.heap.size<=w'.heap.size
 names:∀b x,σ b=some x->σ' b=some x
 new:∀b,σ b=none->σ' b≠none->fresh nm b
 pV:∀n,I n->I' n
 ib:∀n,I' n->n<w'.heap.size
 fB:∀n,I' n->I n\/w.heap.size<=n\/cR σ m n
 frame:∀n,n<w.heap.size->¬cR σ m n->w'.heap[n]? =w.heap[n]?
 mem:RM σ' I' w' m'
 p8:∀b k,m' b=some k->m b≠none\/fresh nm b
 eM:∀n,cR σ' m' n->cR σ m n\/w.heap.size<=n
structure Ctx where
 P:Program
 w0:World
 iQ:Nat->Prop
 I0:Nat->Prop
 nt:Nat
 s0:Names
structure S where
 tm:Nat->AV
 mm:Mem
 fr:Nat->Prop
structure jH (E:Ctx)(s:S)(σ:Names)(I:Nat->Prop)(a:Act)(w:World):Prop where
 size:a.tmps.size=E.nt
 kU:a.defers=[]
 tm:∀t,RV σ I w (s.tm t) (a.tmps.getD t undef)
 mm:RM σ I w s.mm
 free:∀b,s.fr b->σ b=none
 ib:∀n,I n->n<w.heap.size
 i0:∀n,E.I0 n->I n
 fB:∀n,I n->E.I0 n\/E.iQ n\/E.w0.heap.size<=n
 eM:∀n,cR σ s.mm n->E.iQ n\/E.w0.heap.size<=n
 os:w.os=E.w0.os
 tape:w.tape=E.w0.tape
 output:lC w E.w0
 hs:E.w0.heap.size<=w.heap.size
 frame:∀n,n<E.w0.heap.size->¬E.iQ n->w.heap[n]? =E.w0.heap[n]?
 jW:∀b x,E.s0 b=some x->σ b=some x
 low:∀b,64<=b->E.s0 b=none
def Rel (E:Ctx)(s:S)(a:Act)(w:World):Prop:=∃σ I,jH E s σ I a w
def S.step (s:S)(dst:Option Nat)(res:AV)(mr mw:Mem)(nm:Nat):S where
 tm:=λt=>if dst=some t then res else s.tm t
 mm:=λb=>match mw b with
  |some k=>some k
  |none=>if(mr b).isSome then none else s.mm b
 fr:=λb=>s.fr b/\¬fresh nm b
theorem Z5 (a:Act)(dst:Option Nat)(v:Value)(t:Nat)(h:∀d,dst=some d->d<a.tmps.size):
  (a.put dst v).tmps.getD t undef=if dst=some t then v else a.tmps.getD t undef:=by
 cases dst with
 |none=>simp[Act.put]
 |some d=>
  have hd:=h d rfl;by_cases e:d=t
  ·subst e;simp[Act.put,hd]
  ·simp[Act.put,e]
theorem jH.step {E:Ctx}{s:S}{σ:Names}{I:Nat->Prop}{a:Act}{w:World}(h:jH E s σ I a w){mr mw:Mem}
  (hsub:∀b k,mr b=some k->s.mm b=some k) {nm:Nat} {σ':Names} {I':Nat->Prop} {w':World}
  (hp:cB σ I w mr nm σ' I' w' mw) {res:AV} {v:Value} (hv:RV σ' I' w' res v) {dst:Option Nat} (hdst:∀d,dst=some d->d<E.nt):
  jH E (s.step dst res mr mw nm) σ' I' (a.put dst v) w':=by
 have hdst':∀d,dst=some d->d<a.tmps.size:=λd e=>h.size▸hdst d e;have ownI:∀n,cR σ mr n->¬I n/\n<w.heap.size:=by
  rintro n ⟨b,k,x,hb1,hb2,hb3⟩;obtain⟨x',hx',_,hn⟩:=h.mm.aS b k (hsub _ _ hb1);simp_all
 have keepI:∀n,I n->w'.heap[n]? =w.heap[n]? :=λn hn=>hp.frame n (h.ib n hn) (λho=>(ownI n ho).1 hn);have other:∀b k x n,mr b=none->s.mm b=some k->σ b=some x->hb x=some n->¬cR σ mr n:=by
  rintro b k x n hnone hk hx hn ⟨b',k',x',h1,h2,h3⟩;have:=h.mm.apart b b' k k' x x' n hk (hsub _ _ h1) hx h2 hn h3;subst this;rw[hnone]at h1;cases h1
 have cases_mm:∀b k,(s.step dst res mr mw nm).mm b=some k->mw b=some k\/(mw b=none/\mr b=none/\s.mm b=some k):=by
  intro b k hk;simp only[S.step]at hk;split at hk
  ·rename_i k' hk';cases hk;exact .inl hk'
  ·rename_i hn;split at hk
   ·cases hk
   ·rename_i hr;exact .inr ⟨hn,by simpa using hr,hk⟩
 have hmm:RM σ' I' w' (s.step dst res mr mw nm).mm:=by
  refine⟨λb k hk=>?_,λb b' k k' x x' n hk hk' hx hx' hn hn'=>?_⟩
  ·rcases cases_mm b k hk with h1|⟨_,h2,h3⟩
   ·exact hp.mem.aS b k h1
   ·obtain⟨x,hx,hrb,hn⟩:=h.mm.aS b k h3;refine⟨x,hp.names _ _ hx,hrb.mono keepI hp.pV hp.names (λn e=>hp.frame n (hn n e).1 (other b k x n h2 h3 hx e)),λn e=>⟨pD (hn n e).1 hp.size,λhI'=>?_⟩⟩;rcases hp.fB n hI' with g|g|g
    ·exact(hn n e).2 g
    ·have:=(hn n e).1;omega
    ·exact other b k x n h2 h3 hx e g
  ·rcases cases_mm b k hk with h1|⟨_,h2,h3⟩<;>rcases cases_mm b' k' hk' with g1|⟨_,g2,g3⟩
   ·exact hp.mem.apart b b' k k' x x' n h1 g1 hx hx' hn hn'
   ·obtain⟨y,hy,_,hyn⟩:=h.mm.aS b' k' g3;have:=hp.names _ _ hy;rw[hx']at this;cases this;rcases hp.eM n ⟨b,k,x,h1,hx,hn⟩with q|q
    ·exact absurd q (other b' k' _ n g2 g3 hy hn')
    ·have:=(hyn n hn').1;omega
   ·obtain⟨y,hy,_,hyn⟩:=h.mm.aS b k h3;have:=hp.names _ _ hy;rw[hx]at this;cases this;rcases hp.eM n ⟨b',k',x',g1,hx',hn'⟩with q|q
    ·exact absurd q (other b k _ n h2 h3 hy hn)
    ·have:=(hyn n hn).1;omega
   ·obtain⟨y,hy,_,_⟩:=h.mm.aS b k h3;obtain⟨y',hy',_,_⟩:=h.mm.aS b' k' g3;have e1:=hp.names _ _ hy;have e2:=hp.names _ _ hy';rw[hx]at e1;cases e1;rw[hx']at e2;cases e2;exact h.mm.apart b b' k k' _ _ n h3 g3 hy hy' hn hn'
 have lent:∀n,cR σ mr n->E.iQ n\/E.w0.heap.size<=n:=by
  rintro n ⟨b,k,x,h1,h2,h3⟩;exact h.eM n ⟨b,k,x,hsub _ _ h1,h2,h3⟩
 refine⟨?_,?_,?_,hmm,?_,hp.ib,λn hn=>hp.pV n (h.i0 n hn),?_,?_,hp.os.trans h.os,hp.tape.trans h.tape,hp.output.trans h.output,cD h.hs hp.size,?_,λb x h0=>hp.names _ _ (h.jW b x h0),h.low⟩
 ·cases dst<;>simp[Act.put,h.size]
 ·cases dst<;>simp[Act.put,h.kU]
 ·intro t;rw[Z5 a dst v t hdst'];simp only[S.step];split
  ·exact hv
  ·exact(h.tm t).mono keepI hp.pV hp.names
 ·rintro b ⟨h1,h2⟩;have:=h.free b h1;cases e:σ' b with
  |none=>rfl
  |some x=>exact absurd (hp.new b this (by simp[e])) h2
 ·intro n hn;rcases hp.fB n hn with g|g|g
  ·exact h.fB n g
  ·exact .inr (.inr (cD h.hs g))
  ·exact .inr (lent n g)
 ·rintro n ⟨b,k,x,h1,h2,h3⟩;rcases cases_mm b k h1 with g|⟨_,g2,g3⟩
  ·rcases hp.eM n ⟨b,k,x,g,h2,h3⟩with q|q
   ·exact lent n q
   ·exact .inr (cD h.hs q)
  ·obtain⟨y,hy,_,_⟩:=h.mm.aS b k g3;have e1:=hp.names _ _ hy;rw[h2]at e1;cases e1;exact h.eM n ⟨b,k,_,g3,hy,h3⟩
 ·intro n hn hb;refine(hp.frame n (pD hn h.hs) (λho=>?_)).trans (h.frame n hn hb);rcases lent n ho with g|g
  ·exact hb g
  ·omega
structure aG where
 res:AV
 rd:List Nat
 wr:List (Nat×Option aN)
def wrote (l:List (Nat×Option aN))(b:Nat):Option (Option aN):=
 match l with
 |[]=>none
 | (c,k)::r=>if c=b then some k else wrote r b
def aG.mr (e:aG)(m:Mem):Mem:=λb=>if(wrote e.wr b).isSome\/b∈e.rd then m b else none
def aG.mw (e:aG)(m:Mem):Mem:=λb=>match wrote e.wr b with
 |some k=>k
 |none=>if b∈e.rd then m b else none
def S.app (s:S)(dst:Option Nat)(e:aG)(nm:Nat):S where
 tm:=λt=>if dst=some t then e.res else s.tm t
 mm:=λb=>(wrote e.wr b).getD (s.mm b)
 fr:=λb=>s.fr b/\¬fresh nm b
theorem S.OJ (s:S)(dst:Option Nat)(e:aG)(nm:Nat):s.app dst e nm=s.step dst e.res (e.mr s.mm) (e.mw s.mm) nm:=by
 simp only[S.app,S.step,S.mk.injEq,true_and,and_true];funext b
 simp only[aG.mr,aG.mw];by_cases hm:b∈e.rd<;>simp only[hm,or_false,dY,j5]<;>generalize wrote e.wr b=q<;>generalize s.mm b=m<;>
  rcases q with _|_|k<;>rcases m with _|m<;>simp
def aO (P:Program)(o:Oper)(tm:Nat->AV)(mr:Mem)(nm:Nat)(res:AV)(mw:Mem):Prop:=
 ∀(a:Act) (w:World) (σ:Names) (I:Nat->Prop),(∀n,I n->n<w.heap.size)->
  (∀t,Operand.tmp t∈o.op.operands->RV σ I w (tm t) (a.tmps.getD t undef))->RM σ I w mr->(∀b,fresh nm b->σ b=none)->
  ∀(next:Act->World->Prop) (Q:Exit->Act->World->Prop),
   (∀v σ' I' w',cB σ I w mr nm σ' I' w' mw->RV σ' I' w' res v->next (a.put o.dst v) w')->o.wp P a w next Q
def looks (ops:Array Oper)(o:Oper)(t:Nat):Prop:=
 Operand.tmp t∈o.op.operands\/∃g wa p,o.guard=some (g,wa)/\ops[g]? =some p/\p.dst=some t
def yb :Value->Option Bool
 |.bool b=>some b
 |_=>none
def after (ops:Array Oper)(effs:Nat->aG)(nx:Nat)(s:S)(L:Nat->Bool):Nat->S
 |0=>s
 |k+1=>if L k then(after ops effs nx s L k).app ((ops[k]?).bind (·.dst)) (effs k) (nx+64*k)else after ops effs nx s L k
def vS (ops:Array Oper)(effs:Nat->aG)(i j:Nat):Prop:=
 (∀d,(ops[i]?).bind (·.dst)=some d->(ops[j]?).bind (·.dst)≠some d/\∀o,ops[j]? =some o->¬looks ops o d)/\
 (∀d,(ops[j]?).bind (·.dst)=some d->∀o,ops[i]? =some o->¬looks ops o d)/\
 (∀b,(wrote (effs i).wr b).isSome->wrote (effs j).wr b=none/\b∉(effs j).rd)/\
 (∀b,(wrote (effs j).wr b).isSome->b∉(effs i).rd)
theorem Fw {ops:Array Oper}{effs:Nat->aG}{i j nm nm':Nat}(h:vS ops effs i j)(s:S):
  (s.app ((ops[i]?).bind (·.dst)) (effs i) nm).app ((ops[j]?).bind (·.dst)) (effs j) nm'=
  (s.app ((ops[j]?).bind (·.dst)) (effs j) nm').app ((ops[i]?).bind (·.dst)) (effs i) nm:=by
 obtain⟨h1,_,h3,_⟩:=h;simp only[S.app,S.mk.injEq];refine⟨?_,?_,?_⟩
 ·grind
 ·funext b
  cases e1:wrote (effs i).wr b with
  |none=>simp
  |some k=>simp[(h3 b (by simp[e1])).1]
 ·grind
theorem F9 {ops:Array Oper}{effs:Nat->aG}{nx:Nat}{s:S}{L L':Nat->Bool}(k:Nat)(h:∀i,i<k->L i=L' i):
  after ops effs nx s L k=after ops effs nx s L' k:=by
 induction k with
 |zero=>rfl
 |succ k ih=>simp only[after,ih (λi hi=>h i (by omega)),h k (by omega)]
theorem Gl {ops:Array Oper}{effs:Nat->aG}{nx:Nat}{s:S}{L:Nat->Bool}{i:Nat}(hi:L i=false){n:Nat}
  (h:∀j,i<j->j<n->L j=true->vS ops effs i j) (k:Nat) (hk:i<k) (hkn:k<=n):
  after ops effs nx s (λj=>if j=i then true else L j) k=(after ops effs nx s L k).app ((ops[i]?).bind (·.dst)) (effs i) (nx+64*i):=by
 induction k with
 |zero=>omega
 |succ k ih=>
  by_cases e:k=i
  ·subst e;simp only[after,dY,hi,CL,j5];rw[F9 k (L':=L) (λj hj=>by simp[show j≠k by omega])]
  ·have hik:i<k:=by omega
   have ih:=ih hik (by omega);simp only[after,aR e,ih];by_cases hl:L k=true
   ·simp only[hl];exact Fw (h k hik (by omega) hl) _
   ·simp[hl]
theorem Gj {ops:Array Oper}{effs:Nat->aG}{nx:Nat}{s:S}{L:Nat->Bool}{i t:Nat}(n:Nat)
  (h:∀j,j<n->(ops[j]?).bind (·.dst)=some t->(L j=true↔j<i)):∀k,k<=n->
  (after ops effs nx s L k).tm t=(after ops effs nx s (λ_=>true) (min k i)).tm t:=by
 intro k;induction k with
 |zero=>intro _;simp[after]
 |succ k ih=>
  intro hk;have ih:=ih (by omega);by_cases hki:k<i
  ·rw[show min (k+1) i=k+1 by omega];rw[show min k i=k by omega]at ih;simp only[after];by_cases hd:(ops[k]?).bind (·.dst)=some t
   ·simp[(h k (by omega) hd).2 hki,S.app,hd]
   ·by_cases hl:L k=true<;>simp[hl,S.app,hd,ih]
  ·rw[show min (k+1) i=i by omega];rw[show min k i=i by omega]at ih;simp only[after];by_cases hd:(ops[k]?).bind (·.dst)=some t
   ·grind
   ·by_cases hl:L k=true<;>simp[hl,S.app,hd,ih]
theorem Gk {ops:Array Oper}{effs:Nat->aG}{nx:Nat}{s:S}{L:Nat->Bool}{i b:Nat}(n:Nat)
  (h:∀j,j<n->(wrote (effs j).wr b).isSome->(L j=true↔j<i)):∀k,k<=n->
  (after ops effs nx s L k).mm b=(after ops effs nx s (λ_=>true) (min k i)).mm b:=by
 intro k;induction k with
 |zero=>intro _;simp[after]
 |succ k ih=>
  intro hk;have ih:=ih (by omega);by_cases hki:k<i
  ·rw[show min (k+1) i=k+1 by omega];rw[show min k i=k by omega]at ih;simp only[after];cases hd:wrote (effs k).wr b with
   |some q=>simp[(h k (by omega) (by simp[hd])).2 hki,S.app,hd]
   |none=>by_cases hl:L k=true<;>simp[hl,S.app,hd,ih]
  ·rw[show min (k+1) i=i by omega];rw[show min k i=i by omega]at ih;simp only[after];cases hd:wrote (effs k).wr b with
   |some q=>
    grind
   |none=>by_cases hl:L k=true<;>simp[hl,S.app,hd,ih]
theorem xY {ops:Array Oper}{effs:Nat->aG}{nx:Nat}{s:S}{L:Nat->Bool}(b:Nat):∀k,
  ((after ops effs nx s L k).fr b↔s.fr b/\∀j,j<k->L j=true->¬fresh (nx+64*j) b):=by
 intro k;induction k with
 |zero=>simp[after]
 |succ k ih=>
  simp only[after];by_cases hl:L k=true
  ·simp only[dY,S.app,ih]
   grind
  ·grind
def JC (ops:Array Oper)(pre:Nat->List Nat):Prop:=
 ∀j o,ops[j]? =some o->(∀e∈o.after,Region.binds .any e=true->e.on<j)/\
  ∀i∈pre j,∃e∈o.after,Region.binds .any e=true/\(i=e.on\/i∈pre e.on)
theorem Rel.drawn {E:Ctx}{s:S}{a:Act}{w:World}(h:Rel E s a w):Rel E s a {w with drawn:=w.drawn+1}:=by
 obtain⟨σ,I,h⟩:=h;refine⟨σ,I,h.size,h.kU,λt=>RV.mono (w:=w) (w':={w with drawn:=w.drawn+1}) (λ_ _=>rfl) (λ_ h=>h) (λ_ _ h=>h) (h.tm t),⟨λb k hb=>?_,h.mm.apart⟩,h.free,h.ib,h.i0,h.fB,h.eM,h.os,h.tape,⟨h.output.eq,Nat.le_succ_of_le h.output.drawn⟩,h.hs,h.frame,h.jW,h.low⟩;obtain⟨x,hx,hrb,hn⟩:=h.mm.aS b k hb;exact⟨x,hx,RB.mono (w:=w) (w':={w with drawn:=w.drawn+1}) (λ_ _=>rfl) (λ_ h=>h) (λ_ _ h=>h) (λ_ _=>rfl) hrb,hn⟩
def FW (ro:Option Nat):Fence:={Fence.wide with round:=ro}
def pM (o:Oper):Bool:=match o.op with|.defer _=>false|_=>true
theorem U0 {o:Oper}(h:pM o=true):∀c,o.op≠ .defer c:=by
 intro c e;simp[pM,e]at h
theorem Dl {ro:Option Nat}{dp:Nat}{P:Program}{f:FuncId}{args:Array Value}{w:World}{R:Ending->World->Prop}(h:Calls P f args w R):CallsIn (FW ro) dp P f args w R:=(sK.2 h:CallsIn Fence.wide dp P f args w R)
section
variable {ro : Option Nat} {dp : Nat} {J : Names -> (Nat -> Prop) -> World -> Prop}
theorem CR {P:Program}{o:Oper}{a:Act}{w:World}{K:Act->World->Prop}{Q:Exit->Act->World->Prop}(hnd:pM o=true)(h:o.wp P a w K Q):o.wpIn (FW ro) dp P a w K Q:=by
 refine⟨λ_ _=>trivial,?_⟩;unfold Oper.wp at h;rw[Oper.semAt_eq _ _ _ (U0 hnd)];generalize(execOp a.eval o).run P w=r at*;cases r with
 |ok x w'=>
  cases x with
  |enter f args=>exact⟨by simp[FW,Fence.wide],Dl h⟩
  |row r args=>
   refine⟨by simp[FW,Fence.wide],λc cs _=>?_⟩;obtain⟨v,w2,q,s⟩:=h c cs;exact⟨v,w2,q,stepsIn_wide.2 s⟩
  |_=>first|exact h|exact(show False from h).elim
 |halt hh w'=>
  cases hh<;>first|exact h|exact(show False from h).elim
def oE (ro:Option Nat)(dp:Nat)(J:Names->(Nat->Prop)->World->Prop)(P:Program)(o:Oper)(tm:Nat->AV)(mr:Mem)(nm:Nat)(res:AV)(mw:Mem):Prop:=
 ∀(a:Act) (w:World) (σ:Names) (I:Nat->Prop),J σ I w->(∀n,I n->n<w.heap.size)->
  (∀t,Operand.tmp t∈o.op.operands->RV σ I w (tm t) (a.tmps.getD t undef))->RM σ I w mr->(∀b,fresh nm b->σ b=none)->
  ∀(next:Act->World->Prop) (Q:Exit->Act->World->Prop),
   (∀v σ' I' w',cB σ I w mr nm σ' I' w' mw->RV σ' I' w' res v->next (a.put o.dst v) w')->o.wpIn (FW ro) dp P a w next Q
theorem aO.kL {P:Program}{o:Oper}{tm:Nat->AV}{mr mw:Mem}{nm:Nat}{res:AV}(hp:pM o=true)(h:aO P o tm mr nm res mw):oE ro dp J P o tm mr nm res mw:=
 λa w σ I _ h1 h2 h3 h4 next Q hn=>CR hp (h a w σ I h1 h2 h3 h4 next Q hn)
def oF (ro:Option Nat)(dp:Nat)(J:Names->(Nat->Prop)->World->Prop)(E:Ctx)(ops:Array Oper)(o:Oper)(s:S)(nm:Nat)(e:aG):Prop:=
 (∀d,o.dst=some d->d<E.nt)/\
 ((o.guard=none/\oE ro dp J E.P o s.tm (e.mr s.mm) nm e.res (e.mw s.mm))\/
  ∃g wa p d y,o.guard=some (g,wa)/\ops[g]? =some p/\p.dst=some d/\s.tm d=.d (.v y)/\
   ((yb y=some wa/\oE ro dp J E.P o s.tm (e.mr s.mm) nm e.res (e.mw s.mm))\/(yb y≠some wa/\e=⟨.d (.v undef),[],[]⟩)))
theorem oF.congr {E:Ctx}{ops:Array Oper}{o:Oper}{s s':S}{nm:Nat}{e:aG}(h:oF ro dp J E ops o s nm e)
  (ht:∀t,looks ops o t->s'.tm t=s.tm t) (hm:∀b,(wrote e.wr b).isSome\/b∈e.rd->s'.mm b=s.mm b):oF ro dp J E ops o s' nm e:=by
 have e1:e.mr s'.mm=e.mr s.mm:=by
  funext b;simp only[aG.mr];split
  ·simp_all
  ·rfl
 have e2:e.mw s'.mm=e.mw s.mm:=by
  funext b;simp only[aG.mw];split
  all_goals simp_all
 have key:oE ro dp J E.P o s.tm (e.mr s.mm) nm e.res (e.mw s.mm)->oE ro dp J E.P o s'.tm (e.mr s'.mm) nm e.res (e.mw s'.mm):=by
  intro hk a w σ I hj h1 h2 h3 h4 next Q hn;rw[e1]at h3;refine hk a w σ I hj h1 (λt htm=>?_) h3 h4 next Q (λv σ' I' w' hp hv=>hn v σ' I' w' ?_ hv)
  ·rw[<-ht t (.inl htm)];exact h2 t htm
  ·simp_all
 refine⟨h.1,?_⟩;rcases h.2 with⟨hg,hk⟩|⟨g,wa,p,d,b,hg,hp,hd,hb,hk⟩
 ·simp_all
 ·refine .inr ⟨g,wa,p,d,b,hg,hp,hd,(ht d (.inr ⟨g,wa,p,hg,hp,hd⟩)).trans hb,?_⟩
  grind
theorem CS {E:Ctx}{ops:Array Oper}{Q:Exit->Act->World->Prop}{K:Act->World->Prop}{i:Nat}{o:Oper}(ho:ops[i]? =some o)
  {s:S} {nm:Nat} {e:aG} (hok:oF ro dp J E ops o s nm e) (hfr:∀b,fresh nm b->s.fr b) {a:Act} {w:World} (hr:Rel E s a w) (hJ:∀s σ I a w,jH E s σ I a w->J σ I w)
  (hK:∀a w,Rel E (s.app o.dst e nm) a w->K a w):wpOpIn (FW ro) dp E.P ops Q i K a w:=by
 obtain⟨σ,I,hr⟩:=hr;have hj:=hJ _ _ _ _ _ hr;have go:oE ro dp J E.P o s.tm (e.mr s.mm) nm e.res (e.mw s.mm)->o.wpIn (FW ro) dp E.P a w K Q:=by
  intro hk;have hsub:∀b k,e.mr s.mm b=some k->s.mm b=some k:=by
   intro b k hb;simp only[aG.mr]at hb;split at hb
   ·exact hb
   ·cases hb
  refine hk a w σ I hj hr.ib (λt _=>hr.tm t) ?_ (λb hb=>hr.free b (hfr b hb)) K Q (λv σ' I' w' hp hv=>hK _ _ ?_)
  ·exact⟨λb k hb=>hr.mm.aS b k (hsub b k hb),λb b' k k' x x' n h1 h2 h3 h4 h5 h6=>hr.mm.apart b b' k k' x x' n (hsub b k h1) (hsub b' k' h2) h3 h4 h5 h6⟩
  ·rw[S.OJ];exact⟨σ',I',hr.step hsub hp hv hok.1⟩
 unfold wpOpIn;simp only[ho];rcases hok.2 with⟨hg,hk⟩|⟨g,wa,p,d,y,hg,hp,hd,hb,hk⟩
 ·have hw:Region.wanted o (yielded ops a.tmps)=true:=by simp[Region.wanted,hg]
  simp only[hw];exact go hk
 ·have hy:yielded ops a.tmps g=yb y:=by
   have:=hr.tm d;rw[hb]at this;have hv:a.tmps.getD d undef=y:=by
    generalize a.tmps.getD d undef=z at this;cases this with
    |d h=>cases h;rfl
   cases hd':a.tmps[d]? with
   |some x=>
    have e:x=y:=by simpa[hd']using hv
    subst e;simp only[yielded,hp,hd,hd',vT];cases x<;>rfl
   |none=>
    have e:undef=y:=by simpa[hd']using hv
    subst e;simp[yielded,hp,hd,hd',yb,undef]
  rcases hk with⟨hyb,hk⟩|⟨hne,rfl⟩
  ·have hw:Region.wanted o (yielded ops a.tmps)=true:=by simp[Region.wanted,hg,hy,hyb]
   simp only[hw];exact go hk
  ·have hw:Region.wanted o (yielded ops a.tmps)=false:=by simp[Region.wanted,hg,hy,hne]
   simp only[hw,j5];refine⟨λ_ _=>trivial,hK _ _ ?_⟩;rw[S.OJ];refine⟨σ,I,hr.step (λb k hb=>?_) ?_ (.d (.v undef)) hok.1⟩
   ·simp[aG.mr,wrote]at hb
   ·have e0:∀n,¬cR σ (aG.mr ⟨.d (.v undef),[],[]⟩ s.mm) n:=by
     rintro n ⟨b,k,x,h1,_⟩;simp[aG.mr,wrote]at h1
    refine⟨rfl,rfl,⟨rfl,aY _⟩,aY _,λb x h=>h,λb h1 h2=>absurd h1 h2,λn h=>h,hr.ib,λn h=>.inl h,λn _ _=>rfl,⟨λb k h=>?_,λb b' k k' x x' n h=>?_⟩,λb k h=>?_,?_⟩
    ·simp[aG.mw,wrote]at h
    ·simp[aG.mw,wrote]at h
    ·simp[aG.mw,wrote]at h
    ·rintro n ⟨b,k,x,h1,_⟩;simp[aG.mw,wrote]at h1
theorem VD {E:Ctx}{ops:Array Oper}{Q:Exit->Act->World->Prop}{effs:Nat->aG}{nx:Nat}{s:S}
  (hok:∀i o,ops[i]? =some o->oF ro dp J E ops o (after ops effs nx s (λ_=>true) i) (nx+64*i) (effs i)) (hfr:∀b,nx<=b->s.fr b) (hJ:∀s σ I a w,jH E s σ I a w->J σ I w)
  (hQ:∀a w,Rel E (after ops effs nx s (λ_=>true) ops.size) a w->Q .normal a w):
  ∀m i,i+m=ops.size->∀a w,Rel E (after ops effs nx s (λ_=>true) i) a w->wpOpsIn (FW ro) dp E.P ops Q (List.range' i m) a w:=by
 intro m;induction m with
 |zero=>intro i hi a w hr;simp;exact hQ a w (by rw[<-hi];exact hr)
 |succ m ih=>
  intro i hi a w hr;have ho:ops[i]? =some ops[i]:=iV (by omega);refine CS ho (hok i _ ho) (λb hb=>?_) hr hJ (λa' w' hr'=>ih (i+1) (by omega) a' w' ?_)
  ·rw[xY];exact⟨hfr b (by have:=hb.1;omega),λj hj _ hj'=>by have:=hb.1;have:=hj'.2;omega⟩
  ·simp only[after,ho];exact hr'
theorem TT {E:Ctx}{id:Nat}{ops:Array Oper}{Q:Exit->Act->World->Prop}{effs:Nat->aG}{nx:Nat}{s:S}{a:Act}{w:World}
  (hok:∀i o,ops[i]? =some o->oF ro dp J E ops o (after ops effs nx s (λ_=>true) i) (nx+64*i) (effs i)) (hfr:∀b,nx<=b->s.fr b) (hJ:∀s σ I a w,jH E s σ I a w->J σ I w)
  (hr:Rel E s a w) (hQ:∀a w,Rel E (after ops effs nx s (λ_=>true) ops.size) a w->Q .normal a w):(Code.region id ops false).wpIn (FW ro) dp E.P Q a w:=by
 refine wpIn_region ?_;rw[List.range_eq_range'];exact VD hok hfr hJ hQ ops.size 0 (by omega) a w hr
theorem TU {E:Ctx}{id:Nat}{ops:Array Oper}{Q:Exit->Act->World->Prop}{effs:Nat->aG}{nx:Nat}{s:S}{a:Act}{w:World}
  (hm:E.P.follows .mixedOrders=true) (pre:Nat->List Nat) (hpre:JC ops pre)
  (hap:∀i j,i<j->j<ops.size->i∈pre j\/vS ops effs i j)
  (hok:∀i o,ops[i]? =some o->oF ro dp J E ops o (after ops effs nx s (λ_=>true) i) (nx+64*i) (effs i)) (hfr:∀b,nx<=b->s.fr b) (hJ:∀s σ I a w,jH E s σ I a w->J σ I w)
  (hr:Rel E s a w) (hQ:∀a w,Rel E (after ops effs nx s (λ_=>true) ops.size) a w->Q .normal a w):(Code.region id ops true).wpIn (FW ro) dp E.P Q a w:=by
 refine wpIn_region_any hm ?_
 have main:∀fuel (listed:Array Bool) a w,listed.size=ops.size->((List.range ops.size).filter λi=>!listed.getD i true).length<=fuel->
   (∀j,listed.getD j false=true->∀i∈pre j,listed.getD i false=true)->
   Rel E (after ops effs nx s (λj=>listed.getD j false) ops.size) a w->wpAnyIn (FW ro) dp E.P .any ops Q fuel listed a w:=by
  intro fuel;have full:∀(listed:Array Bool),listed.size=ops.size->Region.ready .any ops listed=[]->∀j,j<ops.size->listed.getD j false=true:=by
   intro listed hsz hrd j;induction j using Nat.strongRecOn with
   |_ j ih=>
    intro hj;cases hl:listed.getD j false with
    |true=>rfl
    |false=>
     have ho:ops[j]? =some ops[j]:=iV hj;have hmem:j∈Region.ready .any ops listed:=by
      simp only[Region.ready,jK,vV];refine⟨hj,?_⟩;have h1:listed.getD j true=false:=by
       have:j<listed.size:=by omega
       simp[this]at hl⊢;exact hl
      simp only[h1,ho,lF,CB,Bool.not_false,pF,Array.all_eq_true_iff_forall_mem];intro e he;by_cases hbd:Region.binds .any e=true
      ·simp[ih e.on ((hpre j _ ho).1 e he hbd) (by have:=(hpre j _ ho).1 e he hbd;omega)]
      ·simp[hbd]
     rw[hrd]at hmem;cases hmem
  have done:∀(listed:Array Bool) a w,listed.size=ops.size->Rel E (after ops effs nx s (λj=>listed.getD j false) ops.size) a w->
    Region.ready .any ops listed=[]->Q .normal a w:=by
   intro listed a w hsz hr hrd;refine hQ a w ?_;rw[<-F9 (L:=λj=>listed.getD j false) ops.size (λi hi=>full listed hsz hrd i hi)];exact hr
  induction fuel with
  |zero=>
   intro listed a w hsz hf _ hr;have hrd:Region.ready .any ops listed=[]:=by
    have h0:((List.range ops.size).filter λi=>!listed.getD i true)=[]:=CE.1 (by omega);simp only[Region.ready];rw[List.filter_eq_nil_iff]at h0⊢;intro i hi hc;exact h0 i hi (by simp only[bN]at hc;exact hc.1)
   exact⟨hrd,done listed a w hsz hr hrd⟩
  |succ fuel ih=>
   intro listed a w hsz hf hcl hr;refine⟨done listed a w hsz hr,λi hi=>?_⟩;simp only[Region.ready,jK,vV,bN,Bool.not_eq_true']at hi;obtain⟨hin,hil,hpr⟩:=hi;have ho:ops[i]? =some ops[i]:=iV hin;have hL:listed.getD i false=false:=by
    have:i<listed.size:=by omega
    simp[this]at hil⊢;exact hil
   have hpreL:∀k∈pre i,listed.getD k false=true:=by
    intro k hk;obtain⟨e,he,hbd,hor⟩:=(hpre i _ ho).2 k hk;simp only[ho,lF,CB,Array.all_eq_true_iff_forall_mem]at hpr;have:=hpr e he;simp only[hbd,Bool.not_true,Bool.false_or]at this;rcases hor with rfl|hor
    ·exact this
    ·exact hcl e.on this k hor
   have ahead:∀j,j<i->¬vS ops effs j i->listed.getD j false=true:=λj hj hn=>hpreL j ((hap j i hj hin).resolve_right hn);have behind:∀j,i<j->j<ops.size->listed.getD j false=true->vS ops effs i j:=by
    intro j hj hjn hl;refine(hap i j hj hjn).resolve_left (λhk=>?_);have:=hcl j hl i hk;rw[hL]at this;cases this
   have hst:=Gl (ops:=ops) (effs:=effs) (nx:=nx) (s:=s) (L:=λj=>listed.getD j false) (i:=i) hL (n:=ops.size) behind ops.size hin (aY _);have hokc:oF ro dp J E ops ops[i] (after ops effs nx s (λj=>listed.getD j false) ops.size) (nx+64*i) (effs i):=by
    refine(hok i _ ho).congr (λt ht=>?_) (λb hb=>?_)
    ·have:=Gj (ops:=ops) (effs:=effs) (nx:=nx) (s:=s) (L:=λj=>listed.getD j false) (i:=i) (t:=t) ops.size (λj hj hd=>?_) ops.size (aY _)
     ·rw[this,show min ops.size i=i by omega]
     ·rcases Nat.lt_trichotomy j i with h|h|h
      ·refine⟨λ_=>h,λ_=>ahead j h (λhap'=>((hap'.1 t hd).2 _ ho) ht)⟩
      ·subst h;simp only[hL,CL,false_iff];omega
      ·refine⟨λhl=>?_,λh'=>by omega⟩;exact absurd ht ((behind j h hj hl).2.1 t hd _ ho)
    ·have:=Gk (ops:=ops) (effs:=effs) (nx:=nx) (s:=s) (L:=λj=>listed.getD j false) (i:=i) (b:=b) ops.size (λj hj hd=>?_) ops.size (aY _)
     ·rw[this,show min ops.size i=i by omega]
     ·rcases Nat.lt_trichotomy j i with h|h|h
      ·refine⟨λ_=>h,λ_=>ahead j h (λhap'=>?_)⟩;have:=hap'.2.2.1 b hd;rcases hb with hb|hb
       ·rw[this.1]at hb;cases hb
       ·exact this.2 hb
      ·subst h;simp only[hL,CL,false_iff];omega
      ·refine⟨λhl=>?_,λh'=>by omega⟩;have hap':=behind j h hj hl;rcases hb with hb|hb
       ·rw[(hap'.2.2.1 b hb).1]at hd;cases hd
       ·exact absurd hb (hap'.2.2.2 b hd)
   refine CS ho hokc (λb hb=>?_) hr hJ (λa' w' hr'=>ih _ a' w' (by simp[hsz]) ?_ ?_ ?_)
   ·rw[xY];refine⟨hfr b (by have:=hb.1;omega),λj hj hl hj'=>?_⟩;have:j≠i:=λe=>by subst e;rw[hL]at hl;cases hl
    have:=hb.1;have:=hb.2;have:=hj'.1;have:=hj'.2;omega
   ·
    have hlt:((List.range ops.size).filter λk=>!(listed.setIfInBounds i true).getD k true).length<((List.range ops.size).filter λk=>!listed.getD k true).length:=by
     have hsub:∀k,(!(listed.setIfInBounds i true).getD k true)=true->(!listed.getD k true)=true:=by
      intro k hk;by_cases e:i=k
      ·subst e;have:i<listed.size:=by omega
       simp[this]at hk
      ·simpa[lH e]using hk
     have hmem:i∈(List.range ops.size).filter λk=>!listed.getD k true:=by simp[hin];simpa using hil
     have hnot:i∉(List.range ops.size).filter λk=>!(listed.setIfInBounds i true).getD k true:=by
      have:i<listed.size:=by omega
      simp[this]
     rw[<-List.countP_eq_length_filter,<-List.countP_eq_length_filter];clear hst hokc hr;have gen:∀(l:List Nat) (p q:Nat->Bool),(∀k,p k=true->q k=true)->i∈l->q i=true->p i=false->l.countP p<l.countP q:=by
      intro l p q hpq hil hqi hpi;induction l with
      |nil=>cases hil
      |cons x l ihl=>
       rw[List.countP_cons,List.countP_cons];by_cases e:x=i
       ·subst e;have:l.countP p<=l.countP q:=List.countP_mono_left (λk _=>hpq k);simp[hqi,hpi];omega
       ·have:=ihl (by cases hil with|head=>exact absurd rfl e|tail _ h=>exact h);by_cases hp:p x=true
        ·simp[hp,hpq x hp];omega
        ·simp[hp];omega
     refine gen _ _ _ hsub (by simp[hin]) (by simpa using hil) ?_;have:i<listed.size:=by omega
     simp[this]
    omega
   ·intro j hj k hk;by_cases e:i=j
    ·subst e;by_cases e':i=k
     ·subst e';exact hj
     ·have:=hpreL k hk;simpa[lH e']using this
    ·have hj':listed.getD j false=true:=by simpa[lH e]using hj
     have:=hcl j hj' k hk;by_cases e':i=k
     ·subst e';rw[hL]at this;cases this
     ·simpa[lH e']using this
   ·simp only[ho]at hst;have hst':after ops effs nx s (λj=>(listed.setIfInBounds i true).getD j false) ops.size=(after ops effs nx s (λj=>listed.getD j false) ops.size).app ops[i].dst (effs i) (nx+64*i):=by
     rw[<-show((some ops[i]).bind λx=>x.dst)=ops[i].dst from rfl,<-hst];refine F9 _ (λk _=>?_);by_cases e:k=i
     ·subst e;have:k<listed.size:=by omega
      simp[this]
     ·simp[lH (mW e),e]
    rw[hst'];exact hr'
 refine main ops.size _ a _ (by simp) ?_ ?_ ?_
 ·exact cD (eE _ _) (by simp)
 ·intro j hj;by_cases h:j<ops.size<;>simp[h]at hj
 ·have e0:∀k,after ops effs nx s (λj=>(Array.replicate ops.size false).getD j false) k=s:=by
   intro k;induction k with
   |zero=>rfl
   |succ k ih=>
    simp only[after,ih];by_cases h:k<ops.size<;>simp[h]
  rw[e0];exact hr.drawn
end
inductive K where
 |int (k:IntKind)|bool|str|ptr (e:Nat)|dA (e:Nat)|arr (n e:Nat)|map (k e:Nat)
 |dD (fs:List (Nat×Nat×Bool))|iface (empty:Bool)|func|other
 deriving DecidableEq
def bS (P:Program)(t:TypeId):Nat:=((P.info? t).map (·.size)).getD 0
def A8 (P:Program)(flat:TypeId->Option (List CK)):Nat->List Field->Option (List CK)
 |_,[]=>some []
 |off,f::fs=>
  match flat f.type with
  |some l=>if f.name≠ "_" ∧f.offset=off∧bS P f.type=l.length then
    match A8 P flat (off+l.length) fs with
    |some r=>some (l++r)
    |none=>none
   else none
  |none=>none
def jZ (P:Program):Nat->TypeId->Option (List CK)
 |0,_=>none
 |d+1,t=>
  match P.underlying t with
  |some (.int _)=>some [.int]
  |some .bool=>some [.bool]
  |some .string=>some [.str]
  |some (.struct fs)=>if P.stoodInHeld t then none else A8 P (jZ P d) 0 fs.toList
  |some (.array n e)=>
   match jZ P d e with
   |some l=>if bS P e=l.length then some (List.replicate n l).flatten else none
   |none=>none
  |_=>none
structure TI where
 sz:Nat
 bytes:Nat
 zero:List Value
 k:K
 eg:Bool
 fl:Option (List CK)
 za:Bool
def r7 :Value->Bool
 |.agg _=>true
 |_=>false
def eC :TypeDesc->K
 |.int k=>.int k
 |.bool=>.bool
 |.string=>.str
 |.pointer e=>.ptr e
 |.slice e=>.dA e
 |.array n e=>.arr n e
 |.map k e=>.map k e
 |.struct fs=>.dD (fs.toList.map fun f=>(f.offset,f.type,f.name== "_"))
 |.interface ms=>.iface ms.isEmpty
 |.func _ _ _=>.func
 |_=>.other
def aH (P:Program)(t:TypeId):Option TI:=
 match P.info? t,P.underlying t with
 |some i,some d=>
  match i.zero with
  |some z=>some {sz:=i.size,bytes:=i.bytes,zero:=z.cells.toList,k:=eC d,eg:=P.eqGuardType P.depth t,fl:=jZ P 8 t,za:=r7 z}
  |none=>none
 |_,_=>none
def TI.agg (t:TI):Bool:=
 match t.k with
 |.dD _|.arr _ _=>true
 |_=>false
section
variable {P : Program} {t : TypeId} {ti : TI} {w : World}
theorem fG (h:aH P t=some ti):∃i d z,P.info? t=some i/\P.underlying t=some d/\i.zero=some z/\ti={sz:=i.size,bytes:=i.bytes,zero:=z.cells.toList,k:=eC d,eg:=P.eqGuardType P.depth t,fl:=jZ P 8 t,za:=r7 z}:=by
 unfold aH at h
 grind
theorem lV (h:aH P t=some ti):(sizeOf t).run P w=.ok ti.sz w:=by
 obtain⟨i,d,z,hi,hd,hz,rfl⟩:=fG h;simp[sizeOf,typeInfo,hi]
theorem SX (h:aH P t=some ti):∃z,(zeroValue t).run P w=.ok z w/\z.cells.toList=ti.zero:=by
 obtain⟨i,d,z,hi,hd,hz,rfl⟩:=fG h;exact⟨z,by simp[zeroValue,typeInfo,hi,hz],rfl⟩
theorem DF (h:aH P t=some ti):∃d,(underlying t).run P w=.ok d w/\P.underlying t=some d/\eC d=ti.k:=by
 obtain⟨i,d,z,hi,hd,hz,rfl⟩:=fG h;exact⟨d,by simp[underlying,hd],hd,rfl⟩
theorem IA (h:aH P t=some ti):(isAgg t).run P w=.ok ti.agg w:=by
 obtain⟨i,d,z,hi,hd,hz,rfl⟩:=fG h;cases d<;>simp[isAgg,underlying,hd,TI.agg,eC]
end
def BZ :Value->AV
 |.agg cs=>.agg (cs.toList.map λc=>.d (.v c))
 |v=>.d (.v v)
def ev (tm:Nat->AV):Operand->AV
 |.tmp t=>tm t
 |.const v=>BZ v
 |.global g=>.d (.v (.pointer (some ⟨g,0,none⟩)))
 |.func f=>.d (.v (.func (.func f) #[] #[]))
theorem Ha {σ:Names}{I:Nat->Prop}{w:World}(v:Value):RV σ I w (BZ v) v:=by
 unfold BZ;split
 ·rename_i cs;have:cs=cs.toList.toArray:=by simp
  refine .agg (by simp) (λi c x h1 h2=>?_);simp at h1 h2;obtain⟨y,hy,rfl⟩:=h1;rw[h2]at hy;cases hy;exact .d (.v _)
 ·exact .d (.v _)
theorem bO {σ:Names}{I:Nat->Prop}{w:World}{tm:Nat->AV}{a:Act}{x:Operand}(h:∀t,x=.tmp t->RV σ I w (tm t) (a.tmps.getD t undef)):
  RV σ I w (ev tm x) (a.eval x):=by
 cases x with
 |tmp t=>exact h t rfl
 |const v=>exact Ha v
 |global g=>exact .d (.v _)
 |func f=>exact .d (.v _)
def cellsOf :AV->Option (List AV)
 |.agg cs=>some cs
 |.d (.agg cs)=>some (cs.map .d)
 |.d (.v x)=>if x.oneCell' then some [.d (.v x)]else none
 |.any=>none
 |.bC _=>none
 |x=>some [x]
theorem N4 {v:Value}(h:v.oneCell'=true):v.cells=#[v]:=by cases v<;>first|rfl|cases h
theorem vO {σ:Names}{I:Nat->Prop}{w:World}{x:AV}{v:Value}{cs:List AV}(h:RV σ I w x v)(hc:cellsOf x=some cs):
  v.cells.size=cs.length/\∀(i:Nat) c y,cs[i]? =some c->v.cells[i]? =some y->RV σ I w c y:=by
 have one:v.oneCell'=true->cs=[x]->v.cells.size=cs.length/\∀(i:Nat) c y,cs[i]? =some c->v.cells[i]? =some y->RV σ I w c y:=by
  rintro h1 rfl;rw[N4 h1];refine⟨rfl,λi c y hc hy=>?_⟩;cases i with
  |zero=>simp at hc hy;subst hc;subst hy;exact h
  |succ i=>simp at hc
 cases h with
 |d h=>
  cases h with
  |v y=>
   simp only[cellsOf]at hc
   grind
  |agg hl hr=>
   simp only[cellsOf]at hc;cases hc;refine⟨by simp[Value.cells,hl],λi c y h1 h2=>?_⟩;simp[Value.cells]at h1 h2;obtain⟨z,hz,rfl⟩:=h1;exact .d (hr i z y hz h2)
  |_=>simp only[cellsOf]at hc;cases hc;exact one rfl rfl
 |any y=>cases hc
 |own h h1=>simp only[cellsOf]at hc;cases hc;exact one h1 rfl
 |bC _ _=>cases hc
 |sl h hs=>simp only[cellsOf]at hc;cases hc;exact one (by cases hs<;>rfl) rfl
 |agg hl hr=>
  simp only[cellsOf]at hc;cases hc;exact⟨by simp[Value.cells,hl],λi c y h1 h2=>hr i c y h1 (by simpa[Value.cells]using h2)⟩
 |_=>simp only[cellsOf]at hc;cases hc;exact one rfl rfl
theorem aO.val {P:Program}{o:Oper}{tm:Nat->AV}{mr mw:Mem}{nm:Nat}{res:AV}
  (h:∀(a:Act) (w:World) (σ:Names) (I:Nat->Prop),(∀n,I n->n<w.heap.size)->
    (∀t,Operand.tmp t∈o.op.operands->RV σ I w (tm t) (a.tmps.getD t undef))->RM σ I w mr->(∀b,fresh nm b->σ b=none)->
    ∃v w' σ' I',(execOp a.eval o).run P w=.ok (.value v) w'/\cB σ I w mr nm σ' I' w' mw/\RV σ' I' w' res v):aO P o tm mr nm res mw:=by
 intro a w σ I h1 h2 h3 h4 next Q hn;obtain⟨v,w',σ',I',hr,hp,hv⟩:=h a w σ I h1 h2 h3 h4;simp only[Oper.wp,hr];exact hn v σ' I' w' hp hv
theorem cB.refl {σ:Names}{I:Nat->Prop}{w:World}{m:Mem}{nm:Nat}(hib:∀n,I n->n<w.heap.size)(hm:RM σ I w m):cB σ I w m nm σ I w m:=
 ⟨rfl,rfl,⟨rfl,aY _⟩,aY _,λ_ _ h=>h,λ_ h1 h2=>absurd h1 h2,λ_ h=>h,hib,λ_ h=>.inl h,λ_ _ _=>rfl,hm,
   λb k h=>.inl (by simp[h]),λ_ h=>.inl h⟩
theorem aO.pure {P:Program}{o:Oper}{tm:Nat->AV}{m:Mem}{nm:Nat}{res:AV}
  (h:∀(a:Act) (w:World) (σ:Names) (I:Nat->Prop),
    (∀t,Operand.tmp t∈o.op.operands->RV σ I w (tm t) (a.tmps.getD t undef))->RM σ I w m->
    ∃v,(execOp a.eval o).run P w=.ok (.value v) w/\RV σ I w res v):aO P o tm m nm res m:=
 aO.val λa w σ I h1 h2 h3 _=>let⟨v,hr,hv⟩:=h a w σ I h2 h3;⟨v,w,σ,I,hr,cB.refl h1 h3,hv⟩
theorem aG.mO (res:AV)(rd:List Nat)(m:Mem):(aG.mk res rd []).mw m=(aG.mk res rd []).mr m:=by
 funext b;simp[aG.mw,aG.mr,wrote]
theorem aG.eZ {e:aG}{m:Mem}{b:Nat}{k:aN}(h:m b=some k)(hb:b∈e.rd\/(wrote e.wr b).isSome):e.mr m b=some k:=by
 simp only[aG.mr]
 grind
theorem cB.alloc {σ:Names}{I:Nat->Prop}{w:World}{m:Mem}{nm:Nat}{x:Value}{o:Obj}{k:aN}(hib:∀n,I n->n<w.heap.size)(hσ:σ nm=none)
  (hx:hb x=some w.heap.size) (hk:∀σ',(∀b y,σ b=some y->σ' b=some y)->RB σ' I (w.alloc o) k x):
  cB σ I w m nm (λb=>if b=nm then some x else σ b) I (w.alloc o) (λb=>if b=nm then some k else none):=by
 have ext:∀b y,σ b=some y->(if b=nm then some x else σ b)=some y:=by
  grind
 refine⟨rfl,rfl,⟨rfl,aY _⟩,by simp,ext,λb h1 h2=>?_,λ_ h=>h,λn h=>by have:=hib n h;simp;omega,λ_ h=>.inl h,λn h _=>pB w o h,
  ⟨λb k' h=>?_,λb b' k1 k2 x1 x2 n h1 h2 _ _ _ _=>?_⟩,λb k' h=>?_,λn h=>?_⟩
 ·by_cases e:b=nm
  ·subst e;exact⟨aY _,by omega⟩
  ·simp_all
 ·by_cases e:b=nm
  ·subst e;simp only[dY]at h⊢;cases h;refine⟨x,rfl,hk _ ext,λn hn=>?_⟩;rw[hx]at hn;cases hn;exact⟨by simp,λh=>by have:=hib _ h;omega⟩
  ·simp[e]at h
 ·simp_all
 ·by_cases e:b=nm
  ·subst e;exact .inr ⟨aY _,by omega⟩
  ·simp[e]at h
 ·obtain⟨b,k',y,h1,h2,h3⟩:=h;simp_all
theorem cB.write {σ:Names}{I:Nat->Prop}{w w':World}{m:Mem}{nm b:Nat}{x:Value}{k k':aN}{n:Nat}(hib:∀n,I n->n<w.heap.size)(hm:RM σ I w m)
  (hb1:m b=some k) (hx:σ b=some x) (hn:hb x=some n) (ho:∀j,j≠n->w'.heap[j]? =w.heap[j]?) (hs:w'.heap.size=w.heap.size)
  (h1:w'.os=w.os) (h2:w'.tape=w.tape) (h3:lC w' w) (hk:RB σ I w' k' x) {m':Mem} (hm':∀c q,m' c=some q->(c=b/\q=k')\/(c≠b/\m c=some q)):
  cB σ I w m nm σ I w' m':=by
 have hnI:¬I n:=by
  obtain⟨y,hy,_,hyn⟩:=hm.aS b k hb1;simp_all
 have old:∀c q,m' c=some q->∃q',m c=some q':=by
  grind
 refine⟨h1,h2,h3,by omega,λ_ _ h=>h,λ_ h1 h2=>absurd h1 h2,λ_ h=>h,λn h=>by have:=hib n h;omega,λ_ h=>.inl h,λj _ hj=>ho j (λe=>hj (e▸⟨b,k,x,hb1,hx,hn⟩)),⟨λc q h=>?_,λc c' q q' y y' j g1 g2 g3 g4 g5 g6=>?_⟩,λc q h=>.inl ?_,λj h=>.inl ?_⟩
 ·rcases hm' c q h with⟨rfl,rfl⟩|⟨hne,h⟩
  ·refine⟨x,hx,hk,λj hj=>?_⟩;obtain⟨y,hy,_,hyn⟩:=hm.aS c k hb1;simp_all
  ·obtain⟨y,hy,hrb,hyn⟩:=hm.aS c q h;refine⟨y,hy,hrb.mono (λj hj=>ho j (λe=>hnI (e▸hj))) (λ_ h=>h) (λ_ _ h=>h) (λj hj=>ho j (λe=>?_)),λj hj=>⟨by have:=(hyn j hj).1;omega,(hyn j hj).2⟩⟩;subst e;exact hne (hm.apart c b q k y x j h hb1 hy hx hj hn)
 ·obtain⟨p,hp⟩:=old c q g1;obtain⟨p',hp'⟩:=old c' q' g2;exact hm.apart c c' p p' y y' j hp hp' g3 g4 g5 g6
 ·obtain⟨p,hp⟩:=old c q h;simp[hp]
 ·obtain⟨c,q,y,g1,g2,g3⟩:=h;obtain⟨p,hp⟩:=old c q g1;exact⟨c,p,y,hp,g2,g3⟩
theorem JY {P:Program}{o:Oper}{x:Operand}(ho:o.op=.move x\/o.op=.assign x)(tm:Nat->AV)(m:Mem)(nm:Nat):
  aO P o tm m nm (ev tm x) m:=
 aO.pure λa w σ I h _=>⟨a.eval x,by rcases ho with ho|ho<;>simp[execOp,ho],bO λt e=>h t (by rcases ho with ho|ho<;>simp[ho,Op.operands,e])⟩
def qU (t:Bool):AV->AV->AV
 |.d (.v (.bool x)),.d (.v (.bool y))=>.d (.v (.bool (bif t then x else y)))
 |x,y=>bif t then x else y
theorem O5 {σ:Names}{I:Nat->Prop}{w:World}{b:Bool}{y:Value}(h:RV σ I w (.d (.v (.bool b))) y):y=.bool b:=by
 cases h with
 |d h=>cases h;rfl
theorem cH {σ:Names}{I:Nat->Prop}{w:World}{x y:Value}(h:RV σ I w (.d (.v x)) y):y=x:=by
 cases h with
 |d h=>cases h;rfl
theorem Gz {σ:Names}{I:Nat->Prop}{w:World}{t:Bool}{x y:AV}{u v:Value}(hx:RV σ I w x u)(hy:RV σ I w y v):
  RV σ I w (qU t x y) (if t then u else v):=by
 unfold qU
 grind
theorem VO {P:Program}{o:Oper}{c x y:Operand}(ho:o.op=.pick c x y)(tm:Nat->AV)(m:Mem)(nm:Nat){t:Bool}(hc:ev tm c=.d (.v (.bool t))):
  aO P o tm m nm (qU t (ev tm x) (ev tm y)) m:=by
 refine aO.pure λa w σ I h _=>⟨if t then a.eval x else a.eval y,?_,Gz (bO λs e=>h s (by simp[ho,Op.operands,e])) (bO λs e=>h s (by simp[ho,Op.operands,e]))⟩;have:a.eval c=.bool t:=O5 (σ:=σ) (I:=I) (w:=w) (hc▸bO λs e=>h s (by simp[ho,Op.operands,e]));simp[execOp,ho,this,asBool]
def cN (σ:Names)(nm:Nat)(x:Value):Names:=λb=>if b=nm then some x else σ b
theorem aG.u2 (res:AV)(nm:Nat)(k:aN)(mem:Mem):(aG.mk res [] [(nm,some k)]).mw mem=λb=>if b=nm then some k else none:=by
 funext b
 by_cases e:b=nm
 ·simp[aG.mw,wrote,e]
 ·simp[aG.mw,wrote,e,mW e]
theorem aO.new {P:Program}{o:Oper}{tm:Nat->AV}{mem:Mem}{nm:Nat}{res:AV}{k:aN}
  (h:∀(a:Act) (w:World) (σ:Names) (I:Nat->Prop),(∀n,I n->n<w.heap.size)->(∀t,Operand.tmp t∈o.op.operands->RV σ I w (tm t) (a.tmps.getD t undef))->
    ∃x v ob,(execOp a.eval o).run P w=.ok (.value v) (w.alloc ob)/\hb x=some w.heap.size/\
     (∀σ':Names,(∀b y,σ b=some y->σ' b=some y)->RB σ' I (w.alloc ob) k x)/\∀σ':Names,σ' nm=some x->RV σ' I (w.alloc ob) res v):
  aO P o tm ((aG.mk res [] [(nm,some k)]).mr mem) nm res ((aG.mk res [] [(nm,some k)]).mw mem):=by
 refine aO.val λa w σ I h1 h2 _ h4=>?_;obtain⟨x,v,ob,hr,hx,hk,hv⟩:=h a w σ I h1 h2;refine⟨v,w.alloc ob,cN σ nm x,I,hr,?_,hv _ (by simp[cN])⟩;rw[aG.u2];exact cB.alloc h1 (h4 nm ⟨aY _,by omega⟩) hx hk
theorem WL {P:Program}{o:Oper}{T:TypeId}(ho:o.op=.alloc T)(tm:Nat->AV)(mem:Mem)(nm:Nat){ti:TI}(hT:aH P T=some ti):
  aO P o tm ((aG.mk (.ptr nm 0) [] [(nm,some (.cells (ti.zero.map λv=>.d (.v v)) T))]).mr mem) nm (.ptr nm 0)
   ((aG.mk (.ptr nm 0) [] [(nm,some (.cells (ti.zero.map λv=>.d (.v v)) T))]).mw mem):=by
 refine aO.new λa w σ I h1 _=>?_;obtain⟨z,hz,hzl⟩:=SX (w:=w) hT;refine⟨.pointer (some ⟨w.heap.size,0,none⟩),.pointer (some ⟨w.heap.size,0,none⟩),.cells z.cells T (0,0),?_,rfl,λσ' _=>?_,λσ' h=>.ptr h⟩
 ·simp[execOp,ho,Instr.alloc,hz,newVar,newRow]
 ·refine .cells (uB w _) ?_ ?_
  ·grind
  ·intro i c x hc hx;simp only[<-hzl]at hc;simp at hc;obtain⟨y,hy,rfl⟩:=hc;rw[hx]at hy;cases hy;exact .d (.v _)
theorem WI {P:Program}{o:Oper}{T:TypeId}{x:Operand}(ho:o.op=.box T x)(tm:Nat->AV)(mem:Mem)(nm:Nat){cs:List AV}(hc:cellsOf (ev tm x)=some cs):
  aO P o tm ((aG.mk (.ptr nm 0) [] [(nm,some (.cells cs T))]).mr mem) nm (.ptr nm 0) ((aG.mk (.ptr nm 0) [] [(nm,some (.cells cs T))]).mw mem):=by
 refine aO.new λa w σ I h1 h2=>?_;have hv:RV σ I w (ev tm x) (a.eval x):=bO λs e=>h2 s (by simp[ho,Op.operands,e]);obtain⟨hl,hr⟩:=vO hv hc;refine⟨.pointer (some ⟨w.heap.size,0,none⟩),.pointer (some ⟨w.heap.size,0,none⟩),.cells (a.eval x).cells T (0,0),?_,rfl,λσ' hσ'=>?_,λσ' h=>.ptr h⟩
 ·simp[execOp,ho,Instr.box,newVar,newRow]
 ·exact .cells (uB w _) hl (λi c y h3 h4=>(hr i c y h3 h4).mono (λn hn=>pB w _ (h1 n hn)) (λ_ h=>h) hσ')
theorem add_plain (n off j:Nat):(⟨n,off,none⟩:Addr).add j=⟨n,off+j,none⟩:=by
 unfold Addr.add;simp_all
theorem rF {w:World}{n off:Nat}{arr:Array Value}{T:TypeId}{fr:Nat×Nat}(h:w.heap[n]? =some (.cells arr T fr)):w.cell? ⟨n,off,none⟩=arr[off]? :=by
 simp[World.cell?,h]
theorem S3 {P:Program}{w:World}{T:TypeId}{ti:TI}(hT:aH P T=some ti)(hg:ti.agg=true){a:Addr}{cs:List Value}(hl:cs.length=ti.sz)
  (h:∀j v,cs[j]? =some v->w.cell? (a.add j)=some v):(loadVar T a).run P w=.ok (.agg cs.toArray) w:=by
 simp only[loadVar,bV,IA hT,hg,Result.andThen,dY,lV hT,<-hl,run_loadCells_list (P:=P) w a cs h];rfl
theorem S2 {P:Program}{w:World}{T:TypeId}{ti:TI}(hT:aH P T=some ti)(hg:ti.agg=false){a:Addr}{v:Value}
  (h:w.cell? a=some v):(loadVar T a).run P w=.ok v w:=by
 simp[loadVar,IA hT,hg,h]
def lM (agg:Bool)(sz off:Nat)(cs:List AV):Option AV:=
 if agg then(if off+sz<=cs.length then some (.agg ((cs.drop off).take sz))else none)else cs[off]?
theorem DH {P:Program}{w:World}{σ:Names}{I:Nat->Prop}{T:TypeId}{ti:TI}(hT:aH P T=some ti){n base off:Nat}{cs:List AV}{r:AV}{val:Nat->Value}
  (hr:lM ti.agg ti.sz off cs=some r) (hc:∀j c,cs[j]? =some c->w.cell? ⟨n,base+j,none⟩=some (val j)/\RV σ I w c (val j)):
  ∃v,(loadVar T ⟨n,base+off,none⟩).run P w=.ok v w/\RV σ I w r v:=by
 unfold lM at hr;cases hg:ti.agg with
 |true=>
  simp only[hg,dY]at hr;split at hr
  ·rename_i hle;cases hr;have hlen:((List.range ti.sz).map λj=>val (off+j)).length=ti.sz:=by simp
   refine⟨_,S3 hT hg hlen (λj v hv=>?_),?_⟩
   ·simp at hv;have hj:j<ti.sz:=by
     grind
    simp[hj]at hv;subst hv;rw[add_plain];have:=(hc (off+j) _ (bL (by omega))).1
    grind
   ·refine .agg ?_ (λi c x h1 h2=>?_);all_goals grind
  ·cases hr
 |false=>
  simp only[hg,j5]at hr;exact⟨val off,S2 hT hg (hc off r hr).1,(hc off r hr).2⟩
theorem RM.cells {σ:Names}{I:Nat->Prop}{w:World}{m:Mem}(hm:RM σ I w m){b:Nat}{cs:List AV}{T:TypeId}(h:m b=some (.cells cs T)):
  ∃n arr,σ b=some (.pointer (some ⟨n,0,none⟩))/\w.heap[n]? =some (.cells arr T (0,0))/\arr.size=cs.length/\
   ∀(i:Nat) c x,cs[i]? =some c->arr[i]? =some x->RV σ I w c x:=by
 obtain⟨x,hx,hrb,_⟩:=hm.aS b _ h;cases hrb with
 |cells h1 h2 h3=>exact⟨_,_,hx,h1,h2,h3⟩
theorem RM.grow {σ:Names}{I:Nat->Prop}{w:World}{m:Mem}(hm:RM σ I w m){b z:Nat}{es:List (List D)}{T:TypeId}(h:m b=some (.grow z es T)):
  ∃x,σ b=some x/\((x=.slice none 0 0/\es=[])\/(∃a,x=.slice (some a) 0 0/\es=[])\/∃n cap arr,x=.slice (some ⟨n,0,none⟩) es.length cap/\w.heap[n]? =some (.cells arr T (0,0))/\cap*z<=arr.size/\es.length<=cap/\cap<=maxLen/\
   (∀e∈es,e.length=z)/\∀(i:Nat) e (j:Nat) c,es[i]? =some e->e[j]? =some c->∃x,arr[i*z+j]? =some x/\RD I w c x/\x.oneCell'=true):=by
 obtain⟨x,hx,hrb,_⟩:=hm.aS b _ h;cases hrb with
 |none=>exact⟨_,hx,.inl ⟨rfl,rfl⟩⟩
 |emp a=>exact⟨_,hx,.inr (.inl ⟨a,rfl,rfl⟩)⟩
 |grow h1 h2 h3 h4 h5 h6=>exact⟨_,hx,.inr (.inr ⟨_,_,_,rfl,h1,h2,h3,h4,h5,h6⟩)⟩
theorem De {σ:Names}{I:Nat->Prop}{w:World}{n:Nat}{arr:Array Value}{T:TypeId}{cs:List AV}(hh:w.heap[n]? =some (.cells arr T (0,0)))(hl:arr.size=cs.length)
  (hr:∀(i:Nat) c x,cs[i]? =some c->arr[i]? =some x->RV σ I w c x):
  ∀j c,cs[j]? =some c->w.cell? ⟨n,0+j,none⟩=some (arr.getD j undef)/\RV σ I w c (arr.getD j undef):=by
 intro j c hc;have hj:j<arr.size:=by
  have:=(cJ.1 hc).1;omega
 have e:arr[j]? =some (arr.getD j undef):=by simp[hj]
 refine⟨?_,hr j c _ hc e⟩;rw[rF hh,rK];exact e
def qX (agg:Bool)(sz:Nat)(mem:Mem):AV->Option aG
 |.ptr b off=>match mem b with
  |some (.cells cs _)=>(lM agg sz off cs).map λr=>⟨r,[b],[]⟩
  |_=>none
 |.dM b z i off=>match mem b with
  |some (.grow z' es _)=>if z=z' then match es[i]? with
    |some e=>(lM agg sz off (e.map .d)).map λr=>⟨r,[b],[]⟩
    |none=>none
   else none
  |_=>none
 |.d (.aT cs)=>(lM agg sz 0 (cs.map .d)).map λr=>⟨r,[],[]⟩
 |_=>none
theorem LC {P:Program}{T:TypeId}{mem:Mem}{ti:TI}(hT:aH P T=some ti){x:AV}{e:aG}(he:qX ti.agg ti.sz mem x=some e){σ:Names}{I:Nat->Prop}{w:World}{u:Value}
  (h1:RV σ I w x u) (h2:RM σ I w (e.mr mem)):∃ad v,u=.pointer (some ad)/\(loadVar T ad).run P w=.ok v w/\RV σ I w e.res v:=by
 unfold qX at he;split at he
 ·rename_i b off;split at he
  ·rename_i cs T' hb;cases hr:lM ti.agg ti.sz off cs with
   |none=>simp[hr]at he
   |some r=>
    simp[hr]at he;subst he;obtain⟨n,arr,h3,h4,h5,h6⟩:=h2.cells (aG.eZ hb (.inl (by simp)));obtain⟨v,h7,h8⟩:=DH hT hr (De h4 h5 h6);rw[rK]at h7;refine⟨_,v,?_,h7,h8⟩;cases h1 with
    |ptr h=>rw[h3]at h;cases h;rfl
  ·cases he
 ·rename_i b z i off;split at he
  ·rename_i z' es T' hb;split at he
   ·rename_i hz;subst hz;split at he
    ·rename_i el hel;cases hr:lM ti.agg ti.sz off (el.map .d)with
     |none=>simp[hr]at he
     |some r=>
      simp[hr]at he;subst he;obtain⟨y,hy,hrb⟩:=h2.grow (aG.eZ hb (.inl (by simp)))
      obtain⟨n,arr,ha,g1,g6⟩:∃n arr,u=.pointer (some ⟨n,i*z+off,none⟩)/\w.heap[n]? =some (.cells arr T' (0,0))/\
        (∀(i:Nat) e (j:Nat) c,es[i]? =some e->e[j]? =some c->∃x,arr[i*z+j]? =some x/\RD I w c x/\x.oneCell'=true):=by
       cases h1 with
       |dM h=>
        rw[hy]at h;cases h;rcases hrb with⟨hrb,_⟩|⟨_,_,rfl⟩|⟨n,cap,arr,hyy,g1,g2,g3,g4,g5,g6⟩
        ·cases hrb
        ·simp at hel
        ·cases hyy;exact⟨_,_,rfl,g1,g6⟩
      obtain⟨v,h7,h8⟩:=DH (σ:=σ) (I:=I) (n:=n) (base:=i*z) (val:=λj=>arr.getD (i*z+j) undef) hT hr (λj c hc=>by
       simp at hc;obtain⟨c',hc',rfl⟩:=hc;obtain⟨q,hq,hq',_⟩:=g6 i el j c' hel hc';have e0:arr.getD (i*z+j) undef=q:=by simp[hq]
       rw[rF g1,hq,e0];exact⟨rfl,.d hq'⟩)
      exact⟨_,v,ha,h7,h8⟩
    ·cases he
   ·cases he
  ·cases he
 ·rename_i cs;cases hr:lM ti.agg ti.sz 0 (cs.map .d)with
  |none=>simp[hr]at he
  |some r=>
   simp[hr]at he;subst he;cases h1 with
   |d h=>
    cases h with
    |aT val hI hc hrr hone=>
     rename_i aS off;obtain⟨v,h7,h8⟩:=DH (σ:=σ) (I:=I) (n:=aS) (base:=off) (val:=val) hT hr (λj c hcj=>by
      simp at hcj;obtain⟨c',hc',rfl⟩:=hcj;exact⟨hc j c' hc',.d (hrr j c' hc')⟩)
     exact⟨_,v,rfl,h7,h8⟩
 ·cases he
theorem X1 {agg:Bool}{sz:Nat}{mem:Mem}{x:AV}{e:aG}(he:qX agg sz mem x=some e):e.wr=[]:=by
 unfold qX at he
 repeat' split at he
 all_goals first
  | (cases he;done)
  | (simp at he;obtain⟨_,_,rfl⟩:=he;rfl)
theorem JZ {P:Program}{o:Oper}{T:TypeId}{x:Operand}(ho:o.op=.load T x)(tm:Nat->AV)(mem:Mem)(nm:Nat){ti:TI}(hT:aH P T=some ti){e:aG}
  (he:qX ti.agg ti.sz mem (ev tm x)=some e):aO P o tm (e.mr mem) nm e.res (e.mw mem):=by
 have hmw:e.mw mem=e.mr mem:=by
  have hwr:=X1 he;obtain⟨r,rd,wr⟩:=e;simp only at hwr;subst hwr;exact aG.mO _ _ _
 rw[hmw];refine aO.pure λa w σ I h1 h2=>?_;obtain⟨ad,v,h3,h4,h5⟩:=LC hT he (bO (a:=a) λs e=>h1 s (by simp[ho,Op.operands,e])) h2;exact⟨v,by simp[execOp,ho,Instr.loadAt,Instr.sureAddr,h3,h4],h5⟩
def rY :AV->Bool
 |.d (.v x)=>x.oneCell'
 |.d (.agg _)=>false
 |.any=>false
 |.bC _=>false
 |.agg _=>false
 |_=>true
theorem zO {σ:Names}{I:Nat->Prop}{w:World}{c:AV}{x:Value}(h:RV σ I w c x)(hc:rY c=true):x.oneCell'=true:=by
 cases h with
 |d h=>
  cases h with
  |v y=>exact hc
  |agg _ _=>cases hc
  |_=>rfl
 |any y=>cases hc
 |bC _ _=>cases hc
 |agg _ _=>cases hc
 |own h h1=>exact h1
 |sl h hs=>cases hs<;>rfl
 |_=>rfl
def rQ :AV->Option D
 |.d (.agg _)=>none
 |.d x=>some x
 |_=>none
def kM :List AV->Option (List D)
 |[]=>some []
 |x::r=>match rQ x,kM r with
  |some y,some s=>some (y::s)
  |_,_=>none
theorem mZ :∀{l:List AV} {s:List D},kM l=some s->l=s.map .d
 |[],s,h=>by cases h;rfl
 |x::r,s,h=>by
  unfold kM at h;split at h
  ·rename_i y t h1 h2;cases h;rw[mZ h2,fM];congr 1
   unfold rQ at h1;split at h1
   ·cases h1
   ·cases h1;rfl
   ·cases h1
  ·cases h
def lay {α:Type}(cs:List α)(off:Nat)(new:List α):List α:=cs.take off++new++cs.drop (off+new.length)
theorem w7 {α:Type}(cs new:List α)(off i:Nat)(h:off+new.length<=cs.length):
  (lay cs off new)[i]? =if off<=i/\i<off+new.length then new[i-off]? else cs[i]? :=by
 unfold lay;rw[CH]
 grind
theorem w6 {α:Type}(cs new:List α)(off:Nat)(h:off+new.length<=cs.length):(lay cs off new).length=cs.length:=by
 simp[lay];omega
def yZ (sz:Nat)(mem:Mem)(x:AV):AV->Option aG
 |.ptr b off=>match mem b,cellsOf x with
  |some (.cells cs T),some new=>if new.length=sz/\off+new.length<=cs.length/\new.all rY=true then some ⟨.d (.v undef),[],[(b,some (.cells (lay cs off new) T))]⟩else none
  |_,_=>none
 |.dM b z i off=>match mem b,(cellsOf x).bind kM with
  |some (.grow z' es T),some new=>match es[i]? with
   |some e=>if z=z'/\new.length=sz/\off+new.length<=e.length/\(new.map AV.d).all rY=true then some ⟨.d (.v undef),[],[(b,some (.grow z (es.set i (lay e off new)) T))]⟩else none
   |none=>none
  |_,_=>none
 |_=>none
theorem H8 {P:Program}{w:World}{T:TypeId}{ti:TI}(hT:aH P T=some ti){n off:Nat}{v:Value}{arr:Array Value}{T':TypeId}(hs:v.cells.size=ti.sz)
  (hh:w.heap[n]? =some (.cells arr T' (0,0))) (hl:off+v.cells.size<=arr.size) (h1:∀x∈v.cells.toList,x.oneCell'=true):
  (storeVar T ⟨n,off,none⟩ v).run P w=.ok () (w.setRow n (lay arr.toList off v.cells.toList).toArray):=by
 have:=run_storeCells_at (P:=P) n off T' v.cells.toList 0 arr w hh (by simpa using hl) h1;simp[storeVar,lV hT,hs,this,lay]
theorem aO.skip {P:Program}{o:Oper}{tm:Nat->AV}{mr mw:Mem}{nm:Nat}
  (h:∀(a:Act) (w:World) (σ:Names) (I:Nat->Prop),(∀n,I n->n<w.heap.size)->
    (∀t,Operand.tmp t∈o.op.operands->RV σ I w (tm t) (a.tmps.getD t undef))->RM σ I w mr->(∀b,fresh nm b->σ b=none)->
    ∃w' σ' I',(execOp a.eval o).run P w=.ok .skip w'/\cB σ I w mr nm σ' I' w' mw):aO P o tm mr nm (.d (.v undef)) mw:=by
 intro a w σ I h1 h2 h3 h4 next Q hn;obtain⟨w',σ',I',hr,hp⟩:=h a w σ I h1 h2 h3 h4;simp only[Oper.wp,hr];exact hn undef σ' I' w' hp (.d (.v _))
theorem qL {res:AV}{b:Nat}{k':aN}{mem:Mem}:∀c q,(aG.mk res [] [(b,some k')]).mw mem c=some q->(c=b/\q=k')\/(c≠b/\(aG.mk res [] [(b,some k')]).mr mem c=some q):=by
 intro c q h;rw[aG.u2]at h;simp_all
theorem VL {P:Program}{o:Oper}{T:TypeId}{ad x:Operand}(ho:o.op=.store T ad x)(tm:Nat->AV)(mem:Mem)(nm:Nat){ti:TI}(hT:aH P T=some ti){e:aG}
  (he:yZ ti.sz mem (ev tm x) (ev tm ad)=some e):aO P o tm (e.mr mem) nm e.res (e.mw mem):=by
 unfold yZ at he;split at he
 ·rename_i b off hx;split at he
  ·rename_i cs T' new hb hnew;split at he
   ·rename_i hc;obtain⟨c1,c2,c3⟩:=hc;cases he;refine aO.skip λa w σ I h1 h2 h3 _=>?_;obtain⟨n,arr,g1,g2,g3,g4⟩:=h3.cells (aG.eZ hb (.inr (by simp[wrote])));obtain⟨v1,v2⟩:=vO (bO (x:=x) λs e=>h2 s (by simp[ho,Op.operands,e])) hnew;have ha:a.eval ad=.pointer (some ⟨n,off,none⟩):=by
     have:=bO (σ:=σ) (I:=I) (w:=w) (tm:=tm) (a:=a) (x:=ad) λs e=>h2 s (by simp[ho,Op.operands,e]);rw[hx]at this;generalize a.eval ad=y at this;cases this with
     |ptr h=>rw[g1]at h;cases h;rfl
    have hone:∀y∈(a.eval x).cells.toList,y.oneCell'=true:=by
     intro y hy;obtain⟨i,hi⟩:=List.mem_iff_getElem?.1 hy;have hi':(a.eval x).cells[i]? =some y:=by simpa using hi
     have hlt:=(e7.1 hi').1;have hcn:new[i]? =some new[i]:=bL (by omega);exact zO (v2 i _ y hcn hi') (cS.1 c3 _ (mD _))
    have hrun:=H8 (w:=w) hT (n:=n) (off:=off) (v:=a.eval x) (arr:=arr) (by omega) g2 (by omega) hone;refine⟨w.setRow n (lay arr.toList off (a.eval x).cells.toList).toArray,σ,I,?_,?_⟩
    ·simp[execOp,ho,Instr.storeAt,Instr.sureAddr,ha,hrun]
    ·have hnI:¬I n:=by
      obtain⟨y,hy,_,hyn⟩:=h3.aS b _ (aG.eZ hb (.inr (by simp[wrote])));rw[g1]at hy;cases hy;exact(hyn n rfl).2
     refine cB.write (b:=b) (k':=.cells (lay cs off new) T') h1 h3 (aG.eZ hb (.inr (by simp[wrote]))) g1 rfl (λj hj=>uA w n j _ hj) (by simp) rfl rfl ⟨rfl,aY _⟩ ?_ qL;refine .cells (setRow_heap w n arr _ T' _ g2) ?_ ?_
     ·simp only[vU];rw[w6 _ _ _ (by simp;omega),w6 _ _ _ (by omega)];simpa using g3
     ·intro i c y k1 k2;rw[yI,w7 _ _ _ _ (by simp;omega)]at k2;rw[w7 _ _ _ _ (by omega)]at k1;have mono:∀{c y},RV σ I w c y->RV σ I (w.setRow n (lay arr.toList off (a.eval x).cells.toList).toArray) c y:=
       λh=>h.mono (λj hj=>uA w n j _ (λe=>hnI (e▸hj))) (λ_ h=>h) (λ_ _ h=>h)
      have e1:(a.eval x).cells.toList.length=new.length:=by simp;omega
      rw[e1]at k2;split at k1
      ·rename_i hin;rw[bA hin]at k2;exact mono (v2 (i-off) c y k1 (by simpa using k2))
      ·rename_i hin;rw[aR hin]at k2;exact mono (g4 i c y k1 (by simpa using k2))
   ·cases he
  ·cases he
 ·rename_i b z i off hx;split at he
  ·rename_i z' es T' new hb hnew;split at he
   ·rename_i el hel;split at he
    ·rename_i hc;obtain⟨rfl,c1,c2,c3⟩:=hc;cases he;refine aO.skip λa w σ I h1 h2 h3 _=>?_;obtain⟨y,hy,hrb,hyn⟩:=h3.aS b _ (aG.eZ hb (.inr (by simp[wrote])));obtain⟨cl,hcl,hds⟩:=Option.bind_eq_some_iff.1 hnew;obtain⟨v1,v2⟩:=vO (bO (x:=x) λs e=>h2 s (by simp[ho,Op.operands,e])) hcl;have hcl':=mZ hds;subst hcl';have hav:=bO (σ:=σ) (I:=I) (w:=w) (tm:=tm) (a:=a) (x:=ad) λs e=>h2 s (by simp[ho,Op.operands,e]);rw[hx]at hav
     obtain⟨n,cap,arr,ha,rfl,g1,g2,g3,g4,g5,g6⟩:∃n cap arr,a.eval ad=.pointer (some ⟨n,i*z+off,none⟩)/\y=.slice (some ⟨n,0,none⟩) es.length cap/\w.heap[n]? =some (.cells arr T' (0,0))/\cap*z<=arr.size/\es.length<=cap/\cap<=maxLen/\(∀e∈es,e.length=z)/\
       (∀(i:Nat) e (j:Nat) c,es[i]? =some e->e[j]? =some c->∃x,arr[i*z+j]? =some x/\RD I w c x/\x.oneCell'=true):=by
      generalize a.eval ad=u at hav;cases hav with
      |dM h=>
       rw[hy]at h;cases h;cases hrb with
       |emp _=>simp at hel
       |grow g1 g2 g3 g4 g5 g6=>exact⟨_,_,_,rfl,rfl,g1,g2,g3,g4,g5,g6⟩
     have hone:∀y∈(a.eval x).cells.toList,y.oneCell'=true:=by
      intro y hy;obtain⟨i,hi⟩:=List.mem_iff_getElem?.1 hy;have hi':(a.eval x).cells[i]? =some y:=by simpa using hi
      have hlt:=(e7.1 hi').1;have hcn:(new.map AV.d)[i]? =some (new.map AV.d)[i]:=bL (by omega);exact zO (v2 i _ y hcn hi') (cS.1 c3 _ (mD _))
     have hil:i<es.length:=(cJ.1 hel).1;have hlen:el.length=z:=g5 el (gI hel);have v1':(a.eval x).cells.size=new.length:=by simpa using v1
     have hbnd:(i+1)*z<=cap*z:=mC z (by omega);rw[fU,nO]at hbnd;have hrun:=H8 (w:=w) hT (n:=n) (off:=i*z+off) (v:=a.eval x) (arr:=arr) (by omega) g1 (by omega) hone;refine⟨w.setRow n (lay arr.toList (i*z+off) (a.eval x).cells.toList).toArray,σ,I,?_,?_⟩
     ·simp[execOp,ho,Instr.storeAt,Instr.sureAddr,ha,hrun]
     ·have hbn:AI.hb (Value.slice (some ⟨n,0,none⟩) es.length cap)=some n:=mR (by omega);have hnI:¬I n:=(hyn n hbn).2;refine cB.write (b:=b) (k':=.grow z (es.set i (lay el off new)) T') h1 h3 (aG.eZ hb (.inr (by simp[wrote]))) hy hbn (λj hj=>uA w n j _ hj) (by simp) rfl rfl ⟨rfl,aY _⟩ ?_ qL;have hll:(lay el off new).length=el.length:=w6 _ _ _ c2;have:=RB.grow (σ:=σ) (I:=I) (w:=w.setRow n (lay arr.toList (i*z+off) (a.eval x).cells.toList).toArray) (sz:=z) (es:=es.set i (lay el off new)) (T:=T') (n:=n) (cap:=cap)
       (setRow_heap w n arr _ T' _ g1) ?_ (by simpa using g3) g4 ?_ ?_
      ·simpa using this
      ·simp only[vU];rw[w6 _ _ _ (by simp;omega)];simpa using g2
      ·intro e he;rcases List.mem_or_eq_of_mem_set he with h|h
       ·exact g5 e h
       ·rw[h];omega
      ·intro k e j c k1 k2;have mono:∀{c y},RD I w c y->RD I (w.setRow n (lay arr.toList (i*z+off) (a.eval x).cells.toList).toArray) c y:=
        λh=>h.mono (λj hj=>uA w n j _ (λe=>hnI (e▸hj))) (λ_ h=>h)
       have e1:(a.eval x).cells.toList.length=new.length:=by simp;omega
       rw[yI,w7 _ _ _ _ (by simp;omega),e1];by_cases hik:i=k
       ·subst hik;rw[List.getElem?_set_self hil]at k1;cases k1;rw[w7 _ _ _ _ c2]at k2;by_cases hin:off<=j/\j<off+new.length
        ·rw[bA hin]at k2;rw[bA ⟨by omega,by omega⟩];have hq:(new.map AV.d)[j-off]? =some (.d c):=by simp[k2]
         have hlt:j-off<(a.eval x).cells.size:=by omega
         have hv:=v2 (j-off) _ (a.eval x).cells[j-off] hq (iV hlt);refine⟨(a.eval x).cells[j-off],?_,?_⟩
         ·rw[show i*z+j-(i*z+off)=j-off by omega];simp[hlt]
         ·cases hv with
          |d h=>exact⟨mono h,hone _ (by simp)⟩
        ·rw[aR hin]at k2;rw[aR (by omega)];obtain⟨q,hq,hq',ho⟩:=g6 i el j c hel k2;exact⟨q,by simpa using hq,mono hq',ho⟩
       ·rw[List.getElem?_set_ne hik]at k1;obtain⟨q,hq,hq',ho'⟩:=g6 k e j c k1 k2;have hjl:j<z:=by
         have:=(cJ.1 k2).1;rw[g5 e (gI k1)]at this;exact this
        refine⟨q,?_,mono hq',ho'⟩;rw[aR]
        ·simpa using hq
        ·rintro⟨q1,q2⟩;rcases pC k i with hlt|hge
         ·have:(k+1)*z<=i*z:=mC z hlt;rw[fU,nO]at this;omega
         ·have:(i+1)*z<=k*z:=mC z (by omega);rw[fU,nO]at this;omega
    ·cases he
   ·cases he
  ·cases he
 ·cases he
def o8 :CK->Value->Value->Option Bool
 |.int,.int k a,.int k' b=>if k=k' then some (decide (a=b))else none
 |.bool,.bool a,.bool b=>some (decide (a=b))
 |.str,.string a,.string b=>some (decide (a=b))
 |_,_,_=>none
def fY :List CK->List Value->List Value->Option Bool
 |[],[],[]=>some true
 |k::ks,x::xs,y::ys=>match o8 k x y,fY ks xs ys with
  |some p,some q=>some (p&&q)
  |_,_=>none
 |_,_,_=>none
theorem vF :∀{ks:List CK} {xs ys:List Value} {r:Bool},fY ks xs ys=some r->xs.length=ks.length/\ys.length=ks.length
 |[],[],[],_,_=>⟨rfl,rfl⟩
 |k::ks,x::xs,y::ys,r,h=>by
  unfold fY at h;split at h
  ·rename_i p q h1 h2;have:=vF h2;simp[this.1,this.2]
  ·cases h
 |[],[],_::_,_,h=>by simp[fY]at h
 |[],_::_,_,_,h=>by simp[fY]at h
 |_::_,[],_,_,h=>by simp[fY]at h
 |_::_,_::_,[],_,h=>by simp[fY]at h
theorem FN {k:CK}{xs ys:List Value}{r:Bool}(h:fY [k] xs ys=some r):∃x y,xs=[x]/\ys=[y]/\o8 k x y=some r:=by
 have hl:=vF h
 match xs,ys,hl,h with
 |[x],[y],_,h=>
  refine⟨x,y,rfl,rfl,?_⟩;simp only[fY]at h;cases hc:o8 k x y with
  |none=>simp[hc]at h
  |some p=>simp[hc]at h;rw[h]
theorem NF {k1 k2:List CK}{xs ys:List Value}{r:Bool}(h:fY (k1++k2) xs ys=some r):
  ∃p q,fY k1 (xs.take k1.length) (ys.take k1.length)=some p/\fY k2 (xs.drop k1.length) (ys.drop k1.length)=some q/\r=(p&&q):=by
 induction k1 generalizing xs ys r with
 |nil=>exact⟨true,r,rfl,by simpa using h,by simp⟩
 |cons k k1 ih=>
  cases xs with
  |nil=>simp[fY]at h
  |cons x xs=>
   cases ys with
   |nil=>simp[fY]at h
   |cons y ys=>
    simp only[yK,fY]at h;split at h
    ·rename_i p q h1 h2;cases h;obtain⟨p',q',e1,e2,rfl⟩:=ih h2;exact⟨p&&p',q',by simp[fY,h1,e1],by simpa using e2,by simp[Bool.and_assoc]⟩
    ·cases h
theorem BX (a b:ByteArray):(a.toList==b.toList)=decide (a=b):=by
 rw[<-beq_toListBytes];by_cases h:a=b
 ·subst h;have:(a==a)=true:=by
   obtain⟨x⟩:=a;show(x==x)=true;simp
  simp[this]
 ·have:(a==b)=false:=by
   rw[Bool.eq_false_iff];intro hc;apply h;obtain⟨x⟩:=a;obtain⟨y⟩:=b;have:(x==y)=true:=hc;rw[beq_iff_eq]at this;rw[this]
  simp[this,h]
theorem HA {P:Program}{t:TypeId}{i:TypeInfo}(h:P.info? t=some i):bS P t=i.size:=by simp[bS,h]
theorem info_of_underlying {P:Program}{t:TypeId}{d:TypeDesc}(h:P.underlying t=some d):∃i,P.info? t=some i:=by
 unfold Program.underlying at h;cases hi:P.info? t with
 |some i=>exact⟨i,rfl⟩
 |none=>simp[hi]at h
def eV :TypeDesc->Bool
 |.struct _|.array _ _=>true
 |_=>false
theorem sZ {P:Program}{w:World}{t:TypeId}{d:TypeDesc}(h:P.underlying t=some d):(isAgg t).run P w=.ok (eV d) w:=by
 cases d<;>simp[isAgg,underlying,h,eV]
theorem y9 {P:Program}{w:World}{t:TypeId}{d:TypeDesc}(h:P.underlying t=some d):(sizeOf t).run P w=.ok (bS P t) w:=by
 obtain⟨i,hi⟩:=info_of_underlying h;simp[sizeOf,typeInfo,hi,bS]
theorem uW {P:Program}{w:World}{t:TypeId}{d:TypeDesc}(h:P.underlying t=some d){xs:List Value}{off:Nat}(hs:off+bS P t<=xs.length)(h1:eV d=false->bS P t=1):
  (part t xs.toArray off).run P w=.ok (mk (eV d) ((xs.drop off).take (bS P t))) w:=by
 cases hg:eV d with
 |true=>
  have:xs.toArray.extract off (off+bS P t)=((xs.drop off).take (bS P t)).toArray:=by
   simp
  simp only[part,bV,sZ h,hg,cC,dY,y9 h,this];rfl
 |false=>
  have h1:=h1 hg;have hlt:off<xs.length:=by omega
  have e1:(xs.drop off).take 1=[xs[off]]:=by
   rw[List.take_one];simp
  simp[part,sZ h,hg,mk,h1,hlt,e1]
theorem MW {P:Program}{d:Nat}{t:TypeId}{ks:List CK}(h:jZ P (d+1) t=some ks):∃u,P.underlying t=some u/\(eV u=false->ks.length=1):=by
 unfold jZ at h;split at h<;>first
  | (rename_i hu;cases h;exact⟨_,hu,λ_=>rfl⟩)
  | (rename_i hu;exact⟨_,hu,λh=>by cases h⟩)
  |cases h
theorem IB {P:Program}:∀(d d':Nat) (t:TypeId) (ks:List CK) (u:TypeDesc),jZ P d t=some ks->d<=d'->P.underlying t=some u->∀(xs ys:List Value) (r:Bool),fY ks xs ys=some r->
  ∀w,(Op.equalIn d' t (mk (eV u) xs) (mk (eV u) ys)).run P w=.ok r w:=by
 intro d;induction d with
 |zero=>intro d' t ks u h;cases h
 |succ d ih=>
  intro d' t ks u h hd hu xs ys r hr w;obtain⟨d'',rfl⟩:∃k,d'=k+1:=⟨d'-1,by omega⟩;have hd'':d<=d'':=by omega
  unfold jZ at h;rw[hu]at h;split at h
  ·
   rename_i k e;cases e;cases h;obtain⟨x,y,rfl,rfl,hc⟩:=FN hr;cases x<;>first| (cases hc;done)|skip
   cases y<;>first| (cases hc;done)|skip
   simp only[o8]at hc;split at hc
   ·rename_i hk;cases hc;subst hk;simp[mk,eV,Op.equalIn,underlying,hu];rfl
   ·cases hc
  ·rename_i e;cases e;cases h;obtain⟨x,y,rfl,rfl,hc⟩:=FN hr;cases x<;>first| (cases hc;done)|skip
   cases y<;>first| (cases hc;done)|skip
   simp only[o8]at hc;cases hc;simp[mk,eV,Op.equalIn,underlying,hu];rfl
  ·rename_i e;cases e;cases h;obtain⟨x,y,rfl,rfl,hc⟩:=FN hr;cases x<;>first| (cases hc;done)|skip
   cases y<;>first| (cases hc;done)|skip
   simp only[o8]at hc;cases hc;have:=λ(a b:ByteArray)=>(beq_toListBytes a b).trans (BX a b)
   simp[mk,eV,Op.equalIn,underlying,hu,this]
  ·
   rename_i fs e;cases e;split at h
   ·cases h
   rename_i hst;have hF:P.fieldsOf t=fs:=by simp[Program.fieldsOf,hu]
   simp only[mk,eV,dY];rw[run_equalIn_struct w d'' t _ _ (by rw[hF];exact hu) (by simpa using hst),hF]
   have go:∀(l:List Field) (off:Nat) (ks:List CK) (r:Bool),A8 P (jZ P d) off l=some ks->off<=xs.length->off<=ys.length->fY ks (xs.drop off) (ys.drop off)=some r->
     (Op.eqFields d'' xs.toArray ys.toArray l).run P w=.ok r w:=by
    intro l;induction l with
    |nil=>
     intro off ks r h1 _ _ h2;cases h1;have hl:=vF h2;have e1:xs.drop off=[]:=CE.1 hl.1;have e2:ys.drop off=[]:=CE.1 hl.2;rw[e1,e2]at h2;cases h2;simp[Op.eqFields]
    |cons f l ihl=>
     intro off ks r h1 hx hy h2;unfold A8 at h1;split at h1
     ·rename_i lf hlf;split at h1
      ·rename_i hc;obtain⟨c1,c2,c3⟩:=hc;split at h1
       ·rename_i rr hrr;cases h1;obtain⟨p,q,e1,e2,rfl⟩:=NF h2;cases hd0:d with
        |zero=>subst hd0;simp[jZ]at hlf
        |succ d0=>
         obtain⟨uf,huf,h1c⟩:=MW (hd0▸hlf);have l1:=vF e1;simp at l1;have hxs:off+bS P f.type<=xs.length:=by omega
         have hys:off+bS P f.type<=ys.length:=by omega
         have hx1:=uW (P:=P) (w:=w) huf (xs:=xs) (off:=off) hxs (λhg=>by rw[c3];exact h1c hg);have hy1:=uW (P:=P) (w:=w) huf (xs:=ys) (off:=off) hys (λhg=>by rw[c3];exact h1c hg);have hq:=ih d'' f.type lf uf hlf hd'' huf _ _ p e1 w;rw[c3]at hx1 hy1;simp only[Op.eqFields,c1,ne_eq,not_false_eq_true,dY,bV,c2,hx1,hy1,cC,hq];cases p
         ·simp
         ·simp only[Bool.not_true,CL,j5,pF];refine ihl (off+lf.length) rr q hrr (by omega) (by omega) ?_;simpa[qG]using e2
       ·cases h1
      ·cases h1
     ·cases h1
   exact go fs.toList 0 ks r h (by omega) (by omega) (by simpa using hr)
  ·
   rename_i n e he;cases he;split at h
   ·rename_i l hl;split at h
    ·rename_i hsz;cases h;cases hd0:d with
     |zero=>subst hd0;simp[jZ]at hl
     |succ d0=>
      obtain⟨ue,hue,h1c⟩:=MW (hd0▸hl);simp only[mk,eV,dY];simp only[Op.equalIn,bV,bQ hu,cC,y9 hue];rw[Std.Legacy.Range.forIn_eq_forIn_range'];simp only[Std.Legacy.Range.size,yF,Nat.add_sub_cancel,Nat.div_one];have hr':fY (List.replicate n l).flatten (xs.drop (0*l.length)) (ys.drop (0*l.length))=some r:=by simpa using hr
      clear hr;clear hu;revert hr';generalize(0:Nat)=i;induction n generalizing i r with
       |zero=>
        intro h2;have hl:=vF h2;simp at hl;have e1:xs.drop (i*l.length)=[]:=List.drop_eq_nil_iff.2 (by omega);have e2:ys.drop (i*l.length)=[]:=List.drop_eq_nil_iff.2 (by omega);rw[e1,e2]at h2;cases h2;simp
       |succ m ihm=>
        intro h2;rw[List.replicate_succ,List.flatten_cons]at h2;obtain⟨p,q,e1,e2,rfl⟩:=NF h2;have l1:=vF e1;simp at l1;rcases mX l.length with hz|hz
        ·
         have hag:eV ue=true:=by
          cases hg:eV ue with
          |true=>rfl
          |false=>have:=h1c hg;omega
         have hx1:(part e xs.toArray (i*bS P e)).run P w=.ok (mk (eV ue) []) w:=by
          simp[part,sZ hue,hag,y9 hue,mk,hsz,hz]
         have hy1:(part e ys.toArray (i*bS P e)).run P w=.ok (mk (eV ue) []) w:=by
          simp[part,sZ hue,hag,y9 hue,mk,hsz,hz]
         have e1':fY l [] []=some p:=by simpa[hz]using e1
         have hq:=ih d'' e l ue hl hd'' hue _ _ p e1' w;simp only[List.range'_succ,List.forIn_cons,bV,hx1,hy1,cC,hq];have e2':fY (List.replicate m l).flatten (xs.drop ((i+1)*l.length)) (ys.drop ((i+1)*l.length))=some q:=by simpa[hz]using e2
         have:=ihm q (i+1) e2';cases p
         ·simp
         ·simpa using this
        ·have hxs:i*bS P e+bS P e<=xs.length:=by rw[hsz];omega
         have hys:i*bS P e+bS P e<=ys.length:=by rw[hsz];omega
         have hx1:=uW (P:=P) (w:=w) hue (xs:=xs) (off:=i*bS P e) hxs (λhg=>by rw[hsz];exact h1c hg);have hy1:=uW (P:=P) (w:=w) hue (xs:=ys) (off:=i*bS P e) hys (λhg=>by rw[hsz];exact h1c hg);have e1':fY l (List.take (bS P e) (List.drop (i*bS P e) xs)) (List.take (bS P e) (List.drop (i*bS P e) ys))=some p:=by rw[hsz];exact e1
         have hq:=ih d'' e l ue hl hd'' hue _ _ p e1' w;simp only[List.range'_succ,List.forIn_cons,bV,hx1,hy1,cC,hq];have e2':fY (List.replicate m l).flatten (xs.drop ((i+1)*l.length)) (ys.drop ((i+1)*l.length))=some q:=by
          rw[fU,nO];simpa[qG]using e2
         have:=ihm q (i+1) e2';cases p
         ·simp
         ·simpa using this
    ·cases h
   ·cases h
  ·cases h
def BR :CK->AV->AV->Option Bool
 |.int,.d (.v (.int k a)),.d (.v (.int k' b))=>if k=k' then some (decide (a=b))else none
 |.bool,.d (.v (.bool a)),.d (.v (.bool b))=>some (decide (a=b))
 |.str,.d (.v (.string a)),.d (.v (.string b))=>some (decide (a=b))
 |_,_,_=>none
def rC :List CK->List AV->List AV->Option Bool
 |[],[],[]=>some true
 |k::ks,x::xs,y::ys=>match BR k x y,rC ks xs ys with
  |some p,some q=>some (p&&q)
  |_,_=>none
 |_,_,_=>none
theorem Di {σ:Names}{I:Nat->Prop}{w:World}{k:CK}{x y:AV}{u v:Value}{r:Bool}(h:BR k x y=some r)(hx:RV σ I w x u)(hy:RV σ I w y v):o8 k u v=some r:=by
 unfold BR at h;split at h<;>first
  | (rw[cH hx,cH hy];exact h)
  |cases h
theorem NG {σ:Names}{I:Nat->Prop}{w:World}:∀{ks:List CK} {xs ys:List AV} {r:Bool},rC ks xs ys=some r->∀{us vs:List Value},us.length=xs.length->vs.length=ys.length->
  (∀(i:Nat) c x,xs[i]? =some c->us[i]? =some x->RV σ I w c x)->(∀(i:Nat) c x,ys[i]? =some c->vs[i]? =some x->RV σ I w c x)->fY ks us vs=some r
 |[],[],[],r,h,us,vs,h1,h2,_,_=>by
  have e1:us=[]:=CE.1 (by simpa using h1);have e2:vs=[]:=CE.1 (by simpa using h2);subst e1;subst e2;exact h
 |k::ks,x::xs,y::ys,r,h,us,vs,h1,h2,h3,h4=>by
  match us,vs,h1,h2,h3,h4 with
  |u::us,v::vs,h1,h2,h3,h4=>
   simp only[rC]at h;split at h
   ·rename_i p q hp hq;have a1:=Di hp (h3 0 x u rfl rfl) (h4 0 y v rfl rfl);have a2:=NG hq (us:=us) (vs:=vs) (by simpa using h1) (by simpa using h2) (λi c z e1 e2=>h3 (i+1) c z (by simpa using e1) (by simpa using e2)) (λi c z e1 e2=>h4 (i+1) c z (by simpa using e1) (by simpa using e2));simp[fY,a1,a2,<-h]
   ·cases h
 |[],[],_::_,_,h,_,_,_,_,_,_=>by simp[rC]at h
 |[],_::_,_,_,h,_,_,_,_,_,_=>by simp[rC]at h
 |_::_,[],_,_,h,_,_,_,_,_,_=>by simp[rC]at h
 |_::_,_::_,[],_,h,_,_,_,_,_,_=>by simp[rC]at h
def OQ (k:IntKind)(a b:Int):Int:=k.wrap (BitVec.ofInt k.bits a&&&BitVec.ofInt k.bits b).toNat
def JU (k:IntKind)(a b:Int):Int:=k.wrap (BitVec.ofInt k.bits a|||BitVec.ofInt k.bits b).toNat
def GL (k:IntKind)(a b:Int):Int:=k.wrap (BitVec.ofInt k.bits a^^^BitVec.ofInt k.bits b).toNat
def OP (k:IntKind)(a b:Int):Int:=k.wrap (BitVec.ofInt k.bits a&&& ~~~BitVec.ofInt k.bits b).toNat
def AW (op:BinOp)(k:IntKind)(a b:Int):Option Value:=
 match op with
 |.and=>some (.int k (OQ k a b))
 |.or=>some (.int k (JU k a b))
 |.xor=>some (.int k (GL k a b))
 |.andNot=>some (.int k (OP k a b))
 |.add=>some (.int k (k.wrap (a+b)))
 |.sub=>some (.int k (k.wrap (a-b)))
 |.mul=>some (.int k (k.wrap (a*b)))
 |.eql=>some (.bool (decide (a=b)))
 |.neq=>some (.bool (!decide (a=b)))
 |.lss=>some (.bool (decide (a<b)))
 |.leq=>some (.bool (decide (a<=b)))
 |.gtr=>some (.bool (decide (b<a)))
 |.geq=>some (.bool (decide (b<=a)))
 |.rem=>if b=0 then none else some (.int k (a.tmod b))
 |.quo=>if b=0 then none else some (.int k (k.wrap (a.tdiv b)))
 |_=>none
def yX (op:BinOp)(a b:ByteArray):Option Value:=
 match op with
 |.eql=>some (.bool (decide (a=b)))
 |.neq=>some (.bool (!decide (a=b)))
 |.lss=>some (.bool (Op.bytesLess a.toList b.toList))
 |.leq=>some (.bool (Op.bytesLess a.toList b.toList||decide (a=b)))
 |.gtr=>some (.bool (!(Op.bytesLess a.toList b.toList||decide (a=b))))
 |.geq=>some (.bool (!Op.bytesLess a.toList b.toList))
 |_=>none
def sH :AV->Option (List AV)
 |.agg cs=>some cs
 |.d (.agg cs)=>some (cs.map .d)
 |_=>none
def BW (op:BinOp)(ti:TI):AV->AV->Option AV
 |.d (.v (.int k a)),.d (.v (.int k' b))=>if k=k' then(AW op k a b).map λv=>.d (.v v)else none
 |.d (.v (.string a)),.d (.v (.string b))=>(yX op a b).map λv=>.d (.v v)
 |.d (.v (.bool a)),.d (.v (.bool b))=>if ti.k=.bool then match op with
   |.eql=>some (.d (.v (.bool (decide (a=b)))))
   |.neq=>some (.d (.v (.bool (!decide (a=b)))))
   |_=>none
  else none
 |x,y=>match sH x,sH y with
  |some cs,some ds=>match ti.fl with
   |some ks=>if ti.agg=true/\ti.eg=false then match rC ks cs ds with
     |some r=>match op with
      |.eql=>some (.d (.v (.bool r)))
      |.neq=>some (.d (.v (.bool (!r))))
      |_=>none
     |none=>none
    else none
   |none=>none
  |_,_=>none
theorem B6 {σ:Names}{I:Nat->Prop}{w:World}{x:AV}{v:Value}{cs:List AV}(h:RV σ I w x v)(hc:sH x=some cs):
  ∃xs:List Value,v=.agg xs.toArray/\xs.length=cs.length/\∀(i:Nat) c y,cs[i]? =some c->xs[i]? =some y->RV σ I w c y:=by
 unfold sH at hc;split at hc
 ·cases hc;cases h with
  |agg hl hr=>exact⟨_,rfl,hl,hr⟩
 ·cases hc;cases h with
  |d h=>
   cases h with
   |agg hl hr=>
    refine⟨_,rfl,by simpa using hl,λi c y h1 h2=>?_⟩;simp at h1;obtain⟨z,hz,rfl⟩:=h1;exact .d (hr i z y hz h2)
 ·cases hc
theorem WJ {P:Program}{o:Oper}{op:BinOp}{T T':TypeId}{x y:Operand}(ho:o.op=.binOp op T x y T')(tm:Nat->AV)(m:Mem)(nm:Nat){ti:TI}(hT:aH P T=some ti){r:AV}
  (hr:BW op ti (ev tm x) (ev tm y)=some r):aO P o tm m nm r m:=by
 refine aO.pure λa w σ I h _=>?_;have hx:=bO (σ:=σ) (I:=I) (w:=w) (tm:=tm) (a:=a) (x:=x) λs e=>h s (by simp[ho,Op.operands,e]);have hy:=bO (σ:=σ) (I:=I) (w:=w) (tm:=tm) (a:=a) (x:=y) λs e=>h s (by simp[ho,Op.operands,e])
 have fin:∀v,(do eqGuard op T x y (a.eval x) (a.eval y);binOp op T (a.eval x) (a.eval y):Sem Value).run P w=.ok v w->RV σ I w r v->
   ∃v,(execOp a.eval o).run P w=.ok (.value v) w/\RV σ I w r v:=by
  intro v h1 h2;refine⟨v,?_,h2⟩;simp only[execOp,ho,bV,h1];rfl
 revert hr hx hy fin;generalize ev tm x=A;generalize ev tm y=B;intro hr hx hy fin;unfold BW at hr;split at hr
 ·rename_i k p k' q;have e1:=cH hx;have e2:=cH hy;split at hr
  ·rename_i hk;subst hk;rw[e1,e2]at fin;cases hv:AW op k p q with
   |none=>simp[hv]at hr
   |some v=>
    simp[hv]at hr;subst hr;refine fin v ?_ (.d (.v _));cases op<;>simp only[AW]at hv<;>first
     | (cases hv;done)
     | (cases hv;simp[eqGuard,binOp,Op.intArith,Op.intCmp];done)
     | (cases hv;simp[eqGuard,binOp,Op.intBits,OQ,JU,GL,OP];done)
     | (split at hv<;>first| (cases hv;done)| (rename_i h0;cases hv;simp[eqGuard,binOp,Op.intDiv,h0];done))
     | (cases hv;simp[eqGuard,binOp,Op.intCmp];rfl)
  ·cases hr
 ·rename_i p q;have e1:=cH hx;have e2:=cH hy;rw[e1,e2]at fin;cases hv:yX op p q with
  |none=>simp[hv]at hr
  |some v=>
   simp[hv]at hr;subst hr;refine fin v ?_ (.d (.v _));cases op<;>simp[yX]at hv<;>(subst hv;simp[eqGuard,binOp,Op.stringOp,BX];done)
 ·rename_i p q;have e1:=cH hx;have e2:=cH hy;rw[e1,e2]at fin;split at hr
  ·rename_i hk;obtain⟨d,_,hd,hkd⟩:=DF (w:=w) hT;have hd':d=.bool:=by
    rw[hk]at hkd;cases d<;>simp[eC]at hkd<;>rfl
   subst hd';split at hr
   ·cases hr;refine fin (.bool (decide (p=q))) ?_ (.d (.v _));simp[eqGuard,binOp,Op.equal,Op.maxDepth,run_equalIn_bool w 9999 T p q hd];rfl
   ·cases hr;refine fin (.bool (!decide (p=q))) ?_ (.d (.v _));simp[eqGuard,binOp,Op.equal,Op.maxDepth,run_equalIn_bool w 9999 T p q hd];rfl
   ·cases hr
  ·cases hr
 ·split at hr
  ·rename_i cs ds hcs hds;obtain⟨xs,ex,lx,rx⟩:=B6 hx hcs;obtain⟨ys,ey,ly,ry⟩:=B6 hy hds;rw[ex,ey]at fin;split at hr
   ·rename_i ks hks;split at hr
    ·rename_i hg;obtain⟨hg1,hg2⟩:=hg;split at hr
     ·rename_i p hp;have hv:=NG hp lx ly rx ry;obtain⟨i,d,z,hi,hd,hz,hti⟩:=fG hT;have hfl:jZ P 8 T=some ks:=by rw[hti]at hks;exact hks
      have hag:eV d=true:=by
       rw[hti]at hg1;cases d<;>simp[TI.agg,eC]at hg1<;>rfl
      have heq:=IB 8 10000 T ks d hfl (by omega) hd xs ys p hv w;simp only[hag,mk,dY]at heq;have hguard:∀op,(eqGuard op T x y (.agg xs.toArray) (.agg ys.toArray)).run P w=.ok () w:=λop=>
       run_eqGuard_agg w op T x y _ _ (by rw[hti]at hg2;exact hg2)
      split at hr
      ·cases hr;refine fin (.bool p) ?_ (.d (.v _));simp only[bV,hguard,cC,run_eql_struct,heq]
      ·cases hr;refine fin (.bool (!p)) ?_ (.d (.v _));simp only[bV,hguard,cC,run_neq_struct,heq]
      ·cases hr
     ·cases hr
    ·cases hr
   ·cases hr
  ·cases hr
def yT (op:UnOp):AV->Option AV
 |.d (.v (.bool b))=>match op with
  |.not=>some (.d (.v (.bool (!b))))
  |_=>none
 |.d (.v (.int k n))=>match op with
  |.neg=>some (.d (.v (.int k (k.wrap (0-n)))))
  |_=>none
 |_=>none
theorem VI {P:Program}{o:Oper}{op:UnOp}{T:TypeId}{x:Operand}(ho:o.op=.unOp op T x)(tm:Nat->AV)(m:Mem)(nm:Nat){r:AV}
  (hr:yT op (ev tm x)=some r):aO P o tm m nm r m:=by
 refine aO.pure λa w σ I h _=>?_;have hx:=bO (σ:=σ) (I:=I) (w:=w) (tm:=tm) (a:=a) (x:=x) λs e=>h s (by simp[ho,Op.operands,e]);have fin:∀v,(Op.unary op (a.eval x)).run P w=.ok v w->RV σ I w r v->∃v,(execOp a.eval o).run P w=.ok (.value v) w/\RV σ I w r v:=
  λv h1 h2=>⟨v,by simp[execOp,ho,h1],h2⟩
 revert hr hx fin;generalize ev tm x=A;intro hr hx fin;unfold yT at hr;split at hr
 ·rw[cH hx]at fin;split at hr
  ·cases hr;refine fin _ ?_ (.d (.v _));simp[Op.unary]
  ·cases hr
 ·rw[cH hx]at fin;split at hr
  ·cases hr;refine fin _ ?_ (.d (.v _));simp[Op.unary,Op.intArith]
  ·cases hr
 ·cases hr
def tM (off:Nat):AV->Option AV
 |.ptr b o=>some (.ptr b (o+off))
 |.dM b sz i o=>some (.dM b sz i (o+off))
 |.d (.aT cs)=>some (.d (.aT (cs.drop off)))
 |_=>none
theorem M8 {σ:Names}{I:Nat->Prop}{w:World}{off:Nat}{x r:AV}{v:Value}(hr:tM off x=some r)(h:RV σ I w x v):
  ∃ad,v=.pointer (some ad)/\RV σ I w r (.pointer (some (ad.add off))):=by
 unfold tM at hr;split at hr
 ·cases hr;cases h with
  |ptr h=>exact⟨_,rfl,by rw[add_plain];exact .ptr h⟩
 ·cases hr;cases h with
  |dM h=>exact⟨_,rfl,by rw[add_plain,Nat.add_assoc];exact .dM h⟩
 ·cases hr;cases h with
  |d h=>
   cases h with
   |aT val hI hc hrr hone=>
    refine⟨_,rfl,?_⟩;rw[add_plain];refine .d (.aT (λj=>val (off+j)) hI (λj c hj=>?_) (λj c hj=>?_) (λj c hj=>by rw[sP]at hj;exact hone _ c hj));all_goals grind
 ·cases hr
def BD (P:Program)(ti:TI)(f:Nat):Option Nat:=
 match ti.k with
 |.dD fs=>match fs[f]? with
  |some (off,t,_)=>if bS P t=0 then none else some off
  |none=>none
 |_=>none
theorem V5 {P:Program}{o:Oper}{T:TypeId}{x:Operand}{f:Nat}(ho:o.op=.fieldAddr T x f)(tm:Nat->AV)(m:Mem)(nm:Nat){ti:TI}(hT:aH P T=some ti){off:Nat}(hf:BD P ti f=some off){r:AV}
  (hr:tM off (ev tm x)=some r):aO P o tm m nm r m:=by
 refine aO.pure λa w σ I h _=>?_;obtain⟨ad,hv,hres⟩:=M8 hr (bO (σ:=σ) (I:=I) (w:=w) (tm:=tm) (a:=a) (x:=x) λs e=>h s (by simp[ho,Op.operands,e]));refine⟨_,?_,hres⟩;obtain⟨i,d,z,hi,hd,hz,rfl⟩:=fG hT;unfold BD at hf;split at hf
 ·rename_i fs hk;cases d<;>simp[eC]at hk;rename_i fields;subst hk;split at hf
  ·rename_i off' t bl hq;split at hf
   ·cases hf
   ·rename_i hsz;cases hf;simp at hq;obtain⟨fd,hfd,e1,e2,_⟩:=hq;have hfd':fields[f]? =some fd:=by omega
    subst e1;subst e2;have hsize:(sizeOf fd.type).run P w=.ok (bS P fd.type) w:=by
     unfold bS at hsz⊢;cases hq:P.info? fd.type with
     |none=>simp[hq]at hsz
     |some i=>simp[sizeOf,typeInfo,hq]
    simp[execOp,ho,Instr.fieldAt,bQ hd,hfd',Instr.sureAddr,hv,fieldPlace,hsize,hsz]
  ·cases hf
 ·cases hf
theorem V6 {P:Program}{o:Oper}{T:TypeId}{x:Operand}{f:Nat}(ho:o.op=.field T x f)(tm:Nat->AV)(m:Mem)(nm:Nat){ti:TI}(hT:aH P T=some ti){fs:List (Nat×Nat×Bool)}(hk:ti.k=.dD fs)
  {off t:Nat} {bl:Bool} (hf:fs[f]? =some (off,t,bl)) {tf:TI} (htf:aH P t=some tf) {cs:List AV} (hx:sH (ev tm x)=some cs) {r:AV} (hr:lM tf.agg tf.sz off cs=some r):aO P o tm m nm r m:=by
 refine aO.pure λa w σ I h _=>?_;obtain⟨xs,ex,lx,rx⟩:=B6 (bO (σ:=σ) (I:=I) (w:=w) (tm:=tm) (a:=a) (x:=x) λs e=>h s (by simp[ho,Op.operands,e])) hx;obtain⟨i,d,z,hi,hd,hz,rfl⟩:=fG hT;cases d<;>simp[eC]at hk;rename_i fields;subst hk;simp at hf;obtain⟨fd,hfd,rfl,rfl,_⟩:=hf;have hfd':fields[f]? =some fd:=by omega
 obtain⟨i',d',z',hi',hd',hz',rfl⟩:=fG htf;have hsz:bS P fd.type=i'.size:=HA hi';have key:∃v,(part fd.type xs.toArray fd.offset).run P w=.ok v w/\RV σ I w r v:=by
  unfold lM at hr;cases hg:eV d' with
  |true=>
   have hg':(TI.mk i'.size i'.bytes z'.cells.toList (eC d') (P.eqGuardType P.depth fd.type) (jZ P 8 fd.type) (r7 z')).agg=true:=by
    cases d'<;>simp[eV]at hg<;>rfl
   simp only[hg',dY]at hr;split at hr
   ·rename_i hle;cases hr;refine⟨_,uW hd' (xs:=xs) (off:=fd.offset) (by rw[hsz];omega) (λh=>by rw[hg]at h;cases h),?_⟩;simp only[hg,dY,hsz];refine .agg (by simp;omega) (λj c y h1 h2=>?_);have hj:j<i'.size:=by
     rcases pC j i'.size with h|h
     ·exact h
     ·rw[List.getElem?_take_eq_none h]at h1;cases h1
    simp only[GH hj,sP]at h1 h2;exact rx _ c y h1 h2
   ·cases hr
  |false=>
   have hg':(TI.mk i'.size i'.bytes z'.cells.toList (eC d') (P.eqGuardType P.depth fd.type) (jZ P 8 fd.type) (r7 z')).agg=false:=by
    cases d'<;>simp[eV]at hg<;>rfl
   simp only[hg',j5]at hr;have hlt:fd.offset<xs.length:=by
    have:=(cJ.1 hr).1;omega
   refine⟨xs[fd.offset],?_,rx _ r _ hr (bL hlt)⟩;simp[part,sZ hd',hg,hlt]
 obtain⟨v,h1,h2⟩:=key;exact⟨v,by simp[execOp,ho,Instr.field,bQ hd,hfd',ex,asAgg,h1],h2⟩
def tI (k:K)(sz:Nat)(mem:Mem)(x i:AV):Option aG:=
 match k,i with
 |.arr n _,.d (.v (.int _ j))=>if 0<=j/\j<n then(tM (j.toNat*sz) x).map λr=>⟨r,[],[]⟩else none
 |.dA _,.d (.v (.int _ j))=>match x with
  |.d (.ro _ es)=>match es[j.toNat]? with
   |some e=>if 0<=j/\e.length=sz then some ⟨.d (.aT e),[],[]⟩else none
   |none=>none
  |.own b=>match mem b with
   |some (.grow z es _)=>if 0<=j/\j<es.length/\z=sz then some ⟨.dM b sz j.toNat 0,[b],[]⟩else none
   |_=>none
  |.sl b z i0 len=>if 0<=j/\j<len/\z=sz then some ⟨.dM b sz (i0+j.toNat) 0,[],[]⟩else none
  |_=>none
 |_,_=>none
theorem B8 {σ:Names}{I:Nat->Prop}{w:World}{k:IntKind}{n:Int}{y:Value}(h:RV σ I w (.d (.v (.int k n))) y):y=.int k n:=cH h
theorem DU {P:Program}{o:Oper}{T E:TypeId}{x i:Operand}(ho:o.op=.indexAddr T x i)(tm:Nat->AV)(mem:Mem)(nm:Nat){ti:TI}(hT:aH P T=some ti)(hE:(∃n,ti.k=.arr n E)\/ti.k=.dA E){te:TI}(hTe:aH P E=some te){e:aG}
  (he:tI ti.k te.sz mem (ev tm x) (ev tm i)=some e):aO P o tm (e.mr mem) nm e.res (e.mw mem):=by
 have hwr:e.wr=[]:=by
  unfold tI at he
  repeat' split at he
  all_goals first
   | (cases he;done)
   | (cases he;rfl)
   | (simp at he;obtain⟨_,_,rfl⟩:=he;rfl)
 have hmw:e.mw mem=e.mr mem:=by
  obtain⟨r,rd,wr⟩:=e;simp only at hwr;subst hwr;exact aG.mO _ _ _
 rw[hmw];refine aO.pure λa w σ I h hm=>?_;have hx:=bO (σ:=σ) (I:=I) (w:=w) (tm:=tm) (a:=a) (x:=x) λs e=>h s (by simp[ho,Op.operands,e]);have hi:=bO (σ:=σ) (I:=I) (w:=w) (tm:=tm) (a:=a) (x:=i) λs e=>h s (by simp[ho,Op.operands,e]);obtain⟨inf,d,z,hinf,hd,hz,hti⟩:=fG hT;have fin:∀v,(Instr.indexAt T (a.eval x) (a.eval i)).run P w=.ok v w->RV σ I w e.res v->∃v,(execOp a.eval o).run P w=.ok (.value v) w/\RV σ I w e.res v:=
  λv h1 h2=>⟨v,by simp[execOp,ho,h1],h2⟩
 have hsz:=lV (w:=w) hTe;revert he hx hi fin hm;generalize ev tm x=A;generalize ev tm i=B;intro he hm hx hi fin;unfold tI at he;split at he
 ·rename_i n E' k j hk;rw[B8 hi]at fin;have hEE:E'=E:=by
   rcases hE with⟨n',h⟩|h
   ·rw[hk]at h;cases h;rfl
   ·rw[hk]at h;cases h
  subst hEE;rw[hti]at hk;simp only at hk;cases d<;>simp[eC]at hk;obtain⟨rfl,rfl⟩:=hk;split at he
  ·rename_i hb;cases hr:tM (j.toNat*te.sz) A with
   |none=>simp[hr]at he
   |some r=>
    simp[hr]at he;subst he;obtain⟨ad,hv,hres⟩:=M8 hr hx;rw[hv]at fin;refine fin _ ?_ hres;simp[Instr.indexAt,asIntOf,bQ hd,Instr.sureAddr,hb,hsz]
  ·cases he
 ·rename_i E' k j hk;rw[B8 hi]at fin;have hEE:E'=E:=by
   rcases hE with⟨n',h⟩|h
   ·rw[hk]at h;cases h
   ·rw[hk]at h;cases h;rfl
  subst hEE;rw[hti]at hk;simp only at hk;cases d<;>simp[eC]at hk;subst hk;split at he
  ·rename_i fc es;split at he
   ·rename_i el hel;split at he
    ·rename_i hb;cases he;cases hx with
     |d hx=>
      generalize hy:a.eval x=y at hx fin;cases hx with
      |nil=>simp at hel
      |emp=>simp at hel
      |ro val hI hss hcap hmax hfc hc hrr hone=>
       rename_i sz aS off cap;have hlt:j.toNat<es.length:=(cJ.1 hel).1;have hsz':sz=te.sz:=by rw[<-hss el (gI hel)];exact hb.2
       subst hsz';refine fin (.pointer (some ((⟨aS,off,none⟩:Addr).add (j.toNat*te.sz)))) ?_ ?_
       ·have h1:0<=j/\j<(es.length:Int):=by omega
        simp[Instr.indexAt,asIntOf,bQ hd,h1,hsz]
       ·rw[add_plain];exact .d (.aT (λq=>val j.toNat q) hI (λq c hq=>hc _ el q c hel hq) (λq c hq=>hrr _ el q c hel hq) (λq c hq=>hone _ el q c hel hq))
    ·cases he
   ·cases he
  ·rename_i b;split at he
   ·rename_i zz es T' hb;split at he
    ·rename_i hc;obtain⟨c1,c2,rfl⟩:=hc;cases he;obtain⟨y,hy,hrb⟩:=hm.grow (aG.eZ hb (.inl (by simp)));generalize hev:a.eval x=u at hx fin;cases hx with
     |own h=>
      rw[hy]at h;cases h;rcases hrb with⟨rfl,rfl⟩|⟨_,rfl,rfl⟩|⟨n,cap,arr,rfl,g1,g2,g3,g4,g5,g6⟩
      ·simp at c2;omega
      ·simp at c2;omega
      ·refine fin (.pointer (some ((⟨n,0,none⟩:Addr).add (j.toNat*te.sz)))) ?_ ?_
       ·have h1:0<=j/\j<(es.length:Int):=⟨c1,c2⟩;simp[Instr.indexAt,asIntOf,bQ hd,h1,hsz]
       ·rw[add_plain];have:=RV.dM (σ:=σ) (I:=I) (w:=w) (b:=b) (sz:=te.sz) (i:=j.toNat) (off:=0) hy;simpa using this
    ·cases he
   ·cases he
  ·rename_i b zz i0 len;split at he
   ·rename_i hc;obtain⟨c1,c2,rfl⟩:=hc;cases he;generalize hev:a.eval x=u at hx fin;cases hx with
    |sl h hs=>
     cases hs with
     |nil=>omega
     |none=>omega
     |some hcc hll=>
     rename_i n L cap C;refine fin (.pointer (some ((⟨n,i0*te.sz,none⟩:Addr).add (j.toNat*te.sz)))) ?_ ?_
     ·have h1:0<=j/\j<(len:Int):=⟨c1,c2⟩;simp[Instr.indexAt,asIntOf,bQ hd,h1,hsz]
     ·rw[add_plain,<-fU];have:=RV.dM (σ:=σ) (I:=I) (w:=w) (b:=b) (sz:=te.sz) (i:=i0+j.toNat) (off:=0) h;simpa using this
   ·cases he
  ·cases he
 ·cases he
theorem V7 {P:Program}{o:Oper}{x:Operand}{i:Nat}(ho:o.op=.extract x i)(tm:Nat->AV)(m:Mem)(nm:Nat){vs:List AV}(hx:ev tm x=.bC vs){r:AV}(hr:vs[i]? =some r):aO P o tm m nm r m:=by
 refine aO.pure λa w σ I h _=>?_;have hx':=bO (σ:=σ) (I:=I) (w:=w) (tm:=tm) (a:=a) (x:=x) λs e=>h s (by simp[ho,Op.operands,e]);rw[hx]at hx';generalize he:a.eval x=u at hx';cases hx' with
 |bC hl hrr=>
  rename_i xs;have hlt:i<xs.length:=by grind
  refine⟨xs[i],?_,hrr i r _ hr (bL hlt)⟩;simp[execOp,ho,he,Instr.extract,hlt]
theorem D8 {α β:Type}{f:α->β}{l:List α}{a b:β}(h:l.map f=[a,b]):∃x y,l=[x,y]/\f x=a/\f y=b:=by
 match l with
 |[]=>cases h
 |[_]=>cases h
 |[x,y]=>cases h;exact⟨x,y,rfl,rfl,rfl⟩
 |_::_::_::_=>cases h
theorem D9 {α β:Type}{f:α->β}{l:List α}{a b c:β}(h:l.map f=[a,b,c]):∃x y z,l=[x,y,z]/\f x=a/\f y=b/\f z=c:=by
 match l with
 |[]=>cases h
 |x::r=>simp at h;obtain⟨y,z,rfl,h2,h3⟩:=D8 h.2;exact⟨x,y,z,rfl,h.1,h2,h3⟩
theorem XW {α β:Type}{f:α->β}{l:List α}{a b c d:β}(h:l.map f=[a,b,c,d]):∃x y z t,l=[x,y,z,t]/\f x=a/\f y=b/\f z=c/\f t=d:=by
 match l with
 |[]=>cases h
 |x::r=>simp at h;obtain⟨y,z,t,rfl,h2,h3,h4⟩:=D9 h.2;exact⟨x,y,z,t,rfl,h.1,h2,h3,h4⟩
def z8 :List AV->Option AV
 |[.d (.v (.int k a)),.d (.v (.int _ b))]=>some (.d (.v (.int k (if b<a then b else a))))
 |[.d (.v (.int k a)),.d (.v (.int _ b)),.d (.v (.int _ c))]=>some (.d (.v (.int k (if c<(if b<a then b else a)then c else(if b<a then b else a)))))
 |_=>none
def AA :List AV->Option AV
 |[.d (.v (.int k a)),.d (.v (.int _ b))]=>some (.d (.v (.int k (if a<b then b else a))))
 |[.d (.v (.int k a)),.d (.v (.int _ b)),.d (.v (.int _ c))]=>some (.d (.v (.int k (if(if a<b then b else a)<c then c else(if a<b then b else a)))))
 |[.d (.v (.int k a)),.d (.v (.int _ b)),.d (.v (.int _ c)),.d (.v (.int _ d))]=>
  some (.d (.v (.int k (if(if(if a<b then b else a)<c then c else(if a<b then b else a))<d then d else(if(if a<b then b else a)<c then c else(if a<b then b else a))))))
 |_=>none
def u5 (k:K)(mem:Mem):AV->Option aG
 |.d (.v (.string s))=>if k=.str then some ⟨.d (.v (.int .i64 s.size)),[],[]⟩else none
 |.d (.v (.slice none 0 0))=>match k with|.dA _=>some ⟨.d (.v (.int .i64 0)),[],[]⟩|_=>none
 |.d (.ro _ es)=>match k with|.dA _=>some ⟨.d (.v (.int .i64 es.length)),[],[]⟩|_=>none
 |.sl _ _ _ len=>match k with|.dA _=>some ⟨.d (.v (.int .i64 len)),[],[]⟩|_=>none
 |.own b=>match k,mem b with
  |.dA _,some (.grow _ es _)=>some ⟨.d (.v (.int .i64 es.length)),[b],[]⟩
  |_,_=>none
 |_=>none
theorem VT {P:Program}{o:Oper}{c:Call}(ho:o.op=.call c)(hc:c.callee=.builtin .min)(tm:Nat->AV)(m:Mem)(nm:Nat){r:AV}(hr:z8 (c.args.toList.map (ev tm))=some r):aO P o tm m nm r m:=by
 refine aO.pure λa w σ I h _=>?_;have harg:∀x∈c.args.toList,RV σ I w (ev tm x) (a.eval x):=λx hx=>bO λs e=>h s (by subst e;simp[ho,Op.operands,Call.operands,hc];simpa using hx);have fin:∀v,(Builtin.min_ c.argTypes o.type (c.args.map a.eval)).run P w=.ok v w->RV σ I w r v->∃v,(execOp a.eval o).run P w=.ok (.value v) w/\RV σ I w r v:=
  λv h1 h2=>⟨v,by simp[execOp,ho,resolve,hc,invoke,builtin,h1],h2⟩
 simp only[Builtin.min_,CM]at fin;generalize c.args.toList=l at*;unfold z8 at hr;split at hr
 ·rename_i k p k' q he;obtain⟨x,y,rfl,q1,q2⟩:=D8 he
  ·have e1:=harg x (by simp);have e2:=harg y (by simp);rw[q1]at e1;rw[q2]at e2;rw[fM,fM,qE,cH e1,cH e2]at fin;cases hr;exact fin _ (by simp[Builtin.min2]) (.d (.v _))
 ·rename_i k p k' q k'' s he;obtain⟨x,y,z,rfl,q1,q2,q3⟩:=D9 he
  ·have e1:=harg x (by simp);have e2:=harg y (by simp);have e3:=harg z (by simp);rw[q1]at e1;rw[q2]at e2;rw[q3]at e3;rw[fM,fM,fM,qE,cH e1,cH e2,cH e3]at fin;cases hr;exact fin _ (by simp[Builtin.min2]) (.d (.v _))
 ·cases hr
theorem VU {P:Program}{o:Oper}{c:Call}(ho:o.op=.call c)(hc:c.callee=.builtin .max)(tm:Nat->AV)(m:Mem)(nm:Nat){r:AV}(hr:AA (c.args.toList.map (ev tm))=some r):aO P o tm m nm r m:=by
 refine aO.pure λa w σ I h _=>?_;have harg:∀x∈c.args.toList,RV σ I w (ev tm x) (a.eval x):=λx hx=>bO λs e=>h s (by subst e;simp[ho,Op.operands,Call.operands,hc];simpa using hx);have fin:∀v,(Builtin.max_ c.argTypes o.type (c.args.map a.eval)).run P w=.ok v w->RV σ I w r v->∃v,(execOp a.eval o).run P w=.ok (.value v) w/\RV σ I w r v:=
  λv h1 h2=>⟨v,by simp[execOp,ho,resolve,hc,invoke,builtin,h1],h2⟩
 simp only[Builtin.max_,CM]at fin;generalize c.args.toList=l at*;unfold AA at hr;split at hr
 ·rename_i k p k' q he;obtain⟨x,y,rfl,q1,q2⟩:=D8 he
  ·have e1:=harg x (by simp);have e2:=harg y (by simp);rw[q1]at e1;rw[q2]at e2;rw[fM,fM,qE,cH e1,cH e2]at fin;cases hr;exact fin _ (by simp[Builtin.max2]) (.d (.v _))
 ·rename_i k p k' q k'' s he;obtain⟨x,y,z,rfl,q1,q2,q3⟩:=D9 he
  ·have e1:=harg x (by simp);have e2:=harg y (by simp);have e3:=harg z (by simp);rw[q1]at e1;rw[q2]at e2;rw[q3]at e3;rw[fM,fM,fM,qE,cH e1,cH e2,cH e3]at fin;cases hr;exact fin _ (by simp[Builtin.max2]) (.d (.v _))
 ·rename_i k p k' q k'' s k3 u he;obtain⟨x,y,z,t,rfl,q1,q2,q3,q4⟩:=XW he
  ·have e1:=harg x (by simp);have e2:=harg y (by simp);have e3:=harg z (by simp);have e4:=harg t (by simp);rw[q1]at e1;rw[q2]at e2;rw[q3]at e3;rw[q4]at e4;rw[fM,fM,fM,fM,qE,cH e1,cH e2,cH e3,cH e4]at fin;cases hr;exact fin _ (by simp[Builtin.max2]) (.d (.v _))
 ·cases hr
theorem J1 {P:Program}{o:Oper}{c:Call}(ho:o.op=.call c)(hc:c.callee=.builtin .len)(tm:Nat->AV)(mem:Mem)(nm:Nat){T:TypeId}(hT:c.argTypes[0]? =some T){ti:TI}(hti:aH P T=some ti){x:Operand}(hx:c.args[0]? =some x){e:aG}
  (he:u5 ti.k mem (ev tm x)=some e):aO P o tm (e.mr mem) nm e.res (e.mw mem):=by
 have hwr:e.wr=[]:=by
  unfold u5 at he
  repeat' split at he
  all_goals first
   | (cases he;done)
   | (cases he;rfl)
 have hmw:e.mw mem=e.mr mem:=by
  obtain⟨r,rd,wr⟩:=e;simp only at hwr;subst hwr;exact aG.mO _ _ _
 rw[hmw];refine aO.pure λa w σ I h hm=>?_;have hmem:x∈c.args.toList:=by
  rw[<-uK]at hx;exact gI hx
 have hv:=bO (σ:=σ) (I:=I) (w:=w) (tm:=tm) (a:=a) (x:=x) λs e=>h s (by subst e;simp[ho,Op.operands,Call.operands,hc];simpa using hmem);have hxe:(c.args.map a.eval)[0]? =some (a.eval x):=by simp[hx]
 obtain⟨d,hdr,hd,hkd⟩:=DF (w:=w) hti;have fin:∀v,(Builtin.len_ c.argTypes o.type (c.args.map a.eval)).run P w=.ok v w->RV σ I w e.res v->∃v,(execOp a.eval o).run P w=.ok (.value v) w/\RV σ I w e.res v:=
  λv h1 h2=>⟨v,by simp[execOp,ho,resolve,hc,invoke,builtin,h1],h2⟩
 simp only[Builtin.len_,hT,hxe]at fin;rw[<-hkd]at he;revert he hv fin hm;generalize ev tm x=A;generalize a.eval x=u;intro hm hv he fin;unfold u5 at he;split at he
 ·rename_i s;cases d<;>simp[eC]at he;subst he;rw[cH hv]at fin;exact fin _ (by simp[bQ hd,goInt]) (.d (.v _))
 ·cases d<;>simp[eC]at he;subst he;rw[cH hv]at fin;exact fin (.int .i64 0) (by simp[bQ hd,goInt]) (.d (.v _))
 ·rename_i fc es;cases d<;>simp[eC]at he;subst he;cases hv with
  |d hv=>
   cases hv with
   |nil=>exact fin (.int .i64 0) (by simp[bQ hd,goInt]) (.d (.v _))
   |emp=>exact fin (.int .i64 0) (by simp[bQ hd,goInt]) (.d (.v _))
   |ro _ _ _ _ _ _ _ _ _=>exact fin (.int .i64 es.length) (by simp[bQ hd,goInt]) (.d (.v _))
 ·rename_i b z i len;cases d<;>simp[eC]at he;subst he;cases hv with
  |sl _ hs=>
   cases hs<;>exact fin (.int .i64 _) (by simp[bQ hd,goInt]) (.d (.v _))
 ·rename_i b;split at he
  ·rename_i E z es T' hk hb;cases d<;>simp[eC]at hk;cases he;obtain⟨y,hy,hrb⟩:=hm.grow (aG.eZ hb (.inl (by simp)));cases hv with
   |own h=>
    rw[hy]at h;cases h;rcases hrb with⟨rfl,rfl⟩|⟨_,rfl,rfl⟩|⟨n,cap,arr,rfl,_⟩
    ·exact fin (.int .i64 0) (by simp[bQ hd,goInt]) (.d (.v _))
    ·exact fin (.int .i64 0) (by simp[bQ hd,goInt]) (.d (.v _))
    ·exact fin (.int .i64 es.length) (by simp[bQ hd,goInt]) (.d (.v _))
  ·cases he
 ·cases he
theorem MT (off:Nat):∀(l:List Value) (k:Nat) (a:Array Value),off+k+l.length<=a.size->
  ((l.zipIdx k).foldl (λcs p=>cs.setIfInBounds (off+p.2) p.1) a).size=a.size/\
  ∀i,((l.zipIdx k).foldl (λcs p=>cs.setIfInBounds (off+p.2) p.1) a)[i]? =if off+k<=i/\i<off+k+l.length then l[i-(off+k)]? else a[i]?
 |[],k,a,_=>by
  refine⟨rfl,λi=>?_⟩;simp only[List.zipIdx_nil,List.foldl_nil,j6,uH];rw[aR (by omega)]
 |x::l,k,a,h=>by
  simp only[jL]at h;obtain⟨h1,h2⟩:=MT off l (k+1) (a.setIfInBounds (off+k) x) (by simp;omega);simp only[List.zipIdx_cons,iG];refine⟨by rw[h1];simp,λi=>?_⟩;rw[h2 i];simp only[jL];by_cases e:i=off+k
  ·subst e;rw[aR (by omega),bA (by omega),Array.getElem?_setIfInBounds_self_of_lt (by omega)];simp
  ·by_cases hi:off+(k+1)<=i/\i<off+(k+1)+l.length
   ·rw[bA hi,bA (by omega)];have:i-(off+k)=(i-(off+(k+1)))+1:=by omega
    rw[this,List.getElem?_cons_succ]
   ·rw[aR hi,aR (by omega),lH (by omega)]
def pX (place:Nat->Option (Nat×Nat))(cells:List AV):List (Nat×AV)->Option (List AV)
 |[]=>some cells
 | (i,v)::rest=>match place i,cellsOf v with
   |some (off,size),some cs=>if cs.length=size/\off+cs.length<=cells.length then pX place (lay cells off cs) rest else none
   |_,_=>none
theorem BC {σ:Names}{I:Nat->Prop}{w:World}{place:Nat->Option (Nat×Nat)}:∀(parts:List (Nat×AV)) (vs:List (Nat×Value)) (cells:List AV) (arr:Array Value) (r:List AV),pX place cells parts=some r->
  vs.length=parts.length->(∀(j:Nat) p q,parts[j]? =some p->vs[j]? =some q->p.1=q.1/\RV σ I w p.2 q.2)->arr.size=cells.length->(∀(i:Nat) c x,cells[i]? =some c->arr[i]? =some x->RV σ I w c x)->
  ∃arr',Instr.fill place arr vs=some arr'/\arr'.size=r.length/\∀(i:Nat) c x,r[i]? =some c->arr'[i]? =some x->RV σ I w c x
 |[],[],cells,arr,r,h,_,_,ha,hr=>by cases h;exact⟨arr,rfl,ha,hr⟩
 | (i,v)::rest,(i',u)::vs,cells,arr,r,h,hl,hp,ha,hr=>by
   unfold pX at h;split at h
   ·rename_i off size cs hpl hcs;split at h
    ·rename_i hc;obtain⟨e1,hv⟩:=hp 0 _ _ rfl rfl;simp only at e1 hv;subst e1;obtain⟨l1,r1⟩:=vO hv hcs;obtain⟨s1,s2⟩:=MT off u.cells.toList 0 arr (by simp;omega);have e2:u.cells.zipIdx.foldl (λcs p=>cs.setIfInBounds (off+p.2) p.1) arr=(u.cells.toList.zipIdx 0).foldl (λcs p=>cs.setIfInBounds (off+p.2) p.1) arr:=by
      rw[<-Array.foldl_toList,Array.toList_zipIdx]
     have lay1:(lay cells off cs).length=cells.length:=w6 _ _ _ hc.2;obtain⟨arr',f1,f2,f3⟩:=BC rest vs (lay cells off cs) (u.cells.zipIdx.foldl (λcs p=>cs.setIfInBounds (off+p.2) p.1) arr) r h (by simpa using hl)
      (λj p q h1 h2=>hp (j+1) p q (by simpa using h1) (by simpa using h2)) (by rw[e2,s1,lay1];exact ha) (λj c x h1 h2=>by
        rw[w7 _ _ _ _ hc.2]at h1;rw[e2,s2 j]at h2;simp only[uH]at h2;have hlen:u.cells.toList.length=cs.length:=by simp;omega
        rw[hlen]at h2;split at h1
        ·rename_i hin;rw[bA hin]at h2;exact r1 (j-off) c x h1 (by simpa using h2)
        ·rename_i hin;rw[aR hin]at h2;exact hr j c x h1 h2)
     refine⟨arr',?_,f2,f3⟩;unfold Instr.fill;simp only[hpl];rw[aR (by simp;omega)];exact f1
    ·cases h
   ·cases h
 |[],_::_,_,_,_,_,hl,_,_,_=>by simp at hl
 |_::_,[],_,_,_,_,hl,_,_,_=>by simp at hl
def BU (P:Program)(ti:TI)(parts:List (Nat×AV)):Option AV:=
 match ti.k with
 |.dD fs=>(pX (λi=>(fs[i]?).map λf=>(f.1,bS P f.2.1)) (ti.zero.map λv=>.d (.v v)) parts).map .agg
 |.arr _ e=>(pX (λi=>some (i*bS P e,bS P e)) (ti.zero.map λv=>.d (.v v)) parts).map .agg
 |_=>none
def EN (P:Program)(fs:List (Nat×Nat×Bool)):Bool:=fs.all λf=>(aH P f.2.1).isSome
theorem L0 {P:Program}{t:TypeId}(h:(aH P t).isSome=true):(P.info? t).isSome=true:=by
 obtain⟨ti,h⟩:=oJ.1 h;obtain⟨i,d,z,hi,_⟩:=fG h;simp[hi]
def AO (P:Program):K->Bool
 |.dD fs=>EN P fs
 |.arr _ e=>(aH P e).isSome
 |_=>false
def BK :K->Bool
 |.iface _=>false
 |_=>true
theorem run_places {P:Program}{w:World}:∀(fs:List Field),(fs.all λf=>(P.info? f.type).isSome)=true->
  (fs.mapM λf=>do pure (f.offset,<-sizeOf f.type):Sem (List (Nat×Nat))).run P w=.ok (fs.map λf=>(f.offset,bS P f.type)) w
 |[],_=>by rw[List.mapM_nil];rfl
 |f::fs,h=>by
  simp only[oL,bN]at h;obtain⟨i,hi⟩:=oJ.1 h.1;have hsz:(sizeOf f.type).run P w=.ok (bS P f.type) w:=by simp[sizeOf,typeInfo,hi,bS]
  rw[List.mapM_cons];simp only[bV,hsz,cC,gW,run_places fs h.2,fM]
theorem WH {P:Program}{o:Oper}{T:TypeId}{parts:Array (Nat×Operand)}(ho:o.op=.build T parts)(tm:Nat->AV)(m:Mem)(nm:Nat){ti:TI}(hT:aH P T=some ti)
  (hk:AO P ti.k=true) {r:AV} (hr:BU P ti (parts.toList.map λp=>(p.1,ev tm p.2))=some r):aO P o tm m nm r m:=by
 refine aO.pure λa w σ I h _=>?_;obtain⟨i,d,z,hi,hd,hz,rfl⟩:=fG hT;have hparts:∀(j:Nat) p q,(parts.toList.map λp=>(p.1,ev tm p.2))[j]? =some p->((parts.map λ(i,x)=>(i,a.eval x)).toList)[j]? =some q->p.1=q.1/\RV σ I w p.2 q.2:=by
  intro j p q h1 h2;simp only[fN,CM]at h1 h2;cases hx:parts.toList[j]? with
  |none=>simp[hx]at h1
  |some x=>
   rw[hx]at h1 h2;simp at h1 h2;subst h1;subst h2;refine⟨rfl,bO λs e=>h s ?_⟩;simp only[ho,Op.operands,List.mem_toArray,dV];exact⟨x,gI hx,e⟩
 have hzero:(zeroValue T).run P w=.ok z w:=by simp[zeroValue,typeInfo,hi,hz]
 have hz1:z.cells.size=(z.cells.toList.map λv=>AV.d (.v v)).length:=by simp
 have hz2:∀(i:Nat) c x,(z.cells.toList.map λv=>AV.d (.v v))[i]? =some c->z.cells[i]? =some x->RV σ I w c x:=by
  intro i c x h1 h2;simp at h1;obtain⟨y,hy,rfl⟩:=h1;rw[h2]at hy;cases hy;exact .d (.v _)
 have fin:∀arr' (l:List AV),(Instr.build T (parts.map λ(i,x)=>(i,a.eval x))).run P w=.ok (.agg arr') w->r=.agg l->arr'.size=l.length->(∀(i:Nat) c x,l[i]? =some c->arr'[i]? =some x->RV σ I w c x)->
   ∃v,(execOp a.eval o).run P w=.ok (.value v) w/\RV σ I w r v:=by
  intro arr' l h1 h2 h3 h4;refine⟨.agg arr',by simp[execOp,ho,h1],?_⟩;rw[h2,show arr'=arr'.toList.toArray by simp];exact .agg (by simpa using h3) (λi c x q1 q2=>h4 i c x q1 (by simpa using q2))
 simp only[BU]at hr;cases d<;>simp only[eC,AO]at hr hk<;>first| (cases hr;done)|skip
 ·rename_i n e;cases hfl:pX (λi=>some (i*bS P e,bS P e)) (z.cells.toList.map λv=>.d (.v v)) (parts.toList.map λp=>(p.1,ev tm p.2))with
  |none=>rw[hfl]at hr;cases hr
  |some l=>
   rw[hfl]at hr;simp at hr;obtain⟨arr',f1,f2,f3⟩:=BC (σ:=σ) (I:=I) (w:=w) _ _ _ z.cells l hfl (by simp) hparts hz1 hz2;obtain⟨ie,hie⟩:=oJ.1 (L0 hk);have hsz:(sizeOf e).run P w=.ok (bS P e) w:=by simp[sizeOf,typeInfo,hie,bS]
   refine fin arr' l ?_ hr.symm f2 f3;simp only[Instr.build,bV,hzero,cC,bQ hd,hsz,f1];rfl
 ·rename_i fields;cases hfl:pX (fun i=>((fields.toList.map fun f=>(f.offset,f.type,f.name== "_"))[i]?).map fun f=>(f.1,bS P f.2.1)) (z.cells.toList.map fun v=>.d (.v v)) (parts.toList.map fun p=>(p.1,ev tm p.2))with
  |none=>rw[hfl]at hr;cases hr
  |some l=>
   rw[hfl]at hr;simp only[lF,mV]at hr;have hpl:(fun(i:Nat)=>((fields.toList.map fun f=>(f.offset,f.type,f.name== "_"))[i]?).map fun(f:Nat×Nat×Bool)=>(f.1,bS P f.2.1))=fun(i:Nat)=>((fields.toList.map fun f=>(f.offset,bS P f.type)).toArray)[i]? :=by
    funext i;simp[Function.comp_def]
   rw[hpl]at hfl;obtain⟨arr',f1,f2,f3⟩:=BC (σ:=σ) (I:=I) (w:=w) _ _ _ z.cells l hfl (by simp) hparts hz1 hz2;have hkn:(fields.toList.all λf=>(P.info? f.type).isSome)=true:=by
    simp only[EN,List.all_map,cS,Function.comp_apply]at hk⊢;exact λf hf=>L0 (hk f hf)
   have hplaces:(fields.mapM λf=>do pure (f.offset,<-sizeOf f.type):Sem (Array (Nat×Nat))).run P w=.ok (fields.toList.map λf=>(f.offset,bS P f.type)).toArray w:=by
    have e2:(fields.mapM λf=>do pure (f.offset,<-sizeOf f.type):Sem (Array (Nat×Nat)))=List.toArray<$>(fields.toList.mapM λf=>do pure (f.offset,<-sizeOf f.type)):=by
     rw[<-List.mapM_toArray]
    rw[e2,map_eq_pure_bind];simp only[bV,run_places _ hkn,cC,gW]
   refine fin arr' l ?_ hr.symm f2 f3;simp only[Instr.build,bV,hzero,cC,bQ hd,hplaces,f1];rfl
def D0 :AV->Bool
 |.ptr _ _=>true
 |.dM _ _ _ _=>true
 |.d (.aT _)=>true
 |.d (.dC _ _)=>true
 |.dC _ _=>true
 |.fn (.func _) _ _=>true
 |.d (.fn (.func _) _ _)=>true
 |.d (.v (.pointer (some _)))=>true
 |.d (.v (.func (.func _) _ _))=>true
 |_=>false
theorem VP {P:Program}{o:Oper}{x:Operand}(ho:o.op=.nilCheck x)(tm:Nat->AV)(m:Mem)(nm:Nat)(hx:D0 (ev tm x)=true):aO P o tm m nm (ev tm x) m:=by
 refine aO.pure λa w σ I h _=>?_;have hv:=bO (σ:=σ) (I:=I) (w:=w) (tm:=tm) (a:=a) (x:=x) λs e=>h s (by simp[ho,Op.operands,e]);refine⟨a.eval x,?_,hv⟩;simp only[execOp,ho];generalize a.eval x=u at hv;generalize ev tm x=A at hv hx;cases hv with
 |d hv=>
  cases hv with
  |v _=>
   cases u<;>first| (cases hx;done)|skip
   ·rename_i q;cases q<;>first| (cases hx;done)|rfl
   ·rename_i fn _ _;cases fn<;>first| (cases hx;done)|rfl
  | @fn f _ _ _ _ _ _ _ _=>cases f<;>first| (cases hx;done)|rfl
  |aT _ _ _ _=>rfl
  |dC _=>rfl
  |_=>cases hx
 | @fn f _ _ _ _ _ _ _ _=>cases f<;>first| (cases hx;done)|rfl
 |ptr _=>rfl
 |dM _=>rfl
 |dC _=>rfl
 |_=>cases hx
def D5 (t:TypeId):AV->AV
 |.d x=>.d (.dC t x)
 |x=>.dC t x
theorem VX {P:Program}{o:Oper}{T:TypeId}{x:Operand}(ho:o.op=.makeInterface T x)(tm:Nat->AV)(m:Mem)(nm:Nat){ti:TI}(hT:aH P T=some ti)(hk:BK ti.k=true):
  aO P o tm m nm (D5 T (ev tm x)) m:=by
 refine aO.pure λa w σ I h _=>?_;have hv:=bO (σ:=σ) (I:=I) (w:=w) (tm:=tm) (a:=a) (x:=x) λs e=>h s (by simp[ho,Op.operands,e]);obtain⟨i,d,z,hi,hd,hz,rfl⟩:=fG hT;refine⟨.iface T (a.eval x),?_,?_⟩
 ·simp only[execOp,ho,Instr.makeInterface,bV,bQ hd];cases d<;>simp[eC,BK]at hk<;>rfl
 ·generalize ev tm x=A at hv;cases A<;>first
   | (cases hv with|d hv=>exact .d (.dC hv))
   |exact .dC hv
theorem VY {P:Program}{o:Oper}{f:Fn}{first captured:Array Operand}(ho:o.op=.makeFunc f first captured)(tm:Nat->AV)(m:Mem)(nm:Nat):
  aO P o tm m nm (.fn f (first.toList.map (ev tm)) (captured.toList.map (ev tm))) m:=by
 refine aO.pure λa w σ I h _=>?_;refine⟨.func f (first.map a.eval) (captured.map a.eval),by simp[execOp,ho,Instr.makeFunc],?_⟩;have key:∀(l:Array Operand),(∀x∈l.toList,RV σ I w (ev tm x) (a.eval x))->∀(i:Nat) c x,(l.toList.map (ev tm))[i]? =some c->(l.toList.map a.eval)[i]? =some x->RV σ I w c x:=by
  intro l hl i c x h1 h2;simp only[fN]at h1 h2;cases hx:l.toList[i]? with
  |none=>simp[hx]at h1
  |some y=>
   grind
 have e1:first.map a.eval=(first.toList.map a.eval).toArray:=by grind
 have e2:captured.map a.eval=(captured.toList.map a.eval).toArray:=by grind
 rw[e1,e2];exact .fn (by simp) (by simp)
  (key first (λx hx=>bO λs e=>h s (by subst e;simp[ho,Op.operands];exact .inl (by simpa using hx))))
  (key captured (λx hx=>bO λs e=>h s (by subst e;simp[ho,Op.operands];exact .inr (by simpa using hx))))
def AY (n:Nat)(agg:Bool)(sz:Nat)(x:AV):AV->Option AV
 |.d (.v (.int _ j))=>match sH x with
  |some cs=>if 0<=j/\j<n then lM agg sz (j.toNat*sz) cs else none
  |none=>none
 |_=>none
def AX (x:AV):AV->Option AV
 |.d (.v (.int _ j))=>match x with
  |.d (.v (.string s))=>match s[j.toNat]? with
   |some b=>if 0<=j then some (.d (.v (.int .u8 b.toNat)))else none
   |none=>none
  |_=>none
 |_=>none
theorem SZ {P:Program}{w:World}{σ:Names}{I:Nat->Prop}{t:TypeId}{ti:TI}(hT:aH P t=some ti){xs:List Value}{cs:List AV}{off:Nat}{r:AV}(hr:lM ti.agg ti.sz off cs=some r)(hl:xs.length=cs.length)
  (hx:∀(i:Nat) c y,cs[i]? =some c->xs[i]? =some y->RV σ I w c y):∃v,(part t xs.toArray off).run P w=.ok v w/\RV σ I w r v:=by
 obtain⟨i',d',z',hi',hd',hz',rfl⟩:=fG hT;have hsz:bS P t=i'.size:=HA hi';unfold lM at hr;cases hg:eV d' with
 |true=>
  have hg':(TI.mk i'.size i'.bytes z'.cells.toList (eC d') (P.eqGuardType P.depth t) (jZ P 8 t) (r7 z')).agg=true:=by
   cases d'<;>simp[eV]at hg<;>rfl
  simp only[hg',dY]at hr;split at hr
  ·rename_i hle;cases hr;refine⟨_,uW hd' (xs:=xs) (off:=off) (by rw[hsz];omega) (λh=>by rw[hg]at h;cases h),?_⟩;simp only[hg,dY,hsz];refine .agg (by simp;omega) (λj c y h1 h2=>?_)
   grind
  ·cases hr
 |false=>
  have hg':(TI.mk i'.size i'.bytes z'.cells.toList (eC d') (P.eqGuardType P.depth t) (jZ P 8 t) (r7 z')).agg=false:=by
   cases d'<;>simp[eV]at hg<;>rfl
  simp only[hg',j5]at hr;have hlt:off<xs.length:=by
   have:=(cJ.1 hr).1;omega
  refine⟨xs[off],?_,hx _ r _ hr (bL hlt)⟩;simp[part,sZ hd',hg,hlt]
theorem V4 {P:Program}{o:Oper}{T E:TypeId}{n:Nat}{x i:Operand}(ho:o.op=.index T x i)(tm:Nat->AV)(m:Mem)(nm:Nat){ti:TI}(hT:aH P T=some ti)(hE:ti.k=.arr n E){te:TI}(hTe:aH P E=some te){r:AV}
  (hr:AY n te.agg te.sz (ev tm x) (ev tm i)=some r):aO P o tm m nm r m:=by
 refine aO.pure λa w σ I h _=>?_;have hx:=bO (σ:=σ) (I:=I) (w:=w) (tm:=tm) (a:=a) (x:=x) λs e=>h s (by simp[ho,Op.operands,e]);have hi:=bO (σ:=σ) (I:=I) (w:=w) (tm:=tm) (a:=a) (x:=i) λs e=>h s (by simp[ho,Op.operands,e]);obtain⟨inf,d,z,hinf,hd,hz,rfl⟩:=fG hT;cases d<;>simp[eC]at hE;obtain⟨rfl,rfl⟩:=hE;have hsz:=lV (w:=w) hTe;revert hr hx hi;generalize ev tm i=B;intro hx hi hr;unfold AY at hr;split at hr<;>first| (cases hr;done)|skip
 split at hr
 ·rename_i cs hcs;split at hr
  ·rename_i hb;obtain⟨xs,ex,lx,rx⟩:=B6 hx hcs;obtain⟨v,h1,h2⟩:=SZ hTe hr lx rx;refine⟨v,?_,h2⟩;simp[execOp,ho,Instr.index,B8 hi,ex,asIntOf,bQ hd,hb,hsz,h1]
  ·cases hr
 ·cases hr
theorem V2 {P:Program}{o:Oper}{T:TypeId}{x i:Operand}(ho:o.op=.index T x i)(tm:Nat->AV)(m:Mem)(nm:Nat){ti:TI}(hT:aH P T=some ti)(hE:ti.k=.str){r:AV}
  (hr:AX (ev tm x) (ev tm i)=some r):aO P o tm m nm r m:=by
 refine aO.pure λa w σ I h _=>?_;have hx:=bO (σ:=σ) (I:=I) (w:=w) (tm:=tm) (a:=a) (x:=x) λs e=>h s (by simp[ho,Op.operands,e]);have hi:=bO (σ:=σ) (I:=I) (w:=w) (tm:=tm) (a:=a) (x:=i) λs e=>h s (by simp[ho,Op.operands,e]);obtain⟨inf,d,z,hinf,hd,hz,rfl⟩:=fG hT;cases d<;>simp[eC]at hE;revert hr hx hi;generalize ev tm x=A;generalize ev tm i=B;intro hr hx hi;unfold AX at hr;split at hr<;>first| (cases hr;done)|skip
 split at hr<;>first| (cases hr;done)|skip
 split at hr
 ·rename_i b hb;split at hr
  ·rename_i h0;cases hr;refine⟨.int .u8 b.toNat,?_,.d (.v _)⟩;simp[execOp,ho,Instr.index,B8 hi,cH hx,asIntOf,bQ hd,h0,hb]
  ·cases hr
 ·cases hr
structure X where
 tm:List (Nat×AV)
 mm:List (Nat×Option aN)
 nx:Nat
def bH :List (Nat×AV)->Nat->AV
 |[],_=>.any
 | (s,v)::r,t=>if s=t then v else bH r t
def bG :List (Nat×Option aN)->Nat->Option aN
 |[],_=>none
 | (c,k)::r,b=>if c=b then k else bG r b
def X.den (x:X):S:={tm:=bH x.tm,mm:=bG x.mm,fr:=λb=>x.nx<=b}
def qQ (dst:Option Nat)(v:AV)(l:List (Nat×AV)):List (Nat×AV):=
 match dst with
 |some d=>(d,v)::l
 |none=>l
def X.app (x:X)(dst:Option Nat)(e:aG):X:={tm:=qQ dst e.res x.tm,mm:=e.wr++x.mm,nx:=x.nx}
theorem XZ (l:List (Nat×Option aN))(r:List (Nat×Option aN))(b:Nat):bG (l++r) b=(wrote l b).getD (bG r b):=by
 induction l with
 |nil=>rfl
 |cons p l ih=>
  simp only[yK,bG,wrote];split<;>simp[ih]
theorem X.NP (x:X)(dst:Option Nat)(e:aG):(x.app dst e).den.tm=(λt=>if dst=some t then e.res else x.den.tm t)/\(x.app dst e).den.mm=λb=>(wrote e.wr b).getD (x.den.mm b):=by
 refine⟨?_,?_⟩
 ·funext t
  cases dst with
  |none=>simp[X.den,X.app,qQ]
  |some d=>simp[X.den,X.app,qQ,bH]
 ·funext b
  simp[X.den,X.app,XZ]
def aG.jC (e:aG):List Nat×List Nat:=(e.rd,e.wr.map (·.1))
def DS (o:Oper):List Nat:=o.op.operands.toList.filterMap λ|.tmp t=>some t|_=>none
def ED (ops:Array Oper)(o:Oper):List Nat:=
 DS o++(match o.guard with
  |some (g,_)=>match ops[g]? with
   |some p=>p.dst.toList
   |none=>[]
  |none=>[])
def vG (o:Oper):List Nat:=o.after.toList.filterMap λe=>if Region.binds .any e then some e.on else none
def JD (ops:List Oper):List (List Nat):=
 ops.foldl (λacc o=>acc++[((vG o)++(vG o).flatMap λe=>acc.getD e []).eraseDups]) []
def xO (a b:List Nat):Bool:=a.all λx=>!b.contains x
def meets (ops:Array Oper)(x y:Oper):Bool:=
 (match x.dst with
   |some d=>y.dst==some d|| (ED ops y).contains d
   |none=>false)||
 (match y.dst with
   |some d=>(ED ops x).contains d
   |none=>false)
def vH (ops:Array Oper)(pre:List (List Nat)):Bool:=
 (List.range ops.size).all λj=>
   match ops[j]? with
   |none=>true
   |some o=>
    (vG o).all (λe=>decide (e<j))&&
    (pre.getD j []).all (λi=>(vG o).any λe=>i==e|| (pre.getD e []).contains i)&&
    (List.range j).all λi=>(pre.getD j []).contains i|| (match ops[i]? with|some p=>!meets ops p o|none=>true)
def A4 (pre:List (List Nat))(feet:List (List Nat×List Nat)):Bool:=
 (List.range feet.length).all λj=>(List.range j).all λi=>
   (pre.getD j []).contains i||
   (let a:=feet.getD i ([],[]);let b:=feet.getD j ([],[]);xO a.2 b.1&&xO a.2 b.2&&xO b.2 a.1)
def gL (es:List (List D))(n:Nat):Prop:=∀e∈es,e.length=n
@[simp] theorem lenAll_nil (n:Nat):gL [] n=True:=eq_true (λe h=>by cases h)
@[simp] theorem lenAll_cons (e:List D)(es:List (List D))(n:Nat):gL (e::es) n=(e.length=n/\gL es n):=by simp[gL]
@[simp] theorem X3 (es fs:List (List D))(n:Nat):gL (es++fs) n=(gL es n/\gL fs n):=by
  simp only[gL,fZ,eq_iff_iff];exact⟨λh=>⟨λe he=>h e (.inl he),λe he=>h e (.inr he)⟩,λh e he=>he.elim (h.1 e) (h.2 e)⟩
theorem r5 {α:Type}{f:α->List D}{n:Nat}(h:∀a,(f a).length=n)(l:List α):gL (l.map f) n=True:=by
 refine eq_true (λe he=>?_)
 grind
def uQ (sz:Nat)(mem:Mem):AV->Option (List (List D)×List Nat)
 |.d (.v (.slice none 0 0))=>some ([],[])
 |.d (.ro _ es)=>some (es,[])
 |.own b=>match mem b with
  |some (.grow z es _)=>if z=sz then some (es,[b])else none
  |_=>none
 |.sl b z i len=>match mem b with
  |some (.grow z' es _)=>if z=sz/\z'=sz/\i+len<=es.length then some ((es.drop i).take len,[b])else none
  |_=>none
 |_=>none
structure iT (I:Nat->Prop)(w:World)(sz:Nat)(es:List (List D))(v:Value)(a:Option Addr)(c:Nat)(val:Nat->Nat->Value):Prop where
 v:v=.slice a es.length c
 cap:es.length<=c
 max:c<=maxLen
 zQ:a=none->es=[]/\c=0
 cell:∀ad,a=some ad->∀(i:Nat) e (j:Nat) x,es[i]? =some e->e[j]? =some x->ad.spot=Option.none/\w.cell? ⟨ad.block,ad.off+i*sz+j,Option.none⟩=some (val i j)
 rd:∀(i:Nat) e (j:Nat) x,es[i]? =some e->e[j]? =some x->RD I w x (val i j)
 one:∀(i:Nat) e (j:Nat) x,es[i]? =some e->e[j]? =some x->(val i j).oneCell'=true
 len:∀e∈es,e.length=sz
theorem iT.nil {I:Nat->Prop}{w:World}{sz:Nat}:iT I w sz [] (.slice none 0 0) none 0 (λ_ _=>undef):=
 ⟨rfl,aY _,by simp[maxLen],(λ_=>⟨rfl,rfl⟩),(λ_ h=>by cases h),(λi e j x h=>by simp at h),(λi e j x h=>by simp at h),(λe h=>by cases h)⟩
theorem iT.emp {I:Nat->Prop}{w:World}{sz:Nat}(a:Addr):iT I w sz [] (.slice (some a) 0 0) (some a) 0 (λ_ _=>undef):=
 ⟨rfl,aY _,by simp[maxLen],(λh=>by cases h),(λ_ _ i e j x h=>by simp at h),(λi e j x h=>by simp at h),(λi e j x h=>by simp at h),(λe h=>by cases h)⟩
theorem LF {I:Nat->Prop}{w:World}{sz:Nat}{fc:Bool}{es:List (List D)}{v:Value}(hs:∀e∈es,e.length=sz)(h:RD I w (.ro fc es) v):∃a c val,iT I w sz es v a c val:=by
 cases h with
 |nil=>exact⟨_,_,_,.nil⟩
 |emp=>exact⟨_,_,_,.emp _⟩
 | @ro z _ _ aS off cap val hI hsz hcap hmax hfc hc hr h1=>
   refine⟨_,_,val,rfl,hcap,hmax,(λh=>by cases h),(λad h i e j x he hx=>?_),(λi e j x he hx=>hr i e j x he hx),(λi e j x he hx=>h1 i e j x he hx),hs⟩
   grind
theorem LG {σ:Names}{I:Nat->Prop}{w:World}{m:Mem}(hm:RM σ I w m){b sz:Nat}{es:List (List D)}{T:TypeId}(h:m b=some (.grow sz es T)){v:Value}(hv:RV σ I w (.own b) v):∃a c val,iT I w sz es v a c val:=by
 obtain⟨x,hx,hrb⟩:=hm.grow h;cases hv with
 |own h' _=>
  rw[hx]at h';cases h';rcases hrb with⟨rfl,rfl⟩|⟨a,rfl,rfl⟩|⟨n,cap,arr,rfl,g1,g2,g3,g4,g5,g6⟩
  ·exact⟨_,_,_,.nil⟩
  ·exact⟨_,_,_,.emp _⟩
  ·refine⟨_,_,(λi j=>arr.getD (i*sz+j) undef),rfl,g3,g4,(λh=>by cases h),(λad h i e j x he hx'=>?_),(λi e j x he hx'=>?_),(λi e j x he hx'=>?_),g5⟩
   ·cases h;obtain⟨q,hq,_⟩:=g6 i e j x he hx';rw[rF g1];simp[hq]
   ·obtain⟨q,hq,hr,_⟩:=g6 i e j x he hx';simpa[hq]using hr
   ·obtain⟨q,hq,_,ho⟩:=g6 i e j x he hx';simpa[hq]using ho
theorem EF {σ:Names}{I:Nat->Prop}{w:World}{m:Mem}(hm:RM σ I w m){b sz i len:Nat}{es:List (List D)}{T:TypeId}(h:m b=some (.grow sz es T))(hle:i+len<=es.length){v:Value}(hv:RV σ I w (.sl b sz i len) v):
  ∃a c val,iT I w sz ((es.drop i).take len) v a c val:=by
 obtain⟨x,hx,hrb⟩:=hm.grow h;have hl0:len=0->∀{v:Value} {a:Option Addr} {c:Nat} {val:Nat->Nat->Value},iT I w sz [] v a c val->iT I w sz ((es.drop i).take len) v a c val:=by
  rintro rfl v a c val h;simpa using h
 cases hv with
 |sl h' hs=>
  rw[hx]at h';cases h';cases hs with
  |nil=>exact⟨_,_,_,hl0 rfl .nil⟩
  |none a=>exact⟨_,_,_,hl0 rfl (.emp a)⟩
  |some hc hl=>
   rename_i n L cap c;rcases hrb with⟨e,_⟩|⟨a,e,rfl⟩|⟨n',cap',arr,e,g1,g2,g3,g4,g5,g6⟩
   ·cases e
   ·cases e;have:len=0:=by omega
    have hc0:c=0:=by omega
    subst hc0;exact⟨_,_,_,hl0 this (by subst this;exact .emp _)⟩
   ·cases e;have hlen:((es.drop i).take len).length=len:=by grind
    have get:∀k e,((es.drop i).take len)[k]? =some e->es[i+k]? =some e:=by
     grind
    refine⟨_,_,(λk j=>arr.getD ((i+k)*sz+j) undef),by rw[hlen],by omega,by omega,(λh=>by cases h),(λad h k e j x he hx'=>?_),(λk e j x he hx'=>?_),(λk e j x he hx'=>?_),(λe he=>g5 e (List.mem_of_mem_drop (rL he)))⟩
    ·cases h;obtain⟨q,hq,_⟩:=g6 (i+k) e j x (get k e he) hx';refine⟨rfl,?_⟩;rw[rF g1,<-fU];simp[hq]
    ·obtain⟨q,hq,hr,_⟩:=g6 (i+k) e j x (get k e he) hx';simpa[hq]using hr
    ·obtain⟨q,hq,_,ho⟩:=g6 (i+k) e j x (get k e he) hx';simpa[hq]using ho
theorem HG {σ:Names}{I:Nat->Prop}{w:World}{sz:Nat}{mem mr:Mem}{x:AV}{v:Value}{es:List (List D)}{rd:List Nat}(h:uQ sz mem x=some (es,rd))(hs:∀e∈es,e.length=sz)(hv:RV σ I w x v)(hm:RM σ I w mr)
  (hr:∀b∈rd,∀k,mem b=some k->mr b=some k):∃a c val,iT I w sz es v a c val:=by
 unfold uQ at h;split at h
 ·cases h;rw[cH hv];exact⟨_,_,_,.nil⟩
 ·cases h;cases hv with
  |d hv=>exact LF hs hv
 ·rename_i b;split at h
  ·rename_i z es' T hb;split at h
   ·rename_i hz;subst hz;cases h;exact LG hm (hr b (by simp) _ hb) hv
   ·cases h
  ·cases h
 ·rename_i b z i len;split at h
  ·rename_i z' es' T hb;split at h
   ·rename_i hz;obtain⟨rfl,rfl,hle⟩:=hz;cases h;exact EF hm (hr b (by simp) _ hb) hle hv
   ·cases h
  ·cases h
 ·cases h
def gD (sz n:Nat)(val:Nat->Nat->Value):List Value:=(List.range (n*sz)).map λq=>val (q/sz) (q%sz)
theorem n5 (sz n:Nat)(val:Nat->Nat->Value):(gD sz n val).length=n*sz:=by simp[gD]
theorem Ac {sz n:Nat}{val:Nat->Nat->Value}{q:Nat}{u:Value}(h:(gD sz n val)[q]? =some u):q<n*sz/\0<sz/\q/sz<n/\q%sz<sz/\u=val (q/sz) (q%sz):=by
 have hlt:q<n*sz:=by have:=(cJ.1 h).1;rwa[n5]at this
 have hsz:0<sz:=by
  grind
 refine⟨hlt,hsz,Nat.div_lt_of_lt_mul (by rwa[qD]),Nat.mod_lt _ hsz,?_⟩;simp[gD,hlt]at h;exact h.symm
theorem MV {sz n:Nat}{val:Nat->Nat->Value}{i j:Nat}(hi:i<n)(hj:j<sz):(gD sz n val)[i*sz+j]? =some (val i j):=by
 have hlt:i*sz+j<n*sz:=by
  have:(i+1)*sz<=n*sz:=mC sz hi;rw[fU,nO]at this;omega
 have h1:(i*sz+j)/sz=i:=by
  rw[qD,Nat.mul_add_div (by omega)];simp[Nat.div_eq_of_lt hj]
 have h2:(i*sz+j)%sz=j:=by
  rw[qD,Nat.mul_add_mod];exact CC hj
 simp[gD,hlt,h1,h2]
theorem iT.flat {I:Nat->Prop}{w:World}{sz:Nat}{es:List (List D)}{v:Value}{a:Option Addr}{c:Nat}{val:Nat->Nat->Value}(h:iT I w sz es v a c val){ad:Addr}(ha:a=some ad):
  ∀q u,(gD sz es.length val)[q]? =some u->w.cell? (ad.add q)=some u:=by
 intro q u hq;obtain⟨h1,h2,h3,h4,rfl⟩:=Ac hq;have he:es[q/sz]? =some es[q/sz]:=bL h3;have hl:es[q/sz].length=sz:=h.len _ (mD _);obtain⟨g1,g2⟩:=h.cell ad ha (q/sz) _ (q%sz) _ he (bL (by omega));obtain⟨aS,off,spot⟩:=ad;simp only at g1;subst g1;rw[add_plain];rw[Nat.add_assoc,qD,Nat.div_add_mod]at g2;exact g2
theorem iT.mono {I I':Nat->Prop}{w w':World}{sz:Nat}{es:List (List D)}{v:Value}{a:Option Addr}{c:Nat}{val:Nat->Nat->Value}(h:iT I w sz es v a c val)
  (hc:∀ad q u,a=some ad->w.cell? ⟨ad.block,q,none⟩=some u->w'.cell? ⟨ad.block,q,none⟩=some u) (hw:∀n,I n->w'.heap[n]? =w.heap[n]?) (hI:∀n,I n->I' n):iT I' w' sz es v a c val:=
 ⟨h.v,h.cap,h.max,h.zQ,λad ha i e j x he hx=>⟨(h.cell ad ha i e j x he hx).1,hc ad _ _ ha (h.cell ad ha i e j x he hx).2⟩,λi e j x he hx=>(h.rd i e j x he hx).mono hw hI,h.one,h.len⟩
structure Src (P:Program)(w:World)(u:TypeId)(size:Nat)(x:Value)(m:Nat)(news:List Value):Prop where
 kind:(∃e,P.underlying u=some (.slice e))\/P.underlying u=some .string
 len:(Builtin.lenOf x).run P w=.ok m w
 len':(Builtin.lenOf x).run P w.drew=.ok m w.drew
 cells:(Builtin.firstCells size m x).run P w=.ok news.toArray w
 Dg:(Builtin.firstCells size m x).run P w.drew=.ok news.toArray w.drew
 size:news.length=m*size
section
variable {P : Program} {w : World}
theorem S6 {t u ty e:TypeId}{i:TypeInfo}(ht:P.underlying t=some (.slice e))(hi:P.info? e=some i)
  {g off sLen sCap:Nat} {cur:Array Value} (hg:w.heap[g]? =some (.cells cur e (0,0))) {x:Value} {m:Nat} {news:List Value} (hs:Src P w u i.size x m news) (h1:∀u∈news,u.oneCell'=true)
  (hroom:sLen+m<=sCap) (hfit:sLen*i.size+news.length<=cur.size):
  (Builtin.append_ #[t,u] ty #[.slice (some ⟨g,0,none⟩) sLen sCap,x]).run P w=
    .ok (.slice (some ⟨g,0,none⟩) (sLen+m) sCap) (w.setRow g (cur.toList.take (sLen*i.size)++news++cur.toList.drop (sLen*i.size+news.length)).toArray):=by
 have hst:=run_storeCells_at P g (sLen*i.size) e news 0 cur w hg (by simpa using hfit) h1;simp only[uH]at hst;have hl:=hs.len;have hc:=hs.cells;rcases hs.kind with⟨_,hu⟩|hu<;>simp[Builtin.append_,bQ ht,bQ hu,sizeOf,typeInfo,hi,hl,hroom,hc,Addr.add_lit,hst]
theorem S5 {t u ty e:TypeId}{i:TypeInfo}(ht:P.underlying t=some (.slice e))(hi:P.info? e=some i)
  {b:Option Addr} {sLen sCap:Nat} {x:Value} (hs:Src P w u i.size x 0 []) (hroom:sLen<=sCap):
  (Builtin.append_ #[t,u] ty #[.slice b sLen sCap,x]).run P w=.ok (.slice b sLen sCap) w:=by
 have hl:=hs.len;have hc:=hs.cells;rcases hs.kind with⟨_,hu⟩|hu<;>cases b<;>simp[Builtin.append_,bQ ht,bQ hu,sizeOf,typeInfo,hi,hl,hroom,hc,storeCells]
theorem S7 {t u ty e:TypeId}{i:TypeInfo}{z:Value}(ht:P.underlying t=some (.slice e))(hi:P.info? e=some i)(hz:i.zero=some z)
  {b:Option Addr} {sLen sCap:Nat} {olds:List Value} (hlo:olds.length=sLen*i.size) (holds:(Builtin.firstCells i.size sLen (.slice b sLen sCap)).run P w.drew=.ok olds.toArray w.drew)
  {x:Value} {m:Nat} {news:List Value} (hs:Src P w u i.size x m news)
  (hg:sCap<sLen+m) (h63:((sLen+m:Nat):Int)<=9223372036854775807) (hfit:Builtin.nextslicecap (sLen+m) sCap*i.bytes<=281474976710656):
  (Builtin.append_ #[t,u] ty #[.slice b sLen sCap,x]).run P w=
    .ok (.slice (some ⟨w.heap.size,0,none⟩) (sLen+m) (grownCap w (sLen+m) sCap e))
     (w.drew.alloc (.cells (olds.toArray++news.toArray++Builtin.zeroCells z.cells (grownCap w (sLen+m) sCap e-(sLen+m))) e)):=by
 have hl:=hs.len;have hc:=hs.Dg;have hn:¬(sLen+m<=sCap):=by omega
 have h63':¬(9223372036854775807<((sLen:Int)+(m:Int))):=by omega
 have h48':¬(281474976710656<Builtin.nextslicecap (sLen+m) sCap*i.bytes):=by omega
 rcases hs.kind with⟨_,hu⟩|hu
 all_goals
  simp[Builtin.append_,bQ ht,bQ hu,sizeOf,typeInfo,zeroValue,hi,hz,hl,hn,h63',h48',Question.forced,hc,holds,newRow,grownCap]
  try(congr 2;apply Array.ext';simp[CH])
end
def rH (σ:Names)(m:Mem)(b:Option Nat)(n:Nat):Prop:=∃c k y,b=some c/\m c=some k/\σ c=some y/\hb y=some n
theorem cB.swap {σ:Names}{I:Nat->Prop}{w w':World}{m m':Mem}{nm:Nat}{x:Value}{k:aN}(b:Option Nat)(hib:∀n,I n->n<w.heap.size)(hm:RM σ I w m)(hσ:σ nm=none)
  (h1:w'.os=w.os) (h2:w'.tape=w.tape) (h3:lC w' w) (hs:w.heap.size<=w'.heap.size)
  (hfr:∀j,j<w.heap.size->¬rH σ m b j->w'.heap[j]? =w.heap[j]?) (hk:∀σ':Names,(∀b y,σ b=some y->σ' b=some y)->RB σ' I w' k x)
  (hx:∀n,hb x=some n->rH σ m b n\/(w.heap.size<=n/\n<w'.heap.size))
  (hm':∀c q,m' c=some q->(c=nm/\q=k)\/(c≠nm/\b≠some c/\m c=some q)):cB σ I w m nm (cN σ nm x) I w' m':=by
 have ext:∀b y,σ b=some y->cN σ nm x b=some y:=by
  intro b y h;unfold cN
  grind
 have upn:cN σ nm x nm=some x:=by simp[cN]
 have leadI:∀n,rH σ m b n->¬I n/\n<w.heap.size:=by
  rintro n ⟨c,q,y,_,g1,g2,g3⟩;obtain⟨y',hy',_,hn⟩:=hm.aS c q g1;simp_all
 have old:∀c q,c≠nm->b≠some c->m c=some q->∃y,σ c=some y/\cN σ nm x c=some y/\RB (cN σ nm x) I w' q y/\∀n,hb y=some n->n<w.heap.size/\¬I n/\¬rH σ m b n:=by
  intro c q hc hb hq;obtain⟨y,hy,hrb,hn⟩:=hm.aS c q hq;have hnl:∀n,AI.hb y=some n->¬rH σ m b n:=by
   rintro n h ⟨c',q',y',e,g1,g2,g3⟩;have:=hm.apart c c' q q' y y' n hq g1 hy g2 h g3;subst this;exact hb e
  refine⟨y,hy,ext _ _ hy,hrb.mono (λn h=>hfr n (hib n h) (λg=>(leadI n g).1 h)) (λ_ h=>h) ext (λn h=>hfr n (hn n h).1 (hnl n h)),λn h=>⟨(hn n h).1,(hn n h).2,hnl n h⟩⟩
 refine⟨h1,h2,h3,hs,ext,λc g1 g2=>?_,λ_ h=>h,λn h=>pD (hib n h) hs,λn h=>.inl h,λj hj hno=>hfr j hj (λg=>?_),⟨λc q hq=>?_,λc c' q q' y y' n g1 g2 g3 g4 g5 g6=>?_⟩,λc q hq=>?_,λn hn=>?_⟩
 ·by_cases e:c=nm
  ·subst e;exact⟨aY _,by omega⟩
  ·simp[cN,e,g1]at g2
 ·obtain⟨c,q,y,_,g1,g2,g3⟩:=g;exact hno ⟨c,q,y,g1,g2,g3⟩
 ·rcases hm' c q hq with⟨rfl,rfl⟩|⟨hc,hb,hq⟩
  ·refine⟨x,upn,hk _ ext,λn hn=>?_⟩;rcases hx n hn with g|⟨g1,g2⟩
   ·exact⟨pD (leadI n g).2 hs,(leadI n g).1⟩
   ·exact⟨g2,λh=>by have:=hib n h;omega⟩
  ·obtain⟨y,_,hy,hrb,hn⟩:=old c q hc hb hq;exact⟨y,hy,hrb,λn h=>⟨pD (hn n h).1 hs,(hn n h).2.1⟩⟩
 ·rcases hm' c q g1 with⟨rfl,rfl⟩|⟨hc,hb,hq⟩<;>rcases hm' c' q' g2 with⟨rfl,rfl⟩|⟨hc',hb',hq'⟩
  ·rfl
  ·obtain⟨u,_,hu,_,hun⟩:=old c' q' hc' hb' hq';rw[g4]at hu;cases hu;rw[upn]at g3;cases g3;rcases hx n g5 with g|⟨g,_⟩
   ·exact absurd g (hun n g6).2.2
   ·have:=(hun n g6).1;omega
  ·obtain⟨u,_,hu,_,hun⟩:=old c q hc hb hq;rw[g3]at hu;cases hu;rw[upn]at g4;cases g4;rcases hx n g6 with g|⟨g,_⟩
   ·exact absurd g (hun n g5).2.2
   ·have:=(hun n g5).1;omega
  ·obtain⟨u,hu0,hu,_,_⟩:=old c q hc hb hq;obtain⟨u',hu0',hu',_,_⟩:=old c' q' hc' hb' hq';rw[g3]at hu;cases hu;rw[g4]at hu';cases hu';exact hm.apart c c' q q' y y' n hq hq' hu0 hu0' g5 g6
 ·rcases hm' c q hq with⟨rfl,_⟩|⟨_,_,hq⟩
  ·exact .inr ⟨aY _,by omega⟩
  ·exact .inl (by simp[hq])
 ·obtain⟨c,q,y,g1,g2,g3⟩:=hn;rcases hm' c q g1 with⟨rfl,rfl⟩|⟨hc,hb,hq⟩
  ·rw[upn]at g2;cases g2;rcases hx n g3 with⟨c',q',y',_,p1,p2,p3⟩|⟨g,_⟩
   ·exact .inl ⟨c',q',y',p1,p2,p3⟩
   ·exact .inr g
  ·obtain⟨u,hu0,hu,_,_⟩:=old c q hc hb hq;rw[g2]at hu;cases hu;exact .inl ⟨c,q,y,hq,hu0,g3⟩
theorem u0 {σ:Names}{I:Nat->Prop}{w:World}{sz:Nat}{es:List (List D)}{T:TypeId}{n cap:Nat}{arr:Array Value}{vals:List Value}(hw:w.heap[n]? =some (.cells arr T (0,0)))(hcap:es.length<=cap)(hmax:cap<=maxLen)(hl:cap*sz<=arr.size)
  (hs:∀e∈es,e.length=sz) (hv:∀(q:Nat) (u:Value),vals[q]? =some u->arr[q]? =some u)
  (hr:∀(i:Nat) e (j:Nat) c,es[i]? =some e->e[j]? =some c->∃x,vals[i*sz+j]? =some x/\RD I w c x/\x.oneCell'=true):RB σ I w (.grow sz es T) (.slice (some ⟨n,0,none⟩) es.length cap):=
 .grow hw hl hcap hmax hs λi e j c he hc=>by
  obtain⟨x,h1,h2,h3⟩:=hr i e j c he hc;exact⟨x,hv _ _ h1,h2,h3⟩
def Cells (I:Nat->Prop)(w:World)(sz:Nat)(es:List (List D))(vals:List Value):Prop:=
 vals.length=es.length*sz/\(∀e∈es,e.length=sz)/\∀(i:Nat) e (j:Nat) c,es[i]? =some e->e[j]? =some c->∃x,vals[i*sz+j]? =some x/\RD I w c x/\x.oneCell'=true
theorem iT.cells {I:Nat->Prop}{w:World}{sz:Nat}{es:List (List D)}{v:Value}{a:Option Addr}{c:Nat}{val:Nat->Nat->Value}(h:iT I w sz es v a c val):Cells I w sz es (gD sz es.length val):=by
 refine⟨n5 _ _ _,h.len,λi e j x he hx=>?_⟩;have h1:i<es.length:=(cJ.1 he).1;have h2:j<sz:=by rw[<-h.len e (gI he)];exact(cJ.1 hx).1
 exact⟨_,MV h1 h2,h.rd i e j x he hx,h.one i e j x he hx⟩
theorem Cells.append {I:Nat->Prop}{w:World}{sz:Nat}{es fs:List (List D)}{xs ys:List Value}(h:Cells I w sz es xs)(g:Cells I w sz fs ys):Cells I w sz (es++fs) (xs++ys):=by
 obtain⟨h1,h2,h3⟩:=h;obtain⟨g1,g2,g3⟩:=g;refine⟨by simp[h1,g1,fU],λe he=>(fZ.1 he).elim (h2 e) (g2 e),λi e j c he hc=>?_⟩;by_cases hi:i<es.length
 ·grind
 ·rw[mF (by omega)]at he;obtain⟨x,p1,p2⟩:=g3 _ e j c he hc;refine⟨x,?_,p2⟩;have:es.length*sz<=i*sz:=mC sz (by omega);rw[mF (by omega),h1,show i*sz+j-es.length*sz=(i-es.length)*sz+j by rw[Nat.sub_mul];omega];exact p1
theorem Cells.mono {I I':Nat->Prop}{w w':World}{sz:Nat}{es:List (List D)}{xs:List Value}(h:Cells I w sz es xs)(hw:∀n,I n->w'.heap[n]? =w.heap[n]?)(hI:∀n,I n->I' n):Cells I' w' sz es xs:=
 ⟨h.1,h.2.1,λi e j c he hc=>let⟨x,p1,p2,p3⟩:=h.2.2 i e j c he hc;⟨x,p1,p2.mono hw hI,p3⟩⟩
theorem Cells.one {I:Nat->Prop}{w:World}{sz:Nat}{es:List (List D)}{xs:List Value}(h:Cells I w sz es xs):∀u∈xs,u.oneCell'=true:=by
 intro u hu;obtain⟨q,hq⟩:=List.mem_iff_getElem?.1 hu;have hlt:q<es.length*sz:=by have:=(cJ.1 hq).1;rwa[h.1]at this
 have hsz:0<sz:=by
  grind
 have h3:q/sz<es.length:=Nat.div_lt_of_lt_mul (by rwa[qD]);have h4:q%sz<sz:=Nat.mod_lt _ hsz;have hl:es[q/sz].length=sz:=h.2.1 _ (mD _);obtain⟨x,p1,_,p3⟩:=h.2.2 (q/sz) es[q/sz] (q%sz) (es[q/sz][q%sz]'(by omega)) (bL h3) (bL (by omega));rw[qD,Nat.div_add_mod,hq]at p1;cases p1;exact p3
def tR (sz:Nat)(E:TypeId)(mem:Mem):AV->Option (List (List D)×Bool×Option Nat)
 |.d (.v (.slice none 0 0))=>some ([],true,none)
 |.d (.ro true es)=>some (es,true,none)
 |.own b=>match mem b with
  |some (.grow z es T)=>if z=sz/\T=E then some (es,false,some b)else none
  |_=>none
 |.sl b z 0 len=>match mem b with
  |some (.grow z' es T)=>if z=sz/\z'=sz/\T=E/\len<=es.length then some (es.take len,false,some b)else none
  |_=>none
 |_=>none
def rS (s:ByteArray):List (List D):=s.toList.map λc=>[.v (.int .u8 c.toNat)]
def xZ (str:Bool)(sz:Nat)(mem:Mem)(x:AV):Option (List (List D)×List Nat):=
 if str then(if sz=1 then match x with
  |.d (.v (.string s))=>some (rS s,[])
  |_=>none else none)
 else uQ sz mem x
def tV (str:Bool)(sz bytes:Nat)(E:TypeId)(mem:Mem)(nm:Nat)(d s:AV):Option (Prop×aG):=
 match tR sz E mem d,xZ str sz mem s with
 |some (es0,full,b),some (es1,rd)=>
  some ((full=true->es0=[]\/es1≠[])/\gL es0 sz/\gL es1 sz/\(es0.length+es1.length)*bytes<=140737488355328,
   ⟨.own nm,rd,(nm,some (.grow sz (es0++es1) E))::b.toList.map λb=>(b,none)⟩)
 |_,_=>none
theorem QH (s:ByteArray):∀(n i:Nat) (r:List UInt8),s.size-i=n->ByteArray.toList.loop s i r=r.reverse++s.data.toList.drop i:=by
 intro n;induction n with
 |zero=>
  intro i r h;rw[ByteArray.toList.loop];have:s.data.toList.length<=i:=by simp;show s.size<=i;omega
  simp[show¬i<s.size by omega,GJ this]
 |succ n ih=>
  intro i r h;rw[ByteArray.toList.loop];have hi:i<s.size:=by omega
  rw[bA hi,ih (i+1) _ (by omega)];have hd:s.data.toList.drop i=s.get! i::s.data.toList.drop (i+1):=by
   rw[qF (by simpa using hi)];have:i<s.data.size:=hi;rw[show s.get! i=s.data[i]! from rfl,uC s.data i this];simp
  rw[hd];simp
theorem F1 (s:ByteArray):s.toList=s.data.toList:=by
 rw[ByteArray.toList,QH s _ 0 [] rfl];simp
theorem Bu {σ:Names}{I:Nat->Prop}{w:World}{sz:Nat}{E:TypeId}{mem mr:Mem}{x:AV}{v:Value}{es:List (List D)}{full:Bool}{b:Option Nat}(h:tR sz E mem x=some (es,full,b))(hs:∀e∈es,e.length=sz)(hv:RV σ I w x v)
  (hm:RM σ I w mr) (hr:∀c,b=some c->∀k,mem c=some k->mr c=some k):
  ∃a c val,iT I w sz es v a c val/\(full=true->c=es.length)/\
   (full=false->c=0\/∃g arr,a=some ⟨g,0,none⟩/\w.heap[g]? =some (.cells arr E (0,0))/\c*sz<=arr.size/\rH σ mr b g):=by
 unfold tR at h;split at h
 ·cases h;rw[cH hv];exact⟨_,_,_,.nil,λ_=>rfl,λh=>by cases h⟩
 ·cases h;cases hv with
  |d hv=>
   cases hv with
   |nil=>exact⟨_,_,_,.nil,λ_=>rfl,λh=>by cases h⟩
   |emp=>exact⟨_,_,_,.emp _,λ_=>rfl,λh=>by cases h⟩
   |ro val hI hsz hcap hmax hfc hc hr' h1=>
    obtain⟨a,c,val',hl⟩:=LF hs (RD.ro val hI hsz hcap hmax hfc hc hr' h1);have:=hl.v
    grind
 ·rename_i b';split at h
  ·rename_i z es' T hb;split at h
   ·rename_i hz;obtain⟨rfl,rfl⟩:=hz;cases h;have hb':=hr b' rfl _ hb;obtain⟨a,c,val,hl⟩:=LG hm hb' hv;refine⟨a,c,val,hl,(λh=>by cases h),λ_=>?_⟩;obtain⟨y,hy,hrb⟩:=hm.grow hb';cases hv with
    |own h' _=>
     rw[hy]at h';cases h';have hlv:=hl.v;rcases hrb with⟨rfl,rfl⟩|⟨a',rfl,rfl⟩|⟨n,cap,arr,rfl,g1,g2,g3,g4,g5,g6⟩
     ·cases hlv;exact .inl rfl
     ·cases hlv;exact .inl rfl
     ·simp only[Value.slice.injEq]at hlv;obtain⟨rfl,_,rfl⟩:=hlv;rcases mX cap with h0|h0
      ·exact .inl h0
      ·exact .inr ⟨n,arr,rfl,g1,g2,b',_,_,rfl,hb',hy,mR h0⟩
   ·cases h
  ·cases h
 ·rename_i b' z len;split at h
  ·rename_i z' es' T hb;split at h
   ·rename_i hz;obtain⟨rfl,rfl,rfl,hle⟩:=hz;cases h;have hb':=hr b' rfl _ hb;have hl:=EF hm hb' (i:=0) (len:=len) (by omega) hv;simp at hl;obtain⟨a,c,val,hl⟩:=hl;refine⟨a,c,val,hl,(λh=>by cases h),λ_=>?_⟩;obtain⟨y,hy,hrb⟩:=hm.grow hb';cases hv with
    |sl h' hs'=>
     rw[hy]at h';cases h';have hlv:=hl.v;cases hs' with
     |nil=>cases hlv;exact .inl rfl
     |none a'=>
      simp only[Value.slice.injEq]at hlv;exact .inl hlv.2.2.symm
     |some hc hl'=>
      rename_i n L cap c';simp at hlv;obtain⟨rfl,_,rfl⟩:=hlv;rcases hrb with⟨e,_⟩|⟨a',e,rfl⟩|⟨n',cap',arr,e,g1,g2,g3,g4,g5,g6⟩
      ·cases e
      ·cases e;exact .inl (by omega)
      ·cases e;rcases mX cap with h0|h0
       ·exact .inl (by omega)
       ·exact .inr ⟨n,arr,rfl,g1,cD (mC _ (by omega)) g2,b',_,_,rfl,hb',hy,mR h0⟩
   ·cases h
  ·cases h
 ·cases h
theorem iT.src {I:Nat->Prop}{P:Program}{w:World}{sz:Nat}{es:List (List D)}{v:Value}{a:Option Addr}{c:Nat}{val:Nat->Nat->Value}(h:iT I w sz es v a c val){u:TypeId}{e:TypeId}(hu:P.underlying u=some (.slice e)):
  Src P w u sz v es.length (gD sz es.length val):=by
 have hv:=h.v;subst hv;cases a with
 |none=>
  obtain⟨rfl,rfl⟩:=h.zQ rfl;refine⟨.inl ⟨_,hu⟩,by simp[Builtin.lenOf],by simp[Builtin.lenOf],?_,?_,n5 _ _ _⟩<;>simp[Builtin.firstCells,gD]
 |some ad=>
  refine⟨.inl ⟨_,hu⟩,by simp[Builtin.lenOf],by simp[Builtin.lenOf],run_firstCells_some w sz _ ad _ _ _ (n5 _ _ _) (h.flat rfl),run_firstCells_some w.drew sz _ ad _ _ _ (n5 _ _ _) (by simpa using h.flat rfl),n5 _ _ _⟩
theorem Q5 {P:Program}{w:World}{u:TypeId}(hu:P.underlying u=some .string)(s:ByteArray):Src P w u 1 (.string s) s.size (s.toList.map λc=>.int .u8 c.toNat):=by
 have key:((s.extract 0 s.size).data.map λb=>Value.int .u8 b.toNat)=(s.toList.map λc=>Value.int .u8 (c.toNat:Int)).toArray:=by
  apply Array.ext';have:s.extract 0 s.size=s:=by simp
  simp[F1]
 refine⟨.inr hu,by simp[Builtin.lenOf],by simp[Builtin.lenOf],?_,?_,by simp[F1]⟩<;>
 ·simp only[Builtin.firstCells];rw[key];simp
theorem Df {I:Nat->Prop}{w:World}(s:ByteArray):Cells I w 1 (rS s) (s.toList.map λc=>.int .u8 c.toNat):=by
 refine⟨by simp[rS],λe he=>?_,λi e j c he hc=>?_⟩
 ·simp only[rS,dV]at he;obtain⟨_,_,rfl⟩:=he;rfl
 ·simp only[rS,fN]at he;cases hq:s.toList[i]? with
  |none=>simp[hq]at he
  |some q=>
   simp only[hq,lF,mV]at he;subst he;cases j with
   |zero=>
    simp at hc;subst hc;exact⟨.int .u8 q.toNat,by simp[hq],.v _,rfl⟩
   |succ j=>simp at hc
theorem QQ (s:ByteArray):(rS s).length=s.size:=by
 simp[rS,F1]
theorem DV {P:Program}{o:Oper}{c:Call}(ho:o.op=.call c)(hc:c.callee=.builtin .append)(tm:Nat->AV)(mem:Mem)(nm:Nat){T U:TypeId}(hT:c.argTypes=#[T,U]){x y:Operand}(hx:c.args=#[x,y])
  {E:TypeId} {ti te:TI} (hti:aH P T=some ti) (hk:ti.k=.dA E) (hte:aH P E=some te) (hb0:0<te.bytes) (hz0:te.zero.length=te.sz) {str:Bool} (hU:if str then P.underlying U=some .string else∃e,P.underlying U=some (.slice e)) {sc:Prop} {e:aG}
  (he:tV str te.sz te.bytes E mem nm (ev tm x) (ev tm y)=some (sc,e)) (hsc:sc):aO P o tm (e.mr mem) nm e.res (e.mw mem):=by
 unfold tV at he;split at he
 case h_2=>cases he
 rename_i es0 full b es1 rd hd hs;cases he;obtain⟨s1,s2,s3,s4⟩:=hsc;refine aO.val λa w σ I hib hop hm hfree=>?_;have hfr:σ nm=none:=hfree nm ⟨aY _,by omega⟩;have hvx:=bO (σ:=σ) (I:=I) (w:=w) (tm:=tm) (a:=a) (x:=x) λs e=>hop s (by subst e;simp[ho,Op.operands,Call.operands,hx]);have hvy:=bO (σ:=σ) (I:=I) (w:=w) (tm:=tm) (a:=a) (x:=y) λs e=>hop s (by subst e;simp[ho,Op.operands,Call.operands,hx]);obtain⟨d,hdr,hdu,hkd⟩:=DF (w:=w) hti;have hdE:d=.slice E:=by
  rw[hk]at hkd;cases d<;>simp[eC]at hkd<;>simp[hkd]
 subst hdE;obtain⟨i,de,z,hi,hde,hz,hte'⟩:=fG hte;have e_sz:i.size=te.sz:=by rw[hte']
 have e_by:i.bytes=te.bytes:=by rw[hte']
 have e_z:z.cells.size=te.sz:=by
  rw[hte']at hz0;simp at hz0;rw[hz0,<-e_sz]
 have hmr:∀c,b=some c->∀k,mem c=some k->(aG.mk (.own nm) rd ((nm,some (.grow te.sz (es0++es1) E))::b.toList.map λb=>(b,none))).mr mem c=some k:=by
  rintro c rfl k hk;refine aG.eZ hk (.inr ?_);simp only[Option.toList_some,fM,qE,wrote];split<;>simp
 have hrd:∀c∈rd,∀k,mem c=some k->(aG.mk (.own nm) rd ((nm,some (.grow te.sz (es0++es1) E))::b.toList.map λb=>(b,none))).mr mem c=some k:=λc hc k hk=>aG.eZ hk (.inl hc);obtain⟨a0,c0,val0,hl0,hfull,hroom⟩:=Bu hd s2 hvx hm hmr;obtain⟨news,hsrc,hcel⟩:∃news,Src P w U te.sz (a.eval y) es1.length news/\Cells I w te.sz es1 news:=by
  unfold xZ at hs;split at hs
  ·rename_i hstr;rw[bA hstr]at hU;split at hs
   ·rename_i h1;split at hs
    ·rename_i s hy;cases hs;rw[hy]at hvy;rw[cH hvy,h1];rw[QQ];exact⟨_,Q5 hU s,Df s⟩
    ·cases hs
   ·cases hs
  ·rename_i hstr;rw[aR hstr]at hU;obtain⟨eU,hU⟩:=hU;obtain⟨a1,c1,val1,hl1⟩:=HG hs s3 hvy hm hrd;exact⟨_,hl1.src hU,hl1.cells⟩
 have hbound:es0.length+es1.length<=140737488355328:=cD (Nat.le_mul_of_pos_right _ hb0) s4;have hmx:es0.length+es1.length<=maxLen:=by simp only[maxLen];omega
 have hcells0:=hl0.cells
 have hmwm:∀c q,(aG.mk (.own nm) rd ((nm,some (.grow te.sz (es0++es1) E))::b.toList.map λb=>(b,none))).mw mem c=some q->
   (c=nm/\q=.grow te.sz (es0++es1) E)\/(c≠nm/\b≠some c/\(aG.mk (.own nm) rd ((nm,some (.grow te.sz (es0++es1) E))::b.toList.map λb=>(b,none))).mr mem c=some q):=by
  intro c q h;simp only[aG.mw,wrote]at h;by_cases h1:nm=c
  ·subst h1;simp at h;exact .inl ⟨rfl,h.symm⟩
  ·rw[aR h1]at h;cases b with
   |none=>
    simp only[Option.toList_none,qE,wrote]at h;split at h
    ·rename_i hc;exact .inr ⟨mW h1,(λh=>by cases h),aG.eZ h (.inl hc)⟩
    ·cases h
   |some b'=>
    simp only[Option.toList_some,fM,qE,wrote]at h;by_cases h2:b'=c
    ·simp[h2]at h
    ·simp only[h2,j5]at h;split at h
     ·rename_i hc;exact .inr ⟨mW h1,(λh=>by cases h;exact h2 rfl),aG.eZ h (.inl hc)⟩
     ·cases h
 have fin:∀v w',(Builtin.append_ #[T,U] o.type #[a.eval x,a.eval y]).run P w=.ok v w'->w'.os=w.os->w'.tape=w.tape->lC w' w->w.heap.size<=w'.heap.size->
   (∀j,j<w.heap.size->¬rH σ ((aG.mk (.own nm) rd ((nm,some (.grow te.sz (es0++es1) E))::b.toList.map λb=>(b,none))).mr mem) b j->w'.heap[j]? =w.heap[j]?)->
   (∀σ',RB σ' I w' (.grow te.sz (es0++es1) E) v)->v.oneCell'=true->
   (∀n,hb v=some n->rH σ ((aG.mk (.own nm) rd ((nm,some (.grow te.sz (es0++es1) E))::b.toList.map λb=>(b,none))).mr mem) b n\/(w.heap.size<=n/\n<w'.heap.size))->
   ∃v w' σ' I',(execOp a.eval o).run P w=.ok (.value v) w'/\cB σ I w ((aG.mk (.own nm) rd ((nm,some (.grow te.sz (es0++es1) E))::b.toList.map λb=>(b,none))).mr mem) nm σ' I' w'
    ((aG.mk (.own nm) rd ((nm,some (.grow te.sz (es0++es1) E))::b.toList.map λb=>(b,none))).mw mem)/\RV σ' I' w' (.own nm) v:=by
  intro v w' h1 p1 p2 p3 p4 p5 p6 p6' p7;refine⟨v,w',cN σ nm v,I,?_,cB.swap b hib hm hfr p1 p2 p3 p4 p5 (λσ' _=>p6 σ') p7 hmwm,.own (by simp[cN]) p6'⟩;simp[execOp,ho,resolve,hc,invoke,builtin,hT,hx,h1]
 have hlv:=hl0.v;rw[hlv]at fin;by_cases hnone:es1.length=0/\(c0=0\/full=false)
 ·obtain⟨h1,hcz⟩:=hnone;have he1:es1=[]:=gX h1;subst he1;have hn0:news=[]:=gX (by rw[hsrc.size];simp);subst hn0;have hrun:=S5 (P:=P) (w:=w) (t:=T) (u:=U) (ty:=o.type) hdu hi (b:=a0) (sLen:=es0.length) (sCap:=c0) (x:=a.eval y) (by rw[e_sz];exact hsrc) hl0.cap;refine fin _ w hrun rfl rfl ⟨rfl,aY _⟩ (aY _) (λ_ _ _=>rfl) (λσ'=>?_) rfl (λn hn=>?_)
  ·simp only[yL];rcases mX c0 with h0|h0
   ·have:es0=[]:=gX (by have:=hl0.cap;omega);subst this;subst h0;cases a0 with
    |none=>exact .none
    |some a0=>exact .emp a0
   ·have hf:full=false:=by rcases hcz with h|h;omega;exact h
    rcases hroom hf with h|⟨g,arr,rfl,g1,g2,g3⟩
    ·omega
    ·refine u0 (vals:=gD te.sz es0.length val0) g1 hl0.cap hl0.max g2 hcells0.2.1 (λq u hq=>?_) hcells0.2.2;have:=hl0.flat rfl q u hq
     rwa[add_plain,rK,rF g1]at this
  ·rcases mX c0 with h0|h0
   ·subst h0;cases a0<;>cases hn
   ·have hf:full=false:=by rcases hcz with h|h;omega;exact h
    rcases hroom hf with h|⟨g,arr,rfl,g1,g2,g3⟩
    ·omega
    ·rw[mR h0]at hn;cases hn;exact .inl g3
 by_cases hin:es0.length+es1.length<=c0/\full=false
 ·obtain⟨hin,hf⟩:=hin;rcases hroom hf with h|⟨g,arr,rfl,g1,g2,g3⟩
  ·exfalso;apply hnone;exact⟨by omega,.inl h⟩
  ·have hfit:es0.length*i.size+news.length<=arr.size:=by
    rw[hsrc.size,e_sz,<-fU];exact cD (mC _ hin) g2
   have hrun:=S6 (P:=P) (w:=w) (t:=T) (u:=U) (ty:=o.type) hdu hi (g:=g) (off:=0) (sLen:=es0.length) (sCap:=c0) (cur:=arr) g1 (x:=a.eval y) (m:=es1.length) (news:=news) (by rw[e_sz];exact hsrc) hcel.one hin hfit;have hc0:0<c0:=by
    rcases mX c0 with h|h
    ·exfalso;apply hnone;exact⟨by omega,.inl h⟩
    ·exact h
   have hgI:¬I g:=by
    obtain⟨c',q',y',_,p1,p2,p3⟩:=g3;obtain⟨y'',hy'',_,hn⟩:=hm.aS c' q' p1;rw[p2]at hy'';cases hy'';exact(hn g p3).2
   refine fin _ _ hrun rfl rfl ⟨rfl,aY _⟩ (by simp) (λj _ hj=>uA w g j _ (λe=>hj (e▸g3))) (λσ'=>?_) rfl (λn hn=>?_)
   ·have hv0:∀q u,(gD te.sz es0.length val0)[q]? =some u->arr[q]? =some u:=λq u hq=>by
     have:=hl0.flat rfl q u hq
     rwa[add_plain,rK,rF g1]at this
    have htake:arr.toList.take (es0.length*i.size)=gD te.sz es0.length val0:=by
     rw[e_sz];apply yJ;intro q;have hll:(gD te.sz es0.length val0).length=es0.length*te.sz:=n5 _ _ _;by_cases hq:q<es0.length*te.sz
     ·rw[GH hq];have:=hv0 q _ (bL (by rw[hll];exact hq));rw[bL (show q<(gD te.sz es0.length val0).length by rw[hll];exact hq),<-this];simp
     ·rw[CF (by rw[sN];omega),CF (by omega)]
    have hsum:(es0++es1).length=es0.length+es1.length:=by simp
    have hcc:Cells I (w.setRow g (arr.toList.take (es0.length*i.size)++news++arr.toList.drop (es0.length*i.size+news.length)).toArray) te.sz (es0++es1) (gD te.sz es0.length val0++news):=
     (hcells0.append hcel).mono (λn hn=>uA w g n _ (λe=>hgI (e▸hn))) (λ_ h=>h)
    rw[<-hsum];refine u0 (vals:=gD te.sz es0.length val0++news) (setRow_heap w g arr _ E _ g1) (by omega) hl0.max ?_ hcc.2.1 (λq u hq=>?_) hcc.2.2
    ·simp only[vU,oK,sN,vX,Array.length_toList];omega
    ·rw[htake,yI,lS]
     ·exact hq
     ·exact(cJ.1 hq).1
   ·rw[mR hc0]at hn;cases hn;exact .inl g3
 ·
  have hg:c0<es0.length+es1.length:=by
   cases hf:full with
   |false=>simp[hf]at hin;omega
   |true=>
    have:=hfull hf;rcases s1 hf with h|h
    ·subst h;simp only[j6]at this⊢;have:es1.length≠0:=λh=>hnone ⟨h,.inl this⟩;omega
    ·have:0<es1.length:=CD.2 h;omega
  have holds:(Builtin.firstCells i.size es0.length (.slice a0 es0.length c0)).run P w.drew=.ok (gD te.sz es0.length val0).toArray w.drew:=by
   rw[e_sz];cases a0 with
   |none=>
    obtain⟨rfl,rfl⟩:=hl0.zQ rfl;simp[Builtin.firstCells,gD]
   |some ad=>exact run_firstCells_some w.drew te.sz _ ad _ _ _ (n5 _ _ _) (by simpa using hl0.flat rfl)
  have hrun:=S7 (P:=P) (w:=w) (t:=T) (u:=U) (ty:=o.type) hdu hi hz (b:=a0) (sLen:=es0.length) (sCap:=c0) (olds:=gD te.sz es0.length val0) (by rw[e_sz];exact n5 _ _ _) holds (x:=a.eval y) (m:=es1.length) (news:=news)
   (by rw[e_sz];exact hsrc) hg (by omega) (growslice_fits hg (by rw[e_by];exact s4))
  refine fin _ _ hrun rfl rfl ⟨rfl,Nat.le_succ _⟩ (by simp) (λj hj _=>pB w.drew _ hj) (λσ'=>?_) rfl (λn hn=>?_)
  ·have hsum:(es0++es1).length=es0.length+es1.length:=by simp
   have hge:=grownCap_ge w (es0.length+es1.length) c0 E;have hcc:Cells I (w.drew.alloc (.cells ((gD te.sz es0.length val0).toArray++news.toArray++Builtin.zeroCells z.cells (grownCap w (es0.length+es1.length) c0 E-(es0.length+es1.length))) E)) te.sz (es0++es1) (gD te.sz es0.length val0++news):=
    (hcells0.append hcel).mono (λn hn=>pB w.drew _ (hib n hn)) (λ_ h=>h)
   have hres:=u0 (σ:=σ') (vals:=gD te.sz es0.length val0++news) (T:=E) (cap:=grownCap w (es0.length+es1.length) c0 E) (uB w.drew (.cells ((gD te.sz es0.length val0).toArray++news.toArray++Builtin.zeroCells z.cells (grownCap w (es0.length+es1.length) c0 E-(es0.length+es1.length))) E)) (by rw[hsum];exact hge) (grownCap_le_maxLen w _ _ _ hmx) ?_ hcc.2.1 (λq u hq=>?_) hcc.2.2
   ·rw[hsum]at hres;exact hres
   ·simp only[Array.size_append,vU,size_zeroCells,e_z,n5,hsrc.size];rw[<-fU,<-fU];exact mC _ (by omega)
   ·have hlt:=(cJ.1 hq).1;rw[Array.getElem?_append_left (by simpa using hlt)];simpa using hq
  ·have:0<grownCap w (es0.length+es1.length) c0 E:=by have:=grownCap_ge w (es0.length+es1.length) c0 E;omega
   rw[mR this]at hn;cases hn;exact .inr ⟨aY _,by simp⟩
def k7 (m:Option Int)(cap:Nat):Nat:=
 match m with
 |some m=>m.toNat
 |none=>cap
@[simp] theorem mN (m:Int)(cap:Nat):k7 (some m) cap=m.toNat:=rfl
@[simp] theorem zZ (cap:Nat):k7 none cap=cap:=rfl
def tG :Option AV->Option (Option Int)
 |none=>some none
 |some (.d (.v (.int _ n)))=>some (some n)
 |_=>none
def vJ (l h:Int)(m:Option Int)(len:Nat):Prop:=0<=l/\l<=h/\h<=len/\(match m with|some m=>h<=m/\m<=len|none=>True)
def wJ (k:K)(sz:Nat)(mem:Mem)(x:AV)(lo hi mx:Option AV):Option (Prop×aG):=
 match tG lo,tG hi,tG mx with
 |some lo,some hi,some mx=>
  match k,x with
  |.str,.d (.v (.string s))=>if mx=none then some (0<=lo.getD 0/\lo.getD 0<=hi.getD s.size/\hi.getD s.size<=s.size,⟨.d (.v (.string (s.extract (lo.getD 0).toNat (hi.getD s.size).toNat))),[],[]⟩)else none
  |.dA _,.d (.v (.slice none 0 0))=>some (vJ (lo.getD 0) (hi.getD ((0:Nat):Int)) mx 0,⟨.d (.v (.slice none 0 0)),[],[]⟩)
  |.dA _,.d (.ro fc es)=>some (vJ (lo.getD 0) (hi.getD es.length) mx es.length/\gL es sz,
    ⟨.d (.ro (match mx with|some m=>decide (m=hi.getD es.length)|none=>fc&&decide (hi.getD es.length=es.length)) ((es.take (hi.getD es.length).toNat).drop (lo.getD 0).toNat)),[],[]⟩)
  |.dA _,.own b=>match mem b with
   |some (.grow z es _)=>if z=sz then some (vJ (lo.getD 0) (hi.getD es.length) mx es.length,⟨.sl b sz (lo.getD 0).toNat ((hi.getD es.length).toNat-(lo.getD 0).toNat),[b],[]⟩)else none
   |_=>none
  |.dA _,.sl b z i len=>if z=sz then some (vJ (lo.getD 0) (hi.getD len) mx len,⟨.sl b sz (i+(lo.getD 0).toNat) ((hi.getD len).toNat-(lo.getD 0).toNat),[],[]⟩)else none
  |_,_=>none
 |_,_,_=>none
theorem EX {σ:Names}{I:Nat->Prop}{w:World}{x:Option AV}{n:Option Int}(h:tG x=some n){v:Option Value}(hn:x=none↔v=none)(hv:∀a b,x=some a->v=some b->RV σ I w a b):
  (n=none/\v=none)\/∃k i,n=some i/\v=some (.int k i):=by
 unfold tG at h;split at h
 ·simp_all
 ·rename_i k i;cases h;cases v with
  |none=>have:=hn.2 rfl;cases this
  |some v=>exact .inr ⟨k,i,rfl,by rw[cH (hv _ _ rfl rfl)]⟩
 ·cases h
theorem qN {P:Program}{w:World}{k:IntKind}{i:Int}{y:Nat}{code:BoundsCode}(h0:0<=i)(h1:i<=y):(Instr.sliceBound (.int k i) y code).run P w=.ok i.toNat w:=by
 simp[Instr.sliceBound,asIntOf,h0,h1]
theorem oN {P:Program}{w:World}{isS:Bool}{len cap:Nat}{lo hi mx:Option Int}{vl vh vm:Option Value}(hl:(lo=none/\vl=none)\/∃k i,lo=some i/\vl=some (.int k i))(hh:(hi=none/\vh=none)\/∃k i,hi=some i/\vh=some (.int k i))
  (hm:(mx=none/\vm=none)\/∃k i,mx=some i/\vm=some (.int k i)) (hb:vJ (lo.getD 0) (hi.getD len) mx len) (hmh:mx≠none->hi≠none) (hc:len<=cap):
  (Instr.sliceBounds isS len cap vl vh vm).run P w=.ok ((lo.getD 0).toNat,(hi.getD len).toNat,k7 mx cap) w:=by
 obtain⟨b1,b2,b3,b4⟩:=hb;unfold Instr.sliceBounds;rcases hm with⟨rfl,rfl⟩|⟨km,m,rfl,rfl⟩
 ·rcases hh with⟨rfl,rfl⟩|⟨kh,h,rfl,rfl⟩
  ·rcases hl with⟨rfl,rfl⟩|⟨kl,l,rfl,rfl⟩
   ·simp
   ·simp at b1 b2 b3;simp only[bV,gW,cC,qN b1 b2];simp
  ·simp at b2 b3;rcases hl with⟨rfl,rfl⟩|⟨kl,l,rfl,rfl⟩
   ·simp at b1 b2;simp only[bV,gW,cC,qN (y:=cap) b2 (by omega)];simp
   ·simp at b1 b2;simp only[bV,gW,cC,qN (y:=cap) (i:=h) (by omega) (by omega),qN (y:=h.toNat) b1 (by omega)];simp
 ·rcases hh with⟨rfl,rfl⟩|⟨kh,h,rfl,rfl⟩
  ·exact absurd rfl (hmh (by simp))
  ·simp at b2 b3 b4;rcases hl with⟨rfl,rfl⟩|⟨kl,l,rfl,rfl⟩
   ·simp at b1 b2;simp only[bV,cC,qN (y:=cap) (i:=m) (by omega) (by omega),qN (y:=m.toNat) (i:=h) (by omega) (by omega)];simp
   ·simp at b1 b2;simp only[bV,cC,qN (y:=cap) (i:=m) (by omega) (by omega),qN (y:=m.toNat) (i:=h) (by omega) (by omega),qN (y:=h.toNat) b1 (by omega)];simp
theorem mH {P:Program}{T:TypeId}{ti:TI}(hT:aH P T=some ti){E:TypeId}(hk:ti.k=.dA E):P.underlying T=some (.slice E):=by
 obtain⟨i,d,z,hi,hd,hz,rfl⟩:=fG hT;rw[hd];simp only at hk;cases d<;>simp[eC]at hk<;>simp[hk]
theorem wG {P:Program}{T:TypeId}{ti:TI}(hT:aH P T=some ti)(hk:ti.k=.str):P.underlying T=some .string:=by
 obtain⟨i,d,z,hi,hd,hz,rfl⟩:=fG hT;rw[hd];simp only at hk;cases d<;>simp[eC]at hk<;>rfl
theorem ok_slice {P:Program}{o:Oper}{T:TypeId}{x:Operand}{lo hi mx:Option Operand}(ho:o.op=.slice T x lo hi mx)(hmh:mx≠none->hi≠none)(tm:Nat->AV)(mem:Mem)(nm:Nat){ti:TI}(hT:aH P T=some ti){sz:Nat}
  (hE:∀E,ti.k=.dA E->∃te,aH P E=some te/\te.sz=sz) {sc:Prop} {e:aG} (he:wJ ti.k sz mem (ev tm x) (lo.map (ev tm)) (hi.map (ev tm)) (mx.map (ev tm))=some (sc,e)) (hsc:sc):aO P o tm (e.mr mem) nm e.res (e.mw mem):=by
 unfold wJ at he;split at he
 case h_2=>cases he
 rename_i lo' hi' mx' el eh em;have hwr:e.wr=[]:=by
  grind
 have hmw:e.mw mem=e.mr mem:=by
  obtain⟨r,rd,wr⟩:=e;simp only at hwr;subst hwr;exact aG.mO _ _ _
 rw[hmw];refine aO.pure λa w σ I h hm=>?_;have hx:=bO (σ:=σ) (I:=I) (w:=w) (tm:=tm) (a:=a) (x:=x) λs e=>h s (by simp[ho,Op.operands,e]);have il:=EX (σ:=σ) (I:=I) (w:=w) el (v:=lo.map a.eval) (by cases lo<;>simp) (λp q hp hq=>by
  cases lo with
  |none=>cases hp
  |some y=>simp at hp hq;subst hp;subst hq;exact bO λs e=>h s (by simp[ho,Op.operands,e]))
 have ih:=EX (σ:=σ) (I:=I) (w:=w) eh (v:=hi.map a.eval) (by cases hi<;>simp) (λp q hp hq=>by
  cases hi with
  |none=>cases hp
  |some y=>simp at hp hq;subst hp;subst hq;exact bO λs e=>h s (by simp[ho,Op.operands,e]))
 have im:=EX (σ:=σ) (I:=I) (w:=w) em (v:=mx.map a.eval) (by cases mx<;>simp) (λp q hp hq=>by
  cases mx with
  |none=>cases hp
  |some y=>simp at hp hq;subst hp;subst hq;exact bO λs e=>h s (by simp[ho,Op.operands,e]))
 have hmh':mx'≠none->hi'≠none:=by
  intro h1 h2;have:mx≠none:=by
   rintro rfl;simp[tG]at em;exact h1 em.symm
  have hh:=hmh this;cases hi with
  |none=>exact hh rfl
  |some y=>
   rcases ih with⟨_,h⟩|⟨_,_,h,_⟩
   ·cases h
   ·rw[h2]at h;cases h
 have fin:∀v,(Instr.sliceAt T (a.eval x) (lo.map a.eval) (hi.map a.eval) (mx.map a.eval)).run P w=.ok v w->RV σ I w e.res v->∃v,(execOp a.eval o).run P w=.ok (.value v) w/\RV σ I w e.res v:=
  λv h1 h2=>⟨v,by simp[execOp,ho,h1],h2⟩
 revert he hx fin hm;generalize ev tm x=A;intro he hm hx fin;split at he
 ·rename_i s hk;split at he
  ·rename_i hmx;cases he;subst hmx;obtain⟨c1,c2,c3⟩:=hsc;rw[cH hx]at fin;refine fin _ ?_ (.d (.v _));have hm0:mx.map a.eval=none:=by
    rcases im with⟨_,h⟩|⟨_,_,h,_⟩
    ·exact h
    ·cases h
   have hu:=wG hT hk;have hbb:=oN (P:=P) (w:=w) (isS:=false) (len:=s.size) (cap:=s.size) il ih (mx:=none) (vm:=none) (.inl ⟨rfl,rfl⟩) ⟨c1,c2,c3,trivial⟩ (λh=>absurd rfl h) (aY _);simp only[Instr.sliceAt,Instr.slice,bV,bQ hu,cC,hm0];simp[hbb]
  ·cases he
 ·rename_i E hk;cases he;have hbb:=oN (P:=P) (w:=w) (isS:=true) (len:=0) (cap:=0) il ih im hsc hmh' (aY _);have hu:=mH hT hk;obtain⟨te,hte,rfl⟩:=hE _ hk;rw[cH hx]at fin;obtain⟨b1,b2,b3,b4⟩:=hsc;refine fin (.slice none 0 0) ?_ (.d (.v _));simp only[Instr.sliceAt,Instr.slice,bV,bQ hu,cC,hbb,lV hte,gW];congr 2
  ·simp
  ·have:(hi'.getD ↑(0:Nat)).toNat=0:=by omega
   omega
  ·cases mx' with
   |none=>simp
   |some m=>simp only[mN]at b4⊢;omega
 ·rename_i E fc es hk;cases he;obtain⟨hbd,hss⟩:=hsc;have hu:=mH hT hk;obtain⟨te,hte,rfl⟩:=hE _ hk;obtain⟨b1,b2,b3,b4⟩:=id hbd;have hle:((es.take (hi'.getD es.length).toNat).drop (lo'.getD 0).toNat).length=(hi'.getD es.length).toNat-(lo'.getD 0).toNat:=by
   rw[vX,sN];omega
  have emp0:es=[]->∀v,(v=.slice none 0 0\/∃a,v=.slice (some a) 0 0)->∀fc',RV σ I w (.d (.ro fc' ((es.take (hi'.getD es.length).toNat).drop (lo'.getD 0).toNat))) v:=by
   rintro rfl v hv fc';simp only[List.take_nil,List.drop_nil];rcases hv with rfl|⟨a,rfl⟩
   ·exact .d .nil
   ·exact .d .emp
  cases hx with
  |d hx=>
   generalize hy:a.eval x=y at hx fin;cases hx with
   |nil=>
    have hbb:=oN (P:=P) (w:=w) (isS:=true) (len:=0) (cap:=0) il ih im hbd hmh' (aY _);refine fin (.slice none 0 0) ?_ (emp0 rfl _ (.inl rfl) _);simp only[j6]at b3 b4 b2;simp only[Instr.sliceAt,Instr.slice,bV,bQ hu,cC,hbb,lV hte,gW];congr 2
    ·simp
    ·omega
    ·cases mx' with
     |none=>simp
     |some m=>simp only[mN]at b4⊢;omega
   | @emp _ ad=>
     have hbb:=oN (P:=P) (w:=w) (isS:=true) (len:=0) (cap:=0) il ih im hbd hmh' (aY _);simp only[j6]at b3 b4 b2;refine fin (.slice (some ad) 0 0) ?_ (emp0 rfl _ (.inr ⟨ad,rfl⟩) _);simp only[Instr.sliceAt,Instr.slice,bV,bQ hu,cC,hbb,lV hte,gW];have e1:(lo'.getD 0).toNat=0:=by omega
     have e2:(k7 mx' 0)=0:=by
      cases mx' with
      |none=>rfl
      |some m=>simp only[mN]at b4⊢;omega
     rw[e1,e2];congr 2
     omega
   | @ro z _ _ aS off cap val hI hsz hcap hmax hfc hc hr h1=>
     have hbb:=oN (P:=P) (w:=w) (isS:=true) (len:=es.length) (cap:=cap) il ih im hbd hmh' hcap;have hm1:(hi'.getD ↑es.length).toNat<=(k7 mx' cap):=by
      cases mx' with
      |none=>simp only[zZ];omega
      |some m=>simp only[mN]at b4⊢;omega
     have hm2:(k7 mx' cap)<=cap:=by
      cases mx' with
      |none=>exact aY _
      |some m=>simp only[mN]at b4⊢;omega
     generalize hM:(k7 mx' cap)=M at hbb hm1 hm2
     have hrun:(Instr.sliceAt T (.slice (some ⟨aS,off,none⟩) es.length cap) (lo.map a.eval) (hi.map a.eval) (mx.map a.eval)).run P w=
       .ok (.slice (if M=(lo'.getD 0).toNat then some ⟨aS,off,none⟩else some ⟨aS,off+(lo'.getD 0).toNat*te.sz,none⟩) ((hi'.getD es.length).toNat-(lo'.getD 0).toNat) (M-(lo'.getD 0).toNat)) w:=by
      simp only[Instr.sliceAt,Instr.slice,bV,bQ hu,cC,hbb,lV hte,gW,lF,add_plain]
     refine fin _ hrun ?_;by_cases hml:M=(lo'.getD 0).toNat
     ·rw[bA hml,hml];have:(hi'.getD es.length).toNat-(lo'.getD 0).toNat=0:=by omega
      rw[this,Nat.sub_self];rw[this]at hle;rw[gX hle];exact .d .emp
     ·rw[aR hml,<-hle];have get:∀k e,((es.take (hi'.getD es.length).toNat).drop (lo'.getD 0).toNat)[k]? =some e->es[(lo'.getD 0).toNat+k]? =some e:=by
       intro k e hk;rw[sP,List.getElem?_take]at hk;split at hk
       ·exact hk
       ·cases hk
      have hz:∀k e,es[k]? =some e->z=te.sz:=λk e he=>by rw[<-hsz e (gI he)];exact hss e (gI he)
      refine .d (.ro (sz:=te.sz) (λi j=>val ((lo'.getD 0).toNat+i) j) hI (λe he=>hss e (rL (List.mem_of_mem_drop he))) (by rw[hle];omega) (by omega) (λhf=>?_) (λi e j c he hcc=>?_) (λi e j c he hcc=>hr _ e j c (get i e he) hcc) (λi e j c he hcc=>h1 _ e j c (get i e he) hcc))
      ·rw[hle];cases mx' with
       |none=>
        simp only[bN,dO]at hf;have:=hfc hf.1;simp only[zZ]at hM;omega
       |some m=>simp only[dO,mN]at hf hM;omega
      ·have:=hc _ e j c (get i e he) hcc;rw[hz _ e (get i e he),fU]at this;rw[Nat.add_assoc off];exact this
 ·rename_i E b hk;split at he
  ·rename_i z es T' hb;split at he
   ·rename_i hz;subst hz;cases he;have hu:=mH hT hk;obtain⟨te,hte,rfl⟩:=hE _ hk;obtain⟨b1,b2,b3,b4⟩:=id hsc;obtain⟨y,hy,hrb⟩:=hm.grow (aG.eZ hb (.inl (by simp)));generalize hev:a.eval x=u at hx fin;cases hx with
    |own h' _=>
     rw[hy]at h';cases h';rcases hrb with⟨rfl,rfl⟩|⟨ad,rfl,rfl⟩|⟨n,cap,arr,rfl,g1,g2,g3,g4,g5,g6⟩
     ·have hbb:=oN (P:=P) (w:=w) (isS:=true) (len:=0) (cap:=0) il ih im hsc hmh' (aY _);simp only[j6]at b3 b4 b2;have e1:(lo'.getD 0).toNat=0:=by omega
      have e3:(hi'.getD ↑(0:Nat)).toNat=0:=by omega
      have e2:(k7 mx' 0)=0:=by
       cases mx' with
       |none=>rfl
       |some m=>simp only[mN]at b4⊢;omega
      refine fin (.slice none 0 0) ?_ ?_
      ·simp only[Instr.sliceAt,Instr.slice,bV,bQ hu,cC,hbb,lV hte,gW,e1,e2,e3];rfl
      ·simp only[j6,e1,e3];exact .sl hy .nil
     ·have hbb:=oN (P:=P) (w:=w) (isS:=true) (len:=0) (cap:=0) il ih im hsc hmh' (aY _);simp only[j6]at b3 b4 b2;have e1:(lo'.getD 0).toNat=0:=by omega
      have e3:(hi'.getD ↑(0:Nat)).toNat=0:=by omega
      have e2:(k7 mx' 0)=0:=by
       cases mx' with
       |none=>rfl
       |some m=>simp only[mN]at b4⊢;omega
      refine fin (.slice (some ad) 0 0) ?_ ?_
      ·simp only[Instr.sliceAt,Instr.slice,bV,bQ hu,cC,hbb,lV hte,gW,e1,e2,e3];rfl
      ·simp only[j6,e1,e3];exact .sl hy (.none ad)
     ·have hbb:=oN (P:=P) (w:=w) (isS:=true) (len:=es.length) (cap:=cap) il ih im hsc hmh' g3;have hm1:(hi'.getD ↑es.length).toNat<=(k7 mx' cap):=by
       cases mx' with
       |none=>simp only[zZ];omega
       |some m=>simp only[mN]at b4⊢;omega
      have hm2:(k7 mx' cap)<=cap:=by
       cases mx' with
       |none=>exact aY _
       |some m=>simp only[mN]at b4⊢;omega
      generalize hM:(k7 mx' cap)=M at hbb hm1 hm2
      have hrun:(Instr.sliceAt T (.slice (some ⟨n,0,none⟩) es.length cap) (lo.map a.eval) (hi.map a.eval) (mx.map a.eval)).run P w=
        .ok (.slice (if M=(lo'.getD 0).toNat then some ⟨n,0,none⟩else some ⟨n,(lo'.getD 0).toNat*te.sz,none⟩) ((hi'.getD es.length).toNat-(lo'.getD 0).toNat) (M-(lo'.getD 0).toNat)) w:=by
       simp only[Instr.sliceAt,Instr.slice,bV,bQ hu,cC,hbb,lV hte,gW,lF,add_plain,rK]
      refine fin _ hrun ?_;by_cases hml:M=(lo'.getD 0).toNat
      ·rw[bA hml,hml];have:(hi'.getD es.length).toNat-(lo'.getD 0).toNat=0:=by omega
       rw[this,Nat.sub_self];exact .sl hy (.none _)
      ·rw[aR hml];exact .sl hy (.some (by omega) (by omega))
   ·cases he
  ·cases he
 ·rename_i E b z i len hk;split at he
  ·rename_i hz;subst hz;cases he;have hu:=mH hT hk;obtain⟨te,hte,rfl⟩:=hE _ hk;obtain⟨b1,b2,b3,b4⟩:=id hsc;generalize hev:a.eval x=u at hx fin;cases hx with
   |sl h' hs=>
    cases hs with
    |nil=>
     have hbb:=oN (P:=P) (w:=w) (isS:=true) (len:=0) (cap:=0) il ih im hsc hmh' (aY _);have e1:(lo'.getD 0).toNat=0:=by omega
     have e3:(hi'.getD ↑(0:Nat)).toNat=0:=by omega
     have e2:(k7 mx' 0)=0:=by
      cases mx' with
      |none=>rfl
      |some m=>simp only[mN]at b4⊢;omega
     refine fin (.slice none 0 0) ?_ ?_
     ·simp only[Instr.sliceAt,Instr.slice,bV,bQ hu,cC,hbb,lV hte,gW,e1,e2,e3];rfl
     ·simp only[e1,e3];exact .sl h' .nil
    |none ad=>
     have hbb:=oN (P:=P) (w:=w) (isS:=true) (len:=0) (cap:=0) il ih im hsc hmh' (aY _);have e1:(lo'.getD 0).toNat=0:=by omega
     have e3:(hi'.getD ↑(0:Nat)).toNat=0:=by omega
     have e2:(k7 mx' 0)=0:=by
      cases mx' with
      |none=>rfl
      |some m=>simp only[mN]at b4⊢;omega
     refine fin (.slice (some ad) 0 0) ?_ ?_
     ·simp only[Instr.sliceAt,Instr.slice,bV,bQ hu,cC,hbb,lV hte,gW,e1,e2,e3];rfl
     ·simp only[e1,e3];exact .sl h' (.none ad)
    |some hcc hll=>
     rename_i n L cap C;have hbb:=oN (P:=P) (w:=w) (isS:=true) (len:=len) (cap:=C) il ih im hsc hmh' hll;have hm1:(hi'.getD ↑len).toNat<=(k7 mx' C):=by
      cases mx' with
      |none=>simp only[zZ];omega
      |some m=>simp only[mN]at b4⊢;omega
     have hm2:(k7 mx' C)<=C:=by
      cases mx' with
      |none=>exact aY _
      |some m=>simp only[mN]at b4⊢;omega
     generalize hM:(k7 mx' C)=M at hbb hm1 hm2
     have hrun:(Instr.sliceAt T (.slice (some ⟨n,i*te.sz,none⟩) len C) (lo.map a.eval) (hi.map a.eval) (mx.map a.eval)).run P w=
       .ok (.slice (if M=(lo'.getD 0).toNat then some ⟨n,i*te.sz,none⟩else some ⟨n,i*te.sz+(lo'.getD 0).toNat*te.sz,none⟩) ((hi'.getD len).toNat-(lo'.getD 0).toNat) (M-(lo'.getD 0).toNat)) w:=by
      simp only[Instr.sliceAt,Instr.slice,bV,bQ hu,cC,hbb,lV hte,gW,lF,add_plain]
     refine fin _ hrun ?_;by_cases hml:M=(lo'.getD 0).toNat
     ·rw[bA hml,hml];have:(hi'.getD len).toNat-(lo'.getD 0).toNat=0:=by omega
      rw[this,Nat.sub_self];exact .sl h' (.none _)
     ·rw[aR hml,<-fU];exact .sl h' (.some (by omega) (by omega))
  ·cases he
 ·cases he
def chunk {α:Type}(sz:Nat):Nat->List α->List (List α)
 |0,_=>[]
 |n+1,l=>l.take sz::chunk sz n (l.drop sz)
theorem FY {α:Type}(sz:Nat):∀(n:Nat) (l:List α),(chunk sz n l).length=n
 |0,_=>rfl
 |n+1,l=>by simp[chunk,FY sz n]
theorem N1 {α:Type}{sz:Nat}:∀{n:Nat} {l:List α},l.length=n*sz->∀e∈chunk sz n l,e.length=sz
 |0,_,_,e,h=>by cases h
 |n+1,l,hl,e,h=>by
  simp only[chunk,iF]at h;rw[fU,nO]at hl;rcases h with rfl|h
  ·rw[sN];omega
  ·exact N1 (n:=n) (l:=l.drop sz) (by rw[vX];omega) e h
theorem N2 {α:Type}{sz:Nat}:∀{n:Nat} {l:List α} {i j:Nat} {e:List α} {c:α},l.length=n*sz->(chunk sz n l)[i]? =some e->e[j]? =some c->l[i*sz+j]? =some c
 |0,_,_,_,_,_,_,h,_=>by simp[chunk]at h
 |n+1,l,0,j,e,c,hl,h,hc=>by
  simp only[chunk,List.getElem?_cons_zero,mV]at h;subst h;rw[List.getElem?_take]at hc;split at hc
  ·simpa using hc
  ·cases hc
 |n+1,l,i+1,j,e,c,hl,h,hc=>by
  simp only[chunk,List.getElem?_cons_succ]at h;rw[fU,nO]at hl;have:=N2 (n:=n) (l:=l.drop sz) (by rw[vX];omega) h hc;rw[sP]at this;rw[fU,nO,show i*sz+sz+j=sz+(i*sz+j) by omega];exact this
def xV (sz len:Nat)(zero:List Value)(E:TypeId)(nm:Nat)(parts:List (Nat×AV)):Option (Prop×aG):=
 match pX (λi=>some (i*sz,sz)) ((List.replicate len zero).flatten.map λv=>.d (.v v)) parts with
 |some l=>match kM l with
  |some ds=>if len*sz<=16777216/\zero.length=sz/\len<=16777216/\ds.length=len*sz/\(l.all rY=true)then some (True,⟨.own nm,[],[(nm,some (.grow sz (chunk sz len ds) E))]⟩)else none
  |none=>none
 |none=>none
theorem yC {σ:Names}{I:Nat->Prop}{w:World}{d:D}{v:Value}(h:RV σ I w (.d d) v):RD I w d v:=by
 cases h with
 |d h=>exact h
theorem CO (n sz:Nat)(z:Array Value)(hz:z.size=sz):((Array.range (n*sz)).map (z[· %z.size]!)).toList=(List.replicate n z.toList).flatten:=by
 subst hz;rw[CM,Array.toList_range];apply yJ;intro q;rw[fN];rcases pC q (n*z.size)with h|h
 ·have hz0:0<z.size:=by
   grind
  rw[List.getElem?_range h];simp;have key:∀(n q:Nat),q<n*z.size->(List.replicate n z.toList).flatten[q]? =some z[q%z.size]! :=by
   intro n;induction n with
   |zero=>intro q h;simp at h
   |succ n ih=>
    intro q h;rw[fU,nO]at h;rw[List.replicate_succ,List.flatten_cons];by_cases hq:q<z.size
    ·rw[lS (by simpa using hq),CC hq];simp[hq]
    ·rw[mF (by simp;omega)];have:=ih (q-z.size) (by omega);rw[Array.length_toList,this,Nat.mod_eq_sub_mod (a:=q) (by omega)]
  rw[key n q h]
 all_goals simp_all
theorem J4 {P:Program}{o:Oper}{T:TypeId}{len:Nat}{parts:Array (Nat×Operand)}(ho:o.op=.buildSlice T len parts)(tm:Nat->AV)(mem:Mem)(nm:Nat){ti te:TI}{E:TypeId}(hT:aH P T=some ti)(hk:ti.k=.dA E)(hE:aH P E=some te){sc:Prop}{e:aG}
  (he:xV te.sz len te.zero E nm (parts.toList.map λp=>(p.1,ev tm p.2))=some (sc,e)):aO P o tm (e.mr mem) nm e.res (e.mw mem):=by
 unfold xV at he;split at he
 case h_2=>cases he
 rename_i l hl;split at he
 case h_2=>cases he
 rename_i ds hds;split at he
 case isFalse=>cases he
 rename_i hc;obtain⟨c1,c2,c3',c4,c5⟩:=hc;have c3:len<=maxLen:=by simp only[maxLen];omega
 cases he;refine aO.val λa w σ I hib h hm hfree=>?_;have hu:=mH hT hk;obtain⟨i,d,z,hi,hd,hz,hte⟩:=fG hE;have hparts:∀(j:Nat) p q,(parts.toList.map λp=>(p.1,ev tm p.2))[j]? =some p->((parts.map λ(i,x)=>(i,a.eval x)).toList)[j]? =some q->p.1=q.1/\RV σ I w p.2 q.2:=by
  intro j p q h1 h2;simp only[fN,CM]at h1 h2;cases hx:parts.toList[j]? with
  |none=>simp[hx]at h1
  |some x=>
   rw[hx]at h1 h2;simp at h1 h2;subst h1;subst h2;refine⟨rfl,bO λs e=>h s ?_⟩;simp only[ho,Op.operands,List.mem_toArray,dV];exact⟨x,gI hx,e⟩
 have hsz:i.size=te.sz:=by rw[hte]
 have hzz:te.zero=z.cells.toList:=by rw[hte]
 have hzc:z.cells.size=te.sz:=by rw[<-c2,hzz];simp
 have hzero:(zeroValue E).run P w=.ok z w:=by simp[zeroValue,typeInfo,hi,hz]
 have hz1:((Array.range (len*te.sz)).map (z.cells[· %z.cells.size]!)).size=((List.replicate len te.zero).flatten.map λv=>AV.d (.v v)).length:=by
  rw[<-Array.length_toList,CO len te.sz z.cells hzc,hzz];simp
 obtain⟨arr',f1,f2,f3⟩:=BC (σ:=σ) (I:=I) (w:=w) _ _ _ ((Array.range (len*te.sz)).map (z.cells[· %z.cells.size]!)) l hl (by simp) hparts hz1 (λq c x h1 h2=>by
  rw[<-uK,CO len te.sz z.cells hzc,<-hzz]at h2;rw[fN,h2]at h1;cases h1;exact .d (.v _))
 have hld:=mZ hds;subst hld;have hrun:(Instr.buildSlice T len (parts.map λ(i,x)=>(i,a.eval x))).run P w=.ok (.slice (some ⟨w.heap.size,0,none⟩) len len) (w.alloc (.cells arr' E (0,0))):=by
  simp only[Instr.buildSlice,bV,bQ hu,cC,lV hE];rw[aR (by omega)];by_cases h0:len*te.sz=0
  ·have:(Array.range (len*te.sz)).map (z.cells[· %z.cells.size]!)=#[]:=by rw[h0];simp
   rw[this]at f1;have f1':Instr.fill (λi=>some (i*te.sz,te.sz)) #[] (Array.map (λx=>(x.fst,a.eval x.snd)) parts).toList=some arr':=f1;simp only[h0,pure_bind];rw[show(Array.range 0).map ((#[]:Array Value)[· % (#[]:Array Value).size]!)=#[] by simp,f1'];simp[newRow]
  ·have f1':Instr.fill (λi=>some (i*te.sz,te.sz)) ((Array.range (len*te.sz)).map (z.cells[· %z.cells.size]!)) (Array.map (λx=>(x.fst,a.eval x.snd)) parts).toList=some arr':=f1;rw[aR h0];simp only[bV,hzero,gW,cC,f1'];simp[newRow]
 have hcell:∀(i:Nat) e (j:Nat) c,(chunk te.sz len ds)[i]? =some e->e[j]? =some c->∃x,arr'.toList[i*te.sz+j]? =some x/\RD I w c x/\x.oneCell'=true:=by
  intro i e j c he hcc;have hg:=N2 c4 he hcc;have hlt:=(cJ.1 hg).1;have ha:i*te.sz+j<arr'.size:=by rw[f2];simpa using hlt
  have hmap:(ds.map AV.d)[i*te.sz+j]? =some (.d c):=by simp[hg]
  have hv:=f3 (i*te.sz+j) _ _ hmap (iV ha);refine⟨arr'[i*te.sz+j],by simp[ha],yC hv,zO hv ?_⟩;exact cS.1 c5 _ (gI hmap)
 have hfr:σ nm=none:=hfree nm ⟨aY _,by omega⟩;refine⟨.slice (some ⟨w.heap.size,0,none⟩) len len,w.alloc (.cells arr' E (0,0)),cN σ nm (.slice (some ⟨w.heap.size,0,none⟩) len len),I,?_,?_,.own (by simp[cN]) rfl⟩
 ·simp only[execOp,ho,bV,hrun,cC];rfl
 ·refine cB.swap (k:=.grow te.sz (chunk te.sz len ds) E) none hib hm hfr rfl rfl ⟨rfl,aY _⟩ (by simp) (λj hj _=>pB w _ hj) (λσ' _=>?_) (λn hn=>?_) (λc q hq=>?_)
  ·have:=u0 (σ:=σ') (I:=I) (w:=w.alloc (.cells arr' E (0,0))) (sz:=te.sz) (es:=chunk te.sz len ds) (T:=E) (cap:=len) (vals:=arr'.toList) (uB w _) (by rw[FY];exact aY _) c3 (by rw[f2];simp[c4]) (N1 c4) (λq u h=>by simpa using h)
    (λi e j c he hcc=>let⟨x,p1,p2,p3⟩:=hcell i e j c he hcc;⟨x,p1,p2.mono (λn hn=>pB w _ (hib n hn)) (λ_ h=>h),p3⟩)
   rwa[FY]at this
  ·rcases mX len with h0|h0
   ·subst h0;cases hn
   ·rw[mR h0]at hn;cases hn;exact .inr ⟨aY _,by simp⟩
  ·rw[aG.u2]at hq;by_cases e:c=nm
   ·simp[e]at hq;exact .inl ⟨e,hq.symm⟩
   ·simp[e]at hq
theorem aG.z1 {res:AV}{m:Mem}{b:Nat}{k:aN}:∀c q,(aG.mk res [] [(b,some k)]).mw m c=some q->c=b/\q=k:=by
 intro c q hq;rw[aG.u2]at hq;simp_all
theorem VW {P:Program}{o:Oper}{T:TypeId}{r:Option Operand}(ho:o.op=.makeMap T r)(hr:r=none)(tm:Nat->AV)(mem:Mem)(nm:Nat)(ka:Bool)(ks:List CK)(va:Bool){e:aG}
  (he:e=⟨.own nm,[],[(nm,some (.map ka ks va λ_=>none))]⟩):aO P o tm (e.mr mem) nm e.res (e.mw mem):=by
 subst he;subst hr;refine aO.val λa w σ I hib h hm hfree=>?_;have hfr:σ nm=none:=hfree nm ⟨aY _,by omega⟩;refine⟨.map (some w.heap.size),w.alloc (.map #[] 0),cN σ nm (.map (some w.heap.size)),I,?_,?_,.own (by simp[cN]) rfl⟩
 ·simp[execOp,ho];rfl
 ·refine cB.swap (k:=.map ka ks va λ_=>none) none hib hm hfr rfl rfl ⟨rfl,aY _⟩ (by simp) (λj hj _=>pB w _ hj) (λσ' _=>?_) (λn hn=>?_) (λc q hq=>.inl (aG.z1 c q hq))
  ·exact .map (λ_=>[]) (λ_=>[]) (uB w _) (λi e h=>by simp at h) (λi e h=>by simp at h) (λi j h=>by simp at h) (λk d h=>by cases h) (λi d j c x h=>by simp at h)
  ·cases hn;exact .inr ⟨aY _,by simp⟩
theorem VN {P:Program}{o:Oper}{T:TypeId}{x:Operand}(ho:o.op=.range T x)(tm:Nat->AV)(mem:Mem)(nm:Nat){ti:TI}(hT:aH P T=some ti)(hk:ti.k=.str){s:ByteArray}(hx:ev tm x=.d (.v (.string s))){e:aG}
  (he:e=⟨.own nm,[],[(nm,some (.iter s 0))]⟩):aO P o tm (e.mr mem) nm e.res (e.mw mem):=by
 subst he;refine aO.val λa w σ I hib h hm hfree=>?_;have hfr:σ nm=none:=hfree nm ⟨aY _,by omega⟩;have hv:=bO (σ:=σ) (I:=I) (w:=w) (tm:=tm) (a:=a) (x:=x) λs e=>h s (by simp[ho,Op.operands,e]);rw[hx]at hv;have hu:=wG hT hk;refine⟨.pointer (some ⟨w.heap.size,0,none⟩),w.alloc (.stringIter s 0),cN σ nm (.pointer (some ⟨w.heap.size,0,none⟩)),I,?_,?_,.own (by simp[cN]) rfl⟩
 ·simp[execOp,ho,cH hv,Instr.range,bQ hu,newObj];rfl
 ·refine cB.swap (k:=.iter s 0) none hib hm hfr rfl rfl ⟨rfl,aY _⟩ (by simp) (λj hj _=>pB w _ hj) (λσ' _=>?_) (λn hn=>?_) (λc q hq=>.inl (aG.z1 c q hq))
  ·exact .iter (uB w _) rfl
  ·cases hn;exact .inr ⟨aY _,by simp⟩
def zW (mem:Mem):AV->Option (Prop×aG)
 |.own b=>match mem b with
  |some (.iter s pos)=>if pos<s.size then some (True,⟨.bC [.d (.v (.bool true)),.d (.v (.int .i64 pos)),.d (.v (.int .i32 (Utf8.decode s pos).1))],[],[(b,some (.iter s (pos+(Utf8.decode s pos).2)))]⟩)
   else some (True,⟨.bC [.d (.v (.bool false))],[b],[]⟩)
  |_=>none
 |_=>none
theorem VR {P:Program}{o:Oper}{x:Operand}(ho:o.op=.next x true)(tm:Nat->AV)(mem:Mem)(nm:Nat){sc:Prop}{e:aG}(he:zW mem (ev tm x)=some (sc,e)):aO P o tm (e.mr mem) nm e.res (e.mw mem):=by
 unfold zW at he;split at he
 case h_2=>cases he
 rename_i b hx;split at he
 case h_2=>cases he
 rename_i s pos hb;have rd:∀{mr:Mem} {a:Act} {w:World} {σ:Names} {I:Nat->Prop},RM σ I w mr->mr b=some (.iter s pos)->RV σ I w (ev tm x) (a.eval x)->∃n,a.eval x=.pointer (some ⟨n,0,none⟩)/\w.heap[n]? =some (.stringIter s pos)/\σ b=some (.pointer (some ⟨n,0,none⟩)):=by
  intro mr a w σ I hm hb' hv;rw[hx]at hv;obtain⟨y,hy,hrb,_⟩:=hm.aS b _ hb';cases hv with
  |own h _=>
   rw[hy]at h;cases h;cases hrb with
   |iter hw hx'=>exact⟨_,hx',hw,by rw[<-hx'];exact hy⟩
 split at he
 ·rename_i hlt;cases he;refine aO.val λa w σ I hib h hm hfree=>?_;have hmb:=aG.eZ (e:=⟨.bC [.d (.v (.bool true)),.d (.v (.int .i64 pos)),.d (.v (.int .i32 (Utf8.decode s pos).1))],[],[(b,some (.iter s (pos+(Utf8.decode s pos).2)))]⟩) hb (.inr (by simp[wrote]));obtain⟨n,h1,h2,h3⟩:=rd (a:=a) hm hmb (bO λs e=>h s (by simp[ho,Op.operands,e]));refine⟨_,{w with heap:=w.heap.setIfInBounds n (.stringIter s (pos+(Utf8.decode s pos).2))},σ,I,?_,?_,RV.bC (xs:=[.bool true,.int .i64 pos,.int .i32 (Utf8.decode s pos).1]) rfl ?_⟩
  ·simp[execOp,ho,h1,Instr.next,getObj,setObj,Sem.run,h2,hlt,goInt]
  ·refine cB.write (w':={w with heap:=w.heap.setIfInBounds n (.stringIter s (pos+(Utf8.decode s pos).2))}) (k':=.iter s (pos+(Utf8.decode s pos).2)) hib hm hmb h3 rfl (λj hj=>?_) (by simp) rfl rfl ⟨rfl,aY _⟩ (.iter ?_ rfl) (λc q hq=>?_)
   ·simp[lH (mW hj)]
   ·have hlt':=(e7.1 h2).1;simp[hlt']
   ·exact qL c q hq
  ·intro i c y h1 h2
   match i,h1,h2 with
   |0,h1,h2=>simp at h1 h2;subst h1;subst h2;exact .d (.v _)
   |1,h1,h2=>simp at h1 h2;subst h1;subst h2;exact .d (.v _)
   |2,h1,h2=>simp at h1 h2;subst h1;subst h2;exact .d (.v _)
   |i+3,h1,h2=>simp at h1
 ·rename_i hlt;cases he;rw[aG.mO];refine aO.pure λa w σ I h hm=>?_;obtain⟨n,h1,h2,h3⟩:=rd (a:=a) hm (aG.eZ hb (.inl (by simp))) (bO λs e=>h s (by simp[ho,Op.operands,e]));refine⟨_,?_,RV.bC (xs:=[.bool false]) rfl ?_⟩
  ·simp[execOp,ho,h1,Instr.next,getObj,Sem.run,h2,hlt]
  ·intro i c y h1 h2
   match i,h1,h2 with
   |0,h1,h2=>simp at h1 h2;subst h1;subst h2;exact .d (.v _)
   |i+1,h1,h2=>simp at h1
end Go.AI
