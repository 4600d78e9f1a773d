/- The library's errors.As, walked. -/
import Derived.Test.YtobcmagefgdgdaaGreatDoorTy
import Derived.LaidEql
import Derived.Stop.Asserts
import Derived.RowKitTokens
set_option linter.unusedSimpArgs false
set_option linter.unusedVariables false
set_option maxRecDepth 100000
set_option maxHeartbeats 8000000
section
open Go.RowKit Go.Extern.Stop Go.Stop Go.Extern
namespace Go.Proofs.YtobcmagefgdgdaaGreatDoor
theorem zkJ (t:Value)(w:World):
  Calls Tryz.prog 305 #[.nilIface,t] w λe w'=>e=.returned (.bool false)/\w'=w:=by
 go_enter Tryz.func305,Tryz.ntmps305
 go_wp2
 go_ret
 exact⟨rfl,rfl⟩
theorem zkk (t:Addr)(w:World):(ReflectliteValue.unpack (.iface 438 (.pointer (some t)))).run Tryz.prog w
  =.ok (.agg #[.pointer (some ⟨4,438,none⟩),.pointer (some ⟨w.heap.size,0,none⟩),.int .u64 150]) (w.alloc (.cells #[.pointer (some t)] 438)):=by kernel_rfl
theorem zkn (a:Addr)(w:World):(ReflectliteValue.methodAny (ReflectliteValue.valueError "reflectlite.Value.Type" 0) (fun t _ _ _=>ReflectliteType.toType t) #[.agg #[.pointer (some ⟨4,438,none⟩),.pointer (some a),.int .u64 150]]).run Tryz.prog w
  =.ok (.iface 586 (.agg #[.pointer (some ⟨4,438,none⟩)])) w:=by kernel_rfl
theorem zks (h:Value)(w:World):(Go.method 819 586 (.agg #[h]) "Kind").run Tryz.prog w=.ok (633,h) w:=by kernel_rfl
theorem zkw (w:World):((ReflectliteType.abiMethod λt=>(λa:Nat=>Value.int IntKind.u8 (a:Int))<$>Rtype.kind t) #[.pointer (some ⟨4,438,none⟩)]).run Tryz.prog w=.ok (.int .u8 22) w:=by kernel_rfl
theorem zkx (w:World):((ReflectliteType.abiMethod λt=>(λa:Nat=>Value.int IntKind.u8 (a:Int))<$>Rtype.kind t) #[.pointer (some ⟨4,436,none⟩)]).run Tryz.prog w=.ok (.int .u8 22) w:=by kernel_rfl
theorem Fw (z:Sem Value)(f:TypeId->Addr->Nat->Nat->Sem Value)(v:Value):
  ReflectliteValue.method z f #[v]=(do match<-ReflectliteValue.parts v with|none=>z|some (t,a,fl)=>f t a fl (fl%32)):=rfl
theorem Rw (a:Addr)(w:World):(ReflectliteValue.parts (.agg #[.pointer (some ⟨4,438,none⟩),.pointer (some a),.int .u64 150])).run Tryz.prog w=.ok (some (438,a,150)) w:=by kernel_rfl
theorem zky (a p:Addr)(W:World)(ha:W.cell? a=some (.pointer (some p))):
  (ReflectliteValue.method (ReflectliteValue.valueError "reflectlite.Value.IsNil" 0) ReflectliteValue.isNil #[.agg #[.pointer (some ⟨4,438,none⟩),.pointer (some a),.int .u64 150]]).run Tryz.prog W=.ok (.bool false) W:=by
 rw[Fw];simp only[dS,Rw,Result.andThen];simp[ReflectliteValue.isNil,loadVar,isAgg,underlying,Tryz.underlying438,ha,Result.andThen]
theorem zku (h:Value)(w:World):(Go.method 819 586 (.agg #[h]) "Elem").run Tryz.prog w=.ok (645,.agg #[h]) w:=by kernel_rfl
theorem zkt (h:Value)(w:World):(Go.method 819 586 (.agg #[h]) "Implements").run Tryz.prog w=.ok (646,.agg #[h]) w:=by kernel_rfl
theorem zkv (h:Value)(w:World):(Go.method 819 586 (.agg #[h]) "AssignableTo").run Tryz.prog w=.ok (643,.agg #[h]) w:=by kernel_rfl
theorem zkC (w:World):(ReflectliteType.method ReflectliteType.elem #[.agg #[.pointer (some ⟨4,438,none⟩)]]).run Tryz.prog w=.ok (.iface 586 (.agg #[.pointer (some ⟨4,436,none⟩)])) w:=by kernel_rfl
theorem zkz (w:World):(ReflectliteType.relation "Implements" ReflectliteType.implements_ #[.agg #[.pointer (some ⟨4,436,none⟩)],.iface 586 (.agg #[.pointer (some ⟨4,354,none⟩)])]).run Tryz.prog w=.ok (.bool true) w:=by kernel_rfl
theorem zkm (v:Value)(w:World):(ReflectliteType.typeOf #[.iface 436 v]).run Tryz.prog w=.ok (.iface 586 (.agg #[.pointer (some ⟨4,436,none⟩)])) w:=by kernel_rfl
theorem zkE (w:World):(ReflectliteType.relation "AssignableTo" ReflectliteType.assignableTo #[.agg #[.pointer (some ⟨4,436,none⟩)],.iface 586 (.agg #[.pointer (some ⟨4,436,none⟩)])]).run Tryz.prog w=.ok (.bool true) w:=by kernel_rfl
theorem zkl (e:Addr)(w:World):(ReflectliteValue.unpack (.iface 436 (.pointer (some e)))).run Tryz.prog w
  =.ok (.agg #[.pointer (some ⟨4,436,none⟩),.pointer (some ⟨w.heap.size,0,none⟩),.int .u64 150]) (w.alloc (.cells #[.pointer (some e)] 436)):=by kernel_rfl
theorem zkB (w:World):(Rtype.elem? 438).run Tryz.prog w=.ok (some 436) w:=by kernel_rfl
theorem zkr (p:Addr)(w:World):(ReflectliteValue.mk 436 p ReflectliteValue.flagAddr).run Tryz.prog w=.ok (.agg #[.pointer (some ⟨4,436,none⟩),.pointer (some p),.int .u64 406]) w:=by kernel_rfl
theorem zkA (a p:Addr)(W:World)(ha:W.cell? a=some (.pointer (some p))):
  (ReflectliteValue.method (ReflectliteValue.valueError "reflectlite.Value.Elem" 0) ReflectliteValue.elem #[.agg #[.pointer (some ⟨4,438,none⟩),.pointer (some a),.int .u64 150]]).run Tryz.prog W
    =.ok (.agg #[.pointer (some ⟨4,436,none⟩),.pointer (some p),.int .u64 406]) W:=by
 rw[Fw];simp only[dS,Rw,Result.andThen];simp[ReflectliteValue.elem,loadVar,isAgg,underlying,Tryz.underlying438,ha,Result.andThen,zkB,zkr]
theorem rls (v x:Value):ReflectliteValue.set #[v,x]=(do
  let(some (dst,a,fl),some (src,b,_)):=(<-ReflectliteValue.parts v,<-ReflectliteValue.parts x)
   |unsupported (.noEntry "extern/(internal/reflectlite.Value).Set.zeroValue")
  if fl/ReflectliteValue.flagAddr%2==0 then unsupported (.noEntry "extern/(internal/reflectlite.Value).Set.unaddressable")
  let val<-loadVar src b
  if<-Rtype.directlyAssignable dst src then storeVar dst a val
  else if<-Rtype.implements dst src then
   if(<-Rtype.kind src)==20 then
    match val with
    |.nilIface=>unsupported (.noEntry "extern/reflectlite: a nil value of one interface type handed on as a value of another")
    |_=>storeVar dst a val
   else storeVar dst a (.iface src val)
  else panicString ("reflectlite.Set: value of type " ++(←Rtype.spelt src)++ " is not assignable to type " ++(←Rtype.spelt dst))
  pure (.tuple #[])):=rfl
theorem zkp (a:Addr)(w:World):(ReflectliteValue.parts (.agg #[.pointer (some ⟨4,436,none⟩),.pointer (some a),.int .u64 406])).run Tryz.prog w=.ok (some (436,a,406)) w:=by kernel_rfl
theorem zkq (a:Addr)(w:World):(ReflectliteValue.parts (.agg #[.pointer (some ⟨4,436,none⟩),.pointer (some a),.int .u64 150])).run Tryz.prog w=.ok (some (436,a,150)) w:=by kernel_rfl
theorem zkD (w:World):(Rtype.directlyAssignable 436 436).run Tryz.prog w=.ok true w:=by kernel_rfl
theorem zko (ta b e:Addr)(old:Value)(W:World)(hb:W.cell? b=some (.pointer (some e)))(ht:W.cell? ta=some old)(hf:W.frozen? ta=false):
  (ReflectliteValue.set #[.agg #[.pointer (some ⟨4,436,none⟩),.pointer (some ta),.int .u64 406],.agg #[.pointer (some ⟨4,436,none⟩),.pointer (some b),.int .u64 150]]).run Tryz.prog W
    =.ok (.tuple #[]) (W.setCell ta (.pointer (some e))):=by
 rw[rls];simp only[dS,zkp,zkq,Result.andThen];simp[ReflectliteValue.flagAddr,loadVar,isAgg,underlying,Tryz.underlying436,hb,Result.andThen,zkD,storeVar,Value.cells,storeCells,Addr.add];rw[run_store Tryz.prog W ta _ _ (by rfl)];simp[ht,hf]
set_option maxHeartbeats 4000000 in
theorem zkK (e t:Addr)(old:Value)(w:World)(hg:w.cell? ⟨0,0,none⟩=some (.iface 586 (.agg #[.pointer (some ⟨4,354,none⟩)])))(ht0:w.cell? t=some old)(hf0:w.frozen? t=false):
  Calls Tryz.prog 305 #[.iface 436 (.pointer (some e)),.iface 438 (.pointer (some t))] w λev w'=>ev=.returned (.bool true)/\w'=((((w.alloc (.cells #[.pointer (some t)] 438)).alloc (.cells #[.pointer (some ⟨4,438,none⟩),.pointer (some ⟨w.heap.size,0,none⟩),.int .u64 150] 501)).alloc (.cells #[.pointer (some ⟨4,438,none⟩),.pointer (some ⟨w.heap.size,0,none⟩),.int .u64 150] 501)).alloc (.cells #[.pointer (some e)] 436)).setCell t (.pointer (some e)):=by
 have h6:= @CH Tryz.prog 385 _ (λargs=>ReflectliteValue.unpack (args.getD 0 (.tuple #[]))) Tryz.func385 (by kernel_rfl) (by kernel_rfl) (by kernel_rfl) (by kernel_rfl);have h7:= @CH Tryz.prog 386 _ (ReflectliteValue.methodAny (ReflectliteValue.valueError "reflectlite.Value.Type" 0) (fun t _ _ _=>ReflectliteType.toType t)) Tryz.func386 (by kernel_rfl) (by kernel_rfl) (by kernel_rfl) (by kernel_rfl);have h8:= @CH Tryz.prog 387 _ (ReflectliteValue.method (ReflectliteValue.valueError "reflectlite.Value.IsNil" 0) ReflectliteValue.isNil) Tryz.func387 (by kernel_rfl) (by kernel_rfl) (by kernel_rfl) (by kernel_rfl);have h27:= @CH Tryz.prog 633 _ (ReflectliteType.abiMethod λt=>do pure (.int .u8 (<-Rtype.kind t))) Tryz.func633 (by kernel_rfl) (by kernel_rfl) (by kernel_rfl) (by kernel_rfl);have h37:= @CH Tryz.prog 645 _ (ReflectliteType.method ReflectliteType.elem) Tryz.func645 (by kernel_rfl) (by kernel_rfl) (by kernel_rfl) (by kernel_rfl);have h38:= @CH Tryz.prog 646 _ (ReflectliteType.relation "Implements" ReflectliteType.implements_) Tryz.func646 (by kernel_rfl) (by kernel_rfl) (by kernel_rfl) (by kernel_rfl);have h10:= @CH Tryz.prog 480 _ ReflectliteType.typeOf Tryz.func480 (by kernel_rfl) (by kernel_rfl) (by kernel_rfl) (by kernel_rfl);have h35:= @CH Tryz.prog 643 _ (ReflectliteType.relation "AssignableTo" ReflectliteType.assignableTo) Tryz.func643 (by kernel_rfl) (by kernel_rfl) (by kernel_rfl) (by kernel_rfl);have h11:= @CH Tryz.prog 481 _ (ReflectliteValue.method (ReflectliteValue.valueError "reflectlite.Value.Elem" 0) ReflectliteValue.elem) Tryz.func481 (by kernel_rfl) (by kernel_rfl) (by kernel_rfl) (by kernel_rfl);have h12:= @CH Tryz.prog 482 _ ReflectliteValue.set Tryz.func482 (by kernel_rfl) (by kernel_rfl) (by kernel_rfl) (by kernel_rfl);have tO:=zkm;have mA:=zkv;have a25:=zkE;have v25:=zkl;have f6:=zkk;have f7:=zkn;have mK:=zks;have mE:=zku;have mI:=zkt;have k27:=zkw;have k25:=zkx;have e27:=zkC;have i25:=zkz;have n8:=zky ⟨w.heap.size,0,none⟩ t ((w.alloc (.cells #[.pointer (some t)] 438)).alloc (.cells #[.pointer (some ⟨4,438,none⟩),.pointer (some ⟨w.heap.size,0,none⟩),.int .u64 150] 501)) (by simp);have hlt:0<w.heap.size:=by
  rcases y9 0 w.heap.size with h|h
  ·exact h
  ·simp[World.cell?,T0 h]at hg
 have hg2:((w.alloc (.cells #[.pointer (some t)] 438)).alloc (.cells #[.pointer (some ⟨4,438,none⟩),.pointer (some ⟨w.heap.size,0,none⟩),.int .u64 150] 501)).cell? ⟨0,0,none⟩=some (.iface 586 (.agg #[.pointer (some ⟨4,354,none⟩)])):=by
  rw[GA _ _ ⟨0,0,none⟩ (by first| (simp;done)| (simp;omega)),GA _ _ ⟨0,0,none⟩ hlt];exact hg
 have htl:t.block<w.heap.size:=by
  rcases y9 t.block w.heap.size with h|h
  ·exact h
  ·simp[World.cell?,T0 h]at ht0
 have el:=zkA ⟨w.heap.size,0,none⟩ t (((w.alloc (.cells #[.pointer (some t)] 438)).alloc (.cells #[.pointer (some ⟨4,438,none⟩),.pointer (some ⟨w.heap.size,0,none⟩),.int .u64 150] 501)).alloc (.cells #[.pointer (some ⟨4,438,none⟩),.pointer (some ⟨w.heap.size,0,none⟩),.int .u64 150] 501)) (by rw[GA _ _ ⟨w.heap.size,0,none⟩ (by simp;omega)];simp);have st:=zko t ⟨w.heap.size+1+1+1,0,none⟩ e old ((((w.alloc (.cells #[.pointer (some t)] 438)).alloc (.cells #[.pointer (some ⟨4,438,none⟩),.pointer (some ⟨w.heap.size,0,none⟩),.int .u64 150] 501)).alloc (.cells #[.pointer (some ⟨4,438,none⟩),.pointer (some ⟨w.heap.size,0,none⟩),.int .u64 150] 501)).alloc (.cells #[.pointer (some e)] 436))
  (by rw[World.cell?_alloc_at _ _ _ _ (by simp)];rfl)
  (by rw[GA _ _ t (by simp;omega),GA _ _ t (by simp;omega),GA _ _ t (by simp;omega),GA _ _ t htl];exact ht0)
  (by rw[Af _ _ t (by simp;omega),Af _ _ t (by simp;omega),Af _ _ t (by simp;omega),Af _ _ t (Nat.ne_of_lt htl)];exact hf0)
 go_enter Tryz.func305,Tryz.ntmps305
 go_wp2
 refine wp_loop_rounds 1 ?_;rw[rounds_succ]
 go_wp2
 go_ret
 exact⟨rfl,rfl⟩
end Go.Proofs.YtobcmagefgdgdaaGreatDoor
end
