/-
  The library's errors.As, walked.
-/
import Derived.Test.YtelooagbkmpdpaaGreatDoorTy
import Derived.LaidEql
import Derived.Stop.Asserts
import Derived.RowKitTokens
set_option linter.unusedSimpArgs false
set_option linter.unusedVariables false
set_option maxRecDepth 100000
set_option maxHeartbeats 8000000
section
open Go.RowKit Go.Extern.Stop Go.Stop Go.Extern
namespace Go.Proofs.YtelooagbkmpdpaaGreatDoor
theorem Ft (t:Value)(w:World):
  Calls Tryz.prog 114 #[.nilIface,t] w λe w'=>e=.returned (.bool false)/\w'=w:=by
 go_enter Tryz.func114,Tryz.ntmps114
 go_wp2
 go_ret
 exact⟨rfl,rfl⟩
theorem Eo (t:Addr)(w:World):(ReflectliteValue.unpack (.iface 183 (.pointer (some t)))).run Tryz.prog w
  =.ok (.agg #[.pointer (some ⟨4,183,none⟩),.pointer (some ⟨w.heap.size,0,none⟩),.int .u64 150]) (w.alloc (.cells #[.pointer (some t)] 183)):=by kernel_rfl
theorem Es (a:Addr)(w:World):(ReflectliteValue.methodAny (ReflectliteValue.valueError "reflectlite.Value.Type" 0) (fun t _ _ _=>ReflectliteType.toType t) #[.agg #[.pointer (some ⟨4,183,none⟩),.pointer (some a),.int .u64 150]]).run Tryz.prog w
  =.ok (.iface 262 (.agg #[.pointer (some ⟨4,183,none⟩)])) w:=by kernel_rfl
theorem Ex (h:Value)(w:World):(Go.method 470 262 (.agg #[h]) "Kind").run Tryz.prog w=.ok (311,h) w:=by kernel_rfl
theorem Fb (w:World):((ReflectliteType.abiMethod λt=>(λa:Nat=>Value.int IntKind.u8 (a:Int))<$>Rtype.kind t) #[.pointer (some ⟨4,183,none⟩)]).run Tryz.prog w=.ok (.int .u8 22) w:=by kernel_rfl
theorem Fc (w:World):((ReflectliteType.abiMethod λt=>(λa:Nat=>Value.int IntKind.u8 (a:Int))<$>Rtype.kind t) #[.pointer (some ⟨4,181,none⟩)]).run Tryz.prog w=.ok (.int .u8 22) w:=by kernel_rfl
theorem IG (z:Sem Value)(f:TypeId->Addr->Nat->Nat->Sem Value)(v:Value):
  ReflectliteValue.method z f #[v]=(do match<-ReflectliteValue.parts v with|none=>z|some (t,a,fl)=>f t a fl (fl%32)):=rfl
theorem OG (a:Addr)(w:World):(ReflectliteValue.parts (.agg #[.pointer (some ⟨4,183,none⟩),.pointer (some a),.int .u64 150])).run Tryz.prog w=.ok (some (183,a,150)) w:=by kernel_rfl
theorem Fe (a p:Addr)(W:World)(ha:W.cell? a=some (.pointer (some p))):
  (ReflectliteValue.method (ReflectliteValue.valueError "reflectlite.Value.IsNil" 0) ReflectliteValue.isNil #[.agg #[.pointer (some ⟨4,183,none⟩),.pointer (some a),.int .u64 150]]).run Tryz.prog W=.ok (.bool false) W:=by
 rw[IG];simp only[bV,OG,Result.andThen];simp[ReflectliteValue.isNil,loadVar,isAgg,underlying,Tryz.underlying183,ha,Result.andThen]
theorem Ez (h:Value)(w:World):(Go.method 470 262 (.agg #[h]) "Elem").run Tryz.prog w=.ok (322,.agg #[h]) w:=by kernel_rfl
theorem Ey (h:Value)(w:World):(Go.method 470 262 (.agg #[h]) "Implements").run Tryz.prog w=.ok (323,.agg #[h]) w:=by kernel_rfl
theorem Fa (h:Value)(w:World):(Go.method 470 262 (.agg #[h]) "AssignableTo").run Tryz.prog w=.ok (320,.agg #[h]) w:=by kernel_rfl
theorem Fi (w:World):(ReflectliteType.method ReflectliteType.elem #[.agg #[.pointer (some ⟨4,183,none⟩)]]).run Tryz.prog w=.ok (.iface 262 (.agg #[.pointer (some ⟨4,181,none⟩)])) w:=by kernel_rfl
theorem Ff (w:World):(ReflectliteType.relation "Implements" ReflectliteType.implements_ #[.agg #[.pointer (some ⟨4,181,none⟩)],.iface 262 (.agg #[.pointer (some ⟨4,132,none⟩)])]).run Tryz.prog w=.ok (.bool true) w:=by kernel_rfl
theorem Er (v:Value)(w:World):(ReflectliteType.typeOf #[.iface 181 v]).run Tryz.prog w=.ok (.iface 262 (.agg #[.pointer (some ⟨4,181,none⟩)])) w:=by kernel_rfl
theorem Fk (w:World):(ReflectliteType.relation "AssignableTo" ReflectliteType.assignableTo #[.agg #[.pointer (some ⟨4,181,none⟩)],.iface 262 (.agg #[.pointer (some ⟨4,181,none⟩)])]).run Tryz.prog w=.ok (.bool true) w:=by kernel_rfl
theorem Ep (e:Addr)(w:World):(ReflectliteValue.unpack (.iface 181 (.pointer (some e)))).run Tryz.prog w
  =.ok (.agg #[.pointer (some ⟨4,181,none⟩),.pointer (some ⟨w.heap.size,0,none⟩),.int .u64 150]) (w.alloc (.cells #[.pointer (some e)] 181)):=by kernel_rfl
theorem Fh (w:World):(Rtype.elem? 183).run Tryz.prog w=.ok (some 181) w:=by kernel_rfl
theorem Ew (p:Addr)(w:World):(ReflectliteValue.mk 181 p ReflectliteValue.flagAddr).run Tryz.prog w=.ok (.agg #[.pointer (some ⟨4,181,none⟩),.pointer (some p),.int .u64 406]) w:=by kernel_rfl
theorem Fg (a p:Addr)(W:World)(ha:W.cell? a=some (.pointer (some p))):
  (ReflectliteValue.method (ReflectliteValue.valueError "reflectlite.Value.Elem" 0) ReflectliteValue.elem #[.agg #[.pointer (some ⟨4,183,none⟩),.pointer (some a),.int .u64 150]]).run Tryz.prog W
    =.ok (.agg #[.pointer (some ⟨4,181,none⟩),.pointer (some p),.int .u64 406]) W:=by
 rw[IG];simp only[bV,OG,Result.andThen];simp[ReflectliteValue.elem,loadVar,isAgg,underlying,Tryz.underlying183,ha,Result.andThen,Fh,Ew]
theorem TK (v x:Value):ReflectliteValue.set #[v,x]=(do
  let(some (dst,a,fl),some (src,b,_)):=(<-ReflectliteValue.parts v,<-ReflectliteValue.parts x)
   |unsupported (.noEntry "extern/(internal/reflectlite.Value).Set.zeroValue")
  if fl/ReflectliteValue.flagAddr%2==0 then unsupported (.noEntry "extern/(internal/reflectlite.Value).Set.unaddressable")
  let val<-loadVar src b
  if<-Rtype.directlyAssignable dst src then storeVar dst a val
  else if<-Rtype.implements dst src then
   if(<-Rtype.kind src)==20 then
    match val with
    |.nilIface=>unsupported (.noEntry "extern/reflectlite: a nil value of one interface type handed on as a value of another")
    |_=>storeVar dst a val
   else storeVar dst a (.iface src val)
  else panicString ("reflectlite.Set: value of type " ++(←Rtype.spelt src)++ " is not assignable to type " ++(←Rtype.spelt dst))
  pure (.tuple #[])):=rfl
theorem Eu (a:Addr)(w:World):(ReflectliteValue.parts (.agg #[.pointer (some ⟨4,181,none⟩),.pointer (some a),.int .u64 406])).run Tryz.prog w=.ok (some (181,a,406)) w:=by kernel_rfl
theorem Ev (a:Addr)(w:World):(ReflectliteValue.parts (.agg #[.pointer (some ⟨4,181,none⟩),.pointer (some a),.int .u64 150])).run Tryz.prog w=.ok (some (181,a,150)) w:=by kernel_rfl
theorem Fj (w:World):(Rtype.directlyAssignable 181 181).run Tryz.prog w=.ok true w:=by kernel_rfl
theorem Et (ta b e:Addr)(old:Value)(W:World)(hb:W.cell? b=some (.pointer (some e)))(ht:W.cell? ta=some old)(hf:W.frozen? ta=false):
  (ReflectliteValue.set #[.agg #[.pointer (some ⟨4,181,none⟩),.pointer (some ta),.int .u64 406],.agg #[.pointer (some ⟨4,181,none⟩),.pointer (some b),.int .u64 150]]).run Tryz.prog W
    =.ok (.tuple #[]) (W.setCell ta (.pointer (some e))):=by
 rw[TK];simp only[bV,Eu,Ev,Result.andThen];simp[ReflectliteValue.flagAddr,loadVar,isAgg,underlying,Tryz.underlying181,hb,Result.andThen,Fj,storeVar,Value.cells,storeCells,Addr.add];rw[run_store Tryz.prog W ta _ _ (by rfl)];simp[ht,hf]
set_option maxHeartbeats 4000000 in
theorem Fu (e t:Addr)(old:Value)(w:World)(hg:w.cell? ⟨0,0,none⟩=some (.iface 262 (.agg #[.pointer (some ⟨4,132,none⟩)])))(ht0:w.cell? t=some old)(hf0:w.frozen? t=false):
  Calls Tryz.prog 114 #[.iface 181 (.pointer (some e)),.iface 183 (.pointer (some t))] w λev w'=>ev=.returned (.bool true)/\w'=((((w.alloc (.cells #[.pointer (some t)] 183)).alloc (.cells #[.pointer (some ⟨4,183,none⟩),.pointer (some ⟨w.heap.size,0,none⟩),.int .u64 150] 219)).alloc (.cells #[.pointer (some ⟨4,183,none⟩),.pointer (some ⟨w.heap.size,0,none⟩),.int .u64 150] 219)).alloc (.cells #[.pointer (some e)] 181)).setCell t (.pointer (some e)):=by
 have h6:= @rJ Tryz.prog 159 _ (λargs=>ReflectliteValue.unpack (args.getD 0 (.tuple #[]))) Tryz.func159 (by kernel_rfl) (by kernel_rfl) (by kernel_rfl) (by kernel_rfl);have h7:= @rJ Tryz.prog 160 _ (ReflectliteValue.methodAny (ReflectliteValue.valueError "reflectlite.Value.Type" 0) (fun t _ _ _=>ReflectliteType.toType t)) Tryz.func160 (by kernel_rfl) (by kernel_rfl) (by kernel_rfl) (by kernel_rfl);have h8:= @rJ Tryz.prog 161 _ (ReflectliteValue.method (ReflectliteValue.valueError "reflectlite.Value.IsNil" 0) ReflectliteValue.isNil) Tryz.func161 (by kernel_rfl) (by kernel_rfl) (by kernel_rfl) (by kernel_rfl);have h27:= @rJ Tryz.prog 311 _ (ReflectliteType.abiMethod λt=>do pure (.int .u8 (<-Rtype.kind t))) Tryz.func311 (by kernel_rfl) (by kernel_rfl) (by kernel_rfl) (by kernel_rfl);have h37:= @rJ Tryz.prog 322 _ (ReflectliteType.method ReflectliteType.elem) Tryz.func322 (by kernel_rfl) (by kernel_rfl) (by kernel_rfl) (by kernel_rfl);have h38:= @rJ Tryz.prog 323 _ (ReflectliteType.relation "Implements" ReflectliteType.implements_) Tryz.func323 (by kernel_rfl) (by kernel_rfl) (by kernel_rfl) (by kernel_rfl);have h10:= @rJ Tryz.prog 215 _ ReflectliteType.typeOf Tryz.func215 (by kernel_rfl) (by kernel_rfl) (by kernel_rfl) (by kernel_rfl);have h35:= @rJ Tryz.prog 320 _ (ReflectliteType.relation "AssignableTo" ReflectliteType.assignableTo) Tryz.func320 (by kernel_rfl) (by kernel_rfl) (by kernel_rfl) (by kernel_rfl);have h11:= @rJ Tryz.prog 216 _ (ReflectliteValue.method (ReflectliteValue.valueError "reflectlite.Value.Elem" 0) ReflectliteValue.elem) Tryz.func216 (by kernel_rfl) (by kernel_rfl) (by kernel_rfl) (by kernel_rfl);have h12:= @rJ Tryz.prog 217 _ ReflectliteValue.set Tryz.func217 (by kernel_rfl) (by kernel_rfl) (by kernel_rfl) (by kernel_rfl);have tO:=Er;have mA:=Fa;have a25:=Fk;have v25:=Ep;have f6:=Eo;have f7:=Es;have mK:=Ex;have mE:=Ez;have mI:=Ey;have k27:=Fb;have k25:=Fc;have e27:=Fi;have i25:=Ff;have n8:=Fe ⟨w.heap.size,0,none⟩ t ((w.alloc (.cells #[.pointer (some t)] 183)).alloc (.cells #[.pointer (some ⟨4,183,none⟩),.pointer (some ⟨w.heap.size,0,none⟩),.int .u64 150] 219)) (by simp);have hlt:0<w.heap.size:=by
  rcases pC 0 w.heap.size with h|h
  ·exact h
  ·simp[World.cell?,CN h]at hg
 have hg2:((w.alloc (.cells #[.pointer (some t)] 183)).alloc (.cells #[.pointer (some ⟨4,183,none⟩),.pointer (some ⟨w.heap.size,0,none⟩),.int .u64 150] 219)).cell? ⟨0,0,none⟩=some (.iface 262 (.agg #[.pointer (some ⟨4,132,none⟩)])):=by
  rw[uF _ _ ⟨0,0,none⟩ (by first| (simp;done)| (simp;omega)),uF _ _ ⟨0,0,none⟩ hlt];exact hg
 have htl:t.block<w.heap.size:=by
  rcases pC t.block w.heap.size with h|h
  ·exact h
  ·simp[World.cell?,CN h]at ht0
 have el:=Fg ⟨w.heap.size,0,none⟩ t (((w.alloc (.cells #[.pointer (some t)] 183)).alloc (.cells #[.pointer (some ⟨4,183,none⟩),.pointer (some ⟨w.heap.size,0,none⟩),.int .u64 150] 219)).alloc (.cells #[.pointer (some ⟨4,183,none⟩),.pointer (some ⟨w.heap.size,0,none⟩),.int .u64 150] 219)) (by rw[uF _ _ ⟨w.heap.size,0,none⟩ (by simp;omega)];simp);have st:=Et t ⟨w.heap.size+1+1+1,0,none⟩ e old ((((w.alloc (.cells #[.pointer (some t)] 183)).alloc (.cells #[.pointer (some ⟨4,183,none⟩),.pointer (some ⟨w.heap.size,0,none⟩),.int .u64 150] 219)).alloc (.cells #[.pointer (some ⟨4,183,none⟩),.pointer (some ⟨w.heap.size,0,none⟩),.int .u64 150] 219)).alloc (.cells #[.pointer (some e)] 181))
  (by rw[World.cell?_alloc_at _ _ _ _ (by simp)];rfl)
  (by rw[uF _ _ t (by simp;omega),uF _ _ t (by simp;omega),uF _ _ t (by simp;omega),uF _ _ t htl];exact ht0)
  (by rw[GG _ _ t (by simp;omega),GG _ _ t (by simp;omega),GG _ _ t (by simp;omega),GG _ _ t (Nat.ne_of_lt htl)];exact hf0)
 go_enter Tryz.func114,Tryz.ntmps114
 go_wp2
 refine wp_loop_rounds 1 ?_;rw[rounds_succ]
 go_wp2
 go_ret
 exact⟨rfl,rfl⟩
end Go.Proofs.YtelooagbkmpdpaaGreatDoor
end
