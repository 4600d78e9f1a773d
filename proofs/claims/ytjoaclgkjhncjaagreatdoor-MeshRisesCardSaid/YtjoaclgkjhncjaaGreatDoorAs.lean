/-
  The library's errors.As at this program's one type of errors, walked.
-/
import Derived.Test.YtjoaclgkjhncjaaGreatDoorTy
import Derived.WalkKit
import Derived.LaidEql
import Derived.Stop.Asserts
import Derived.RowKitTokens
set_option linter.unusedSimpArgs false
set_option linter.unusedVariables false
section
open Go.RowKit Go.Extern.Stop Go.Stop Go.Extern
set_option maxRecDepth 4000
namespace Go.Proofs.YtjoaclgkjhncjaaGreatDoor
theorem qxg (t:Value)(w:World):
  Calls Tryz.prog 224 #[.nilIface,t] w fun e w'=>e=.returned (.bool false)∧w'=w:=by
 go_enter Tryz.func224,Tryz.ntmps224
 go_wp2
 go_ret
 exact⟨rfl,rfl⟩
theorem zuv (t:Addr)(w:World):(ReflectliteValue.unpack (.iface 311 (.pointer (some t)))).run Tryz.prog w
  =.ok (.agg #[.pointer (some ⟨4,311,none⟩),.pointer (some ⟨w.heap.size,0,none⟩),.int .u64 150]) (w.alloc (.cells #[.pointer (some t)] 311)):=by kernel_rfl
theorem qe0 (a:Addr)(w:World):(ReflectliteValue.methodAny (ReflectliteValue.valueError "reflectlite.Value.Type" 0) (fun t _ _ _=>ReflectliteType.toType t) #[.agg #[.pointer (some ⟨4,311,none⟩),.pointer (some a),.int .u64 150]]).run Tryz.prog w
  =.ok (.iface 431 (.agg #[.pointer (some ⟨4,311,none⟩)])) w:=by kernel_rfl
theorem zri (h:Value)(w:World):(Go.method 624 431 (.agg #[h]) "Kind").run Tryz.prog w=.ok (432,h) w:=by kernel_rfl
theorem qe1 (w:World):((ReflectliteType.abiMethod fun t=>(fun a:Nat=>Value.int IntKind.u8 (a:Int))<$>Rtype.kind t) #[.pointer (some ⟨4,311,none⟩)]).run Tryz.prog w=.ok (.int .u8 22) w:=by kernel_rfl
theorem qe2 (w:World):((ReflectliteType.abiMethod fun t=>(fun a:Nat=>Value.int IntKind.u8 (a:Int))<$>Rtype.kind t) #[.pointer (some ⟨4,309,none⟩)]).run Tryz.prog w=.ok (.int .u8 22) w:=by kernel_rfl
theorem rlm (z:Sem Value)(f:TypeId→Addr→Nat→Nat→Sem Value)(v:Value):
  ReflectliteValue.method z f #[v]=(do match←ReflectliteValue.parts v with|none=>z|some (t,a,fl)=>f t a fl (fl%32)):=rfl
theorem zqu (a:Addr)(w:World):(ReflectliteValue.parts (.agg #[.pointer (some ⟨4,311,none⟩),.pointer (some a),.int .u64 150])).run Tryz.prog w=.ok (some (311,a,150)) w:=by kernel_rfl
theorem qaf (a p:Addr)(W:World)(ha:W.cell? a=some (.pointer (some p))):
  (ReflectliteValue.method (ReflectliteValue.valueError "reflectlite.Value.IsNil" 0) ReflectliteValue.isNil #[.agg #[.pointer (some ⟨4,311,none⟩),.pointer (some a),.int .u64 150]]).run Tryz.prog W=.ok (.bool false) W:=by
 rw[rlm];simp only[Sem.run_bind,zqu,Result.andThen];simp[ReflectliteValue.isNil,loadVar,isAgg,underlying,Tryz.underlying311,ha,Result.andThen]
theorem zrj (h:Value)(w:World):(Go.method 624 431 (.agg #[h]) "Elem").run Tryz.prog w=.ok (445,.agg #[h]) w:=by kernel_rfl
theorem zjz (h:Value)(w:World):(Go.method 624 431 (.agg #[h]) "Implements").run Tryz.prog w=.ok (446,.agg #[h]) w:=by kernel_rfl
theorem zij (h:Value)(w:World):(Go.method 624 431 (.agg #[h]) "AssignableTo").run Tryz.prog w=.ok (443,.agg #[h]) w:=by kernel_rfl
theorem qe3 (w:World):(ReflectliteType.method ReflectliteType.elem #[.agg #[.pointer (some ⟨4,311,none⟩)]]).run Tryz.prog w=.ok (.iface 431 (.agg #[.pointer (some ⟨4,309,none⟩)])) w:=by kernel_rfl
theorem zof (w:World):(ReflectliteType.relation "Implements" ReflectliteType.implements_ #[.agg #[.pointer (some ⟨4,309,none⟩)],.iface 431 (.agg #[.pointer (some ⟨4,259,none⟩)])]).run Tryz.prog w=.ok (.bool true) w:=by kernel_rfl
theorem zyc (v:Value)(w:World):(ReflectliteType.typeOf #[.iface 309 v]).run Tryz.prog w=.ok (.iface 431 (.agg #[.pointer (some ⟨4,309,none⟩)])) w:=by kernel_rfl
theorem zog (w:World):(ReflectliteType.relation "AssignableTo" ReflectliteType.assignableTo #[.agg #[.pointer (some ⟨4,309,none⟩)],.iface 431 (.agg #[.pointer (some ⟨4,309,none⟩)])]).run Tryz.prog w=.ok (.bool true) w:=by kernel_rfl
theorem zuw (e:Addr)(w:World):(ReflectliteValue.unpack (.iface 309 (.pointer (some e)))).run Tryz.prog w
  =.ok (.agg #[.pointer (some ⟨4,309,none⟩),.pointer (some ⟨w.heap.size,0,none⟩),.int .u64 150]) (w.alloc (.cells #[.pointer (some e)] 309)):=by kernel_rfl
theorem zye (w:World):(Rtype.elem? 311).run Tryz.prog w=.ok (some 309) w:=by kernel_rfl
theorem qn5 (p:Addr)(w:World):(ReflectliteValue.mk 309 p ReflectliteValue.flagAddr).run Tryz.prog w=.ok (.agg #[.pointer (some ⟨4,309,none⟩),.pointer (some p),.int .u64 406]) w:=by kernel_rfl
theorem qag (a p:Addr)(W:World)(ha:W.cell? a=some (.pointer (some p))):
  (ReflectliteValue.method (ReflectliteValue.valueError "reflectlite.Value.Elem" 0) ReflectliteValue.elem #[.agg #[.pointer (some ⟨4,311,none⟩),.pointer (some a),.int .u64 150]]).run Tryz.prog W
    =.ok (.agg #[.pointer (some ⟨4,309,none⟩),.pointer (some p),.int .u64 406]) W:=by
 rw[rlm];simp only[Sem.run_bind,zqu,Result.andThen];simp[ReflectliteValue.elem,loadVar,isAgg,underlying,Tryz.underlying311,ha,Result.andThen,zye,qn5]
theorem rls (v x:Value):ReflectliteValue.set #[v,x]=(do
  let(some (dst,a,fl),some (src,b,_)):=(←ReflectliteValue.parts v,←ReflectliteValue.parts x)
   |unsupported (.noEntry "extern/(internal/reflectlite.Value).Set.zeroValue")
  if fl/ReflectliteValue.flagAddr%2==0 then unsupported (.noEntry "extern/(internal/reflectlite.Value).Set.unaddressable")
  let val←loadVar src b
  if←Rtype.directlyAssignable dst src then storeVar dst a val
  else if←Rtype.implements dst src then
   if(←Rtype.kind src)==20 then
    match val with
    |.nilIface=>unsupported (.noEntry "extern/reflectlite: a nil value of one interface type handed on as a value of another")
    |_=>storeVar dst a val
   else storeVar dst a (.iface src val)
  else panicString ("reflectlite.Set: value of type " ++(←Rtype.spelt src)++ " is not assignable to type " ++(←Rtype.spelt dst))
  pure (.tuple #[])):=rfl
theorem zyd (a:Addr)(w:World):(ReflectliteValue.parts (.agg #[.pointer (some ⟨4,309,none⟩),.pointer (some a),.int .u64 406])).run Tryz.prog w=.ok (some (309,a,406)) w:=by kernel_rfl
theorem qae (a:Addr)(w:World):(ReflectliteValue.parts (.agg #[.pointer (some ⟨4,309,none⟩),.pointer (some a),.int .u64 150])).run Tryz.prog w=.ok (some (309,a,150)) w:=by kernel_rfl
theorem zyf (w:World):(Rtype.directlyAssignable 309 309).run Tryz.prog w=.ok true w:=by kernel_rfl
theorem qkc (ta b e:Addr)(old:Value)(W:World)(hb:W.cell? b=some (.pointer (some e)))(ht:W.cell? ta=some old)(hf:W.frozen? ta=false):
  (ReflectliteValue.set #[.agg #[.pointer (some ⟨4,309,none⟩),.pointer (some ta),.int .u64 406],.agg #[.pointer (some ⟨4,309,none⟩),.pointer (some b),.int .u64 150]]).run Tryz.prog W
    =.ok (.tuple #[]) (W.setCell ta (.pointer (some e))):=by
 rw[rls];simp only[Sem.run_bind,zyd,qae,Result.andThen];simp[ReflectliteValue.flagAddr,loadVar,isAgg,underlying,Tryz.underlying309,hb,Result.andThen,zyf,storeVar,Value.cells,storeCells,Addr.add];rw[run_store Tryz.prog W ta _ _ (by rfl)];simp[ht,hf]
set_option maxHeartbeats 4000000 in
theorem qxh (e t:Addr)(old:Value)(w:World)(hg:w.cell? ⟨1,0,none⟩=some (.iface 431 (.agg #[.pointer (some ⟨4,259,none⟩)])))(ht0:w.cell? t=some old)(hf0:w.frozen? t=false):
  Calls Tryz.prog 224 #[.iface 309 (.pointer (some e)),.iface 311 (.pointer (some t))] w fun ev w'=>ev=.returned (.bool true)∧w'=((((w.alloc (.cells #[.pointer (some t)] 311)).alloc (.cells #[.pointer (some ⟨4,311,none⟩),.pointer (some ⟨w.heap.size,0,none⟩),.int .u64 150] 369)).alloc (.cells #[.pointer (some ⟨4,311,none⟩),.pointer (some ⟨w.heap.size,0,none⟩),.int .u64 150] 369)).alloc (.cells #[.pointer (some e)] 309)).setCell t (.pointer (some e)):=by
 have h6:= @run_callFunc_extern Tryz.prog 281 _ (fun args=>ReflectliteValue.unpack (args.getD 0 (.tuple #[]))) Tryz.func281 (by kernel_rfl) (by kernel_rfl) (by kernel_rfl) (by kernel_rfl);have h7:= @run_callFunc_extern Tryz.prog 282 _ (ReflectliteValue.methodAny (ReflectliteValue.valueError "reflectlite.Value.Type" 0) (fun t _ _ _=>ReflectliteType.toType t)) Tryz.func282 (by kernel_rfl) (by kernel_rfl) (by kernel_rfl) (by kernel_rfl);have h8:= @run_callFunc_extern Tryz.prog 283 _ (ReflectliteValue.method (ReflectliteValue.valueError "reflectlite.Value.IsNil" 0) ReflectliteValue.isNil) Tryz.func283 (by kernel_rfl) (by kernel_rfl) (by kernel_rfl) (by kernel_rfl);have h27:= @run_callFunc_extern Tryz.prog 432 _ (ReflectliteType.abiMethod fun t=>do pure (.int .u8 (←Rtype.kind t))) Tryz.func432 (by kernel_rfl) (by kernel_rfl) (by kernel_rfl) (by kernel_rfl);have h37:= @run_callFunc_extern Tryz.prog 445 _ (ReflectliteType.method ReflectliteType.elem) Tryz.func445 (by kernel_rfl) (by kernel_rfl) (by kernel_rfl) (by kernel_rfl);have h38:= @run_callFunc_extern Tryz.prog 446 _ (ReflectliteType.relation "Implements" ReflectliteType.implements_) Tryz.func446 (by kernel_rfl) (by kernel_rfl) (by kernel_rfl) (by kernel_rfl);have h10:= @run_callFunc_extern Tryz.prog 344 _ ReflectliteType.typeOf Tryz.func344 (by kernel_rfl) (by kernel_rfl) (by kernel_rfl) (by kernel_rfl);have h35:= @run_callFunc_extern Tryz.prog 443 _ (ReflectliteType.relation "AssignableTo" ReflectliteType.assignableTo) Tryz.func443 (by kernel_rfl) (by kernel_rfl) (by kernel_rfl) (by kernel_rfl);have h11:= @run_callFunc_extern Tryz.prog 345 _ (ReflectliteValue.method (ReflectliteValue.valueError "reflectlite.Value.Elem" 0) ReflectliteValue.elem) Tryz.func345 (by kernel_rfl) (by kernel_rfl) (by kernel_rfl) (by kernel_rfl);have h12:= @run_callFunc_extern Tryz.prog 346 _ ReflectliteValue.set Tryz.func346 (by kernel_rfl) (by kernel_rfl) (by kernel_rfl) (by kernel_rfl);have tO:=zyc;have mA:=zij;have a25:=zog;have v25:=zuw;have f6:=zuv;have f7:=qe0;have mK:=zri;have mE:=zrj;have mI:=zjz;have k27:=qe1;have k25:=qe2;have e27:=qe3;have i25:=zof;have n8:=qaf ⟨w.heap.size,0,none⟩ t ((w.alloc (.cells #[.pointer (some t)] 311)).alloc (.cells #[.pointer (some ⟨4,311,none⟩),.pointer (some ⟨w.heap.size,0,none⟩),.int .u64 150] 369)) (by simp);have hlt:1<w.heap.size:=by
  rcases Nat.lt_or_ge 1 w.heap.size with h|h
  ·exact h
  ·simp[World.cell?,Array.getElem?_eq_none h]at hg
 have hg2:((w.alloc (.cells #[.pointer (some t)] 311)).alloc (.cells #[.pointer (some ⟨4,311,none⟩),.pointer (some ⟨w.heap.size,0,none⟩),.int .u64 150] 369)).cell? ⟨1,0,none⟩=some (.iface 431 (.agg #[.pointer (some ⟨4,259,none⟩)])):=by
  rw[World.cell?_alloc_lt _ _ ⟨1,0,none⟩ (by first| (simp;done)| (simp;omega)),World.cell?_alloc_lt _ _ ⟨1,0,none⟩ hlt];exact hg
 have htl:t.block<w.heap.size:=by
  rcases Nat.lt_or_ge t.block w.heap.size with h|h
  ·exact h
  ·simp[World.cell?,Array.getElem?_eq_none h]at ht0
 have el:=qag ⟨w.heap.size,0,none⟩ t (((w.alloc (.cells #[.pointer (some t)] 311)).alloc (.cells #[.pointer (some ⟨4,311,none⟩),.pointer (some ⟨w.heap.size,0,none⟩),.int .u64 150] 369)).alloc (.cells #[.pointer (some ⟨4,311,none⟩),.pointer (some ⟨w.heap.size,0,none⟩),.int .u64 150] 369)) (by rw[World.cell?_alloc_lt _ _ ⟨w.heap.size,0,none⟩ (by simp;omega)];simp);have st:=qkc t ⟨w.heap.size+1+1+1,0,none⟩ e old ((((w.alloc (.cells #[.pointer (some t)] 311)).alloc (.cells #[.pointer (some ⟨4,311,none⟩),.pointer (some ⟨w.heap.size,0,none⟩),.int .u64 150] 369)).alloc (.cells #[.pointer (some ⟨4,311,none⟩),.pointer (some ⟨w.heap.size,0,none⟩),.int .u64 150] 369)).alloc (.cells #[.pointer (some e)] 309))
  (by rw[World.cell?_alloc_at _ _ _ _ (by simp)];rfl)
  (by rw[World.cell?_alloc_lt _ _ t (by simp;omega),World.cell?_alloc_lt _ _ t (by simp;omega),World.cell?_alloc_lt _ _ t (by simp;omega),World.cell?_alloc_lt _ _ t htl];exact ht0)
  (by rw[World.frozen?_alloc_old _ _ t (by simp;omega),World.frozen?_alloc_old _ _ t (by simp;omega),World.frozen?_alloc_old _ _ t (by simp;omega),World.frozen?_alloc_old _ _ t (Nat.ne_of_lt htl)];exact hf0)
 go_enter Tryz.func224,Tryz.ntmps224
 go_wp2
 refine wp_loop_rounds 1 ?_;rw[rounds_succ]
 go_wp2
 go_ret
 exact⟨rfl,rfl⟩
end Go.Proofs.YtjoaclgkjhncjaaGreatDoor
end
