/-
  The library's errors.As at this program's one type of errors, walked.
-/
import Derived.Test.YtekckhepcdndcaaGreatDoorTy
import Derived.WalkKit
import Derived.LaidEql
import Derived.Stop.Asserts
import Derived.RowKitTokens
set_option linter.unusedSimpArgs false
set_option linter.unusedVariables false
section
open Go.RowKit Go.Extern.Stop Go.Stop Go.Extern
namespace Go.Proofs.YtekckhepcdndcaaGreatDoor
theorem qwc (t:Value)(w:World):
  Calls Tryz.prog 186 #[.nilIface,t] w fun e w'=>e=.returned (.bool false)∧w'=w:=by
 go_enter Tryz.func186,Tryz.ntmps186
 go_wp2
 go_ret
 exact⟨rfl,rfl⟩
theorem ztu (t:Addr)(w:World):(ReflectliteValue.unpack (.iface 277 (.pointer (some t)))).run Tryz.prog w
  =.ok (.agg #[.pointer (some ⟨4,277,none⟩),.pointer (some ⟨w.heap.size,0,none⟩),.int .u64 150]) (w.alloc (.cells #[.pointer (some t)] 277)):=by kernel_rfl
theorem qdl (a:Addr)(w:World):(ReflectliteValue.methodAny (ReflectliteValue.valueError "reflectlite.Value.Type" 0) (fun t _ _ _=>ReflectliteType.toType t) #[.agg #[.pointer (some ⟨4,277,none⟩),.pointer (some a),.int .u64 150]]).run Tryz.prog w
  =.ok (.iface 400 (.agg #[.pointer (some ⟨4,277,none⟩)])) w:=by kernel_rfl
theorem zqj (h:Value)(w:World):(Go.method 634 400 (.agg #[h]) "Kind").run Tryz.prog w=.ok (433,h) w:=by kernel_rfl
theorem qdm (w:World):((ReflectliteType.abiMethod fun t=>(fun a:Nat=>Value.int IntKind.u8 (a:Int))<$>Rtype.kind t) #[.pointer (some ⟨4,277,none⟩)]).run Tryz.prog w=.ok (.int .u8 22) w:=by kernel_rfl
theorem qdn (w:World):((ReflectliteType.abiMethod fun t=>(fun a:Nat=>Value.int IntKind.u8 (a:Int))<$>Rtype.kind t) #[.pointer (some ⟨4,275,none⟩)]).run Tryz.prog w=.ok (.int .u8 22) w:=by kernel_rfl
theorem rlm (z:Sem Value)(f:TypeId→Addr→Nat→Nat→Sem Value)(v:Value):
  ReflectliteValue.method z f #[v]=(do match←ReflectliteValue.parts v with|none=>z|some (t,a,fl)=>f t a fl (fl%32)):=rfl
theorem zpz (a:Addr)(w:World):(ReflectliteValue.parts (.agg #[.pointer (some ⟨4,277,none⟩),.pointer (some a),.int .u64 150])).run Tryz.prog w=.ok (some (277,a,150)) w:=by kernel_rfl
theorem zy8 (a p:Addr)(W:World)(ha:W.cell? a=some (.pointer (some p))):
  (ReflectliteValue.method (ReflectliteValue.valueError "reflectlite.Value.IsNil" 0) ReflectliteValue.isNil #[.agg #[.pointer (some ⟨4,277,none⟩),.pointer (some a),.int .u64 150]]).run Tryz.prog W=.ok (.bool false) W:=by
 rw[rlm];simp only[Sem.run_bind,zpz,Result.andThen];simp[ReflectliteValue.isNil,loadVar,isAgg,underlying,Tryz.underlying277,ha,Result.andThen]
theorem zqk (h:Value)(w:World):(Go.method 634 400 (.agg #[h]) "Elem").run Tryz.prog w=.ok (445,.agg #[h]) w:=by kernel_rfl
theorem zjm (h:Value)(w:World):(Go.method 634 400 (.agg #[h]) "Implements").run Tryz.prog w=.ok (446,.agg #[h]) w:=by kernel_rfl
theorem zh3 (h:Value)(w:World):(Go.method 634 400 (.agg #[h]) "AssignableTo").run Tryz.prog w=.ok (443,.agg #[h]) w:=by kernel_rfl
theorem qdo (w:World):(ReflectliteType.method ReflectliteType.elem #[.agg #[.pointer (some ⟨4,277,none⟩)]]).run Tryz.prog w=.ok (.iface 400 (.agg #[.pointer (some ⟨4,275,none⟩)])) w:=by kernel_rfl
theorem znt (w:World):(ReflectliteType.relation "Implements" ReflectliteType.implements_ #[.agg #[.pointer (some ⟨4,275,none⟩)],.iface 400 (.agg #[.pointer (some ⟨4,230,none⟩)])]).run Tryz.prog w=.ok (.bool true) w:=by kernel_rfl
theorem zw2 (v:Value)(w:World):(ReflectliteType.typeOf #[.iface 275 v]).run Tryz.prog w=.ok (.iface 400 (.agg #[.pointer (some ⟨4,275,none⟩)])) w:=by kernel_rfl
theorem znu (w:World):(ReflectliteType.relation "AssignableTo" ReflectliteType.assignableTo #[.agg #[.pointer (some ⟨4,275,none⟩)],.iface 400 (.agg #[.pointer (some ⟨4,275,none⟩)])]).run Tryz.prog w=.ok (.bool true) w:=by kernel_rfl
theorem ztv (e:Addr)(w:World):(ReflectliteValue.unpack (.iface 275 (.pointer (some e)))).run Tryz.prog w
  =.ok (.agg #[.pointer (some ⟨4,275,none⟩),.pointer (some ⟨w.heap.size,0,none⟩),.int .u64 150]) (w.alloc (.cells #[.pointer (some e)] 275)):=by kernel_rfl
theorem zw4 (w:World):(Rtype.elem? 277).run Tryz.prog w=.ok (some 275) w:=by kernel_rfl
theorem qmv (p:Addr)(w:World):(ReflectliteValue.mk 275 p ReflectliteValue.flagAddr).run Tryz.prog w=.ok (.agg #[.pointer (some ⟨4,275,none⟩),.pointer (some p),.int .u64 406]) w:=by kernel_rfl
theorem zy9 (a p:Addr)(W:World)(ha:W.cell? a=some (.pointer (some p))):
  (ReflectliteValue.method (ReflectliteValue.valueError "reflectlite.Value.Elem" 0) ReflectliteValue.elem #[.agg #[.pointer (some ⟨4,277,none⟩),.pointer (some a),.int .u64 150]]).run Tryz.prog W
    =.ok (.agg #[.pointer (some ⟨4,275,none⟩),.pointer (some p),.int .u64 406]) W:=by
 rw[rlm];simp only[Sem.run_bind,zpz,Result.andThen];simp[ReflectliteValue.elem,loadVar,isAgg,underlying,Tryz.underlying277,ha,Result.andThen,zw4,qmv]
theorem rls (v x:Value):ReflectliteValue.set #[v,x]=(do
  let(some (dst,a,fl),some (src,b,_)):=(←ReflectliteValue.parts v,←ReflectliteValue.parts x)
   |unsupported (.noEntry "extern/(internal/reflectlite.Value).Set.zeroValue")
  if fl/ReflectliteValue.flagAddr%2==0 then unsupported (.noEntry "extern/(internal/reflectlite.Value).Set.unaddressable")
  let val←loadVar src b
  if←Rtype.directlyAssignable dst src then storeVar dst a val
  else if←Rtype.implements dst src then
   if(←Rtype.kind src)==20 then
    match val with
    |.nilIface=>unsupported (.noEntry "extern/reflectlite: a nil value of one interface type handed on as a value of another")
    |_=>storeVar dst a val
   else storeVar dst a (.iface src val)
  else panicString ("reflectlite.Set: value of type " ++(←Rtype.spelt src)++ " is not assignable to type " ++(←Rtype.spelt dst))
  pure (.tuple #[])):=rfl
theorem zw3 (a:Addr)(w:World):(ReflectliteValue.parts (.agg #[.pointer (some ⟨4,275,none⟩),.pointer (some a),.int .u64 406])).run Tryz.prog w=.ok (some (275,a,406)) w:=by kernel_rfl
theorem zy7 (a:Addr)(w:World):(ReflectliteValue.parts (.agg #[.pointer (some ⟨4,275,none⟩),.pointer (some a),.int .u64 150])).run Tryz.prog w=.ok (some (275,a,150)) w:=by kernel_rfl
theorem zw5 (w:World):(Rtype.directlyAssignable 275 275).run Tryz.prog w=.ok true w:=by kernel_rfl
theorem qi0 (ta b e:Addr)(old:Value)(W:World)(hb:W.cell? b=some (.pointer (some e)))(ht:W.cell? ta=some old)(hf:W.frozen? ta=false):
  (ReflectliteValue.set #[.agg #[.pointer (some ⟨4,275,none⟩),.pointer (some ta),.int .u64 406],.agg #[.pointer (some ⟨4,275,none⟩),.pointer (some b),.int .u64 150]]).run Tryz.prog W
    =.ok (.tuple #[]) (W.setCell ta (.pointer (some e))):=by
 rw[rls];simp only[Sem.run_bind,zw3,zy7,Result.andThen];simp[ReflectliteValue.flagAddr,loadVar,isAgg,underlying,Tryz.underlying275,hb,Result.andThen,zw5,storeVar,Value.cells,storeCells,Addr.add];rw[run_store Tryz.prog W ta _ _ (by rfl)];simp[ht,hf]
set_option maxHeartbeats 4000000 in
theorem qwd (e t:Addr)(old:Value)(w:World)(hg:w.cell? ⟨0,0,none⟩=some (.iface 400 (.agg #[.pointer (some ⟨4,230,none⟩)])))(ht0:w.cell? t=some old)(hf0:w.frozen? t=false):
  Calls Tryz.prog 186 #[.iface 275 (.pointer (some e)),.iface 277 (.pointer (some t))] w fun ev w'=>ev=.returned (.bool true)∧w'=((((w.alloc (.cells #[.pointer (some t)] 277)).alloc (.cells #[.pointer (some ⟨4,277,none⟩),.pointer (some ⟨w.heap.size,0,none⟩),.int .u64 150] 330)).alloc (.cells #[.pointer (some ⟨4,277,none⟩),.pointer (some ⟨w.heap.size,0,none⟩),.int .u64 150] 330)).alloc (.cells #[.pointer (some e)] 275)).setCell t (.pointer (some e)):=by
 have h6:= @run_callFunc_extern Tryz.prog 235 _ (fun args=>ReflectliteValue.unpack (args.getD 0 (.tuple #[]))) Tryz.func235 (by kernel_rfl) (by kernel_rfl) (by kernel_rfl) (by kernel_rfl);have h7:= @run_callFunc_extern Tryz.prog 236 _ (ReflectliteValue.methodAny (ReflectliteValue.valueError "reflectlite.Value.Type" 0) (fun t _ _ _=>ReflectliteType.toType t)) Tryz.func236 (by kernel_rfl) (by kernel_rfl) (by kernel_rfl) (by kernel_rfl);have h8:= @run_callFunc_extern Tryz.prog 237 _ (ReflectliteValue.method (ReflectliteValue.valueError "reflectlite.Value.IsNil" 0) ReflectliteValue.isNil) Tryz.func237 (by kernel_rfl) (by kernel_rfl) (by kernel_rfl) (by kernel_rfl);have h27:= @run_callFunc_extern Tryz.prog 433 _ (ReflectliteType.abiMethod fun t=>do pure (.int .u8 (←Rtype.kind t))) Tryz.func433 (by kernel_rfl) (by kernel_rfl) (by kernel_rfl) (by kernel_rfl);have h37:= @run_callFunc_extern Tryz.prog 445 _ (ReflectliteType.method ReflectliteType.elem) Tryz.func445 (by kernel_rfl) (by kernel_rfl) (by kernel_rfl) (by kernel_rfl);have h38:= @run_callFunc_extern Tryz.prog 446 _ (ReflectliteType.relation "Implements" ReflectliteType.implements_) Tryz.func446 (by kernel_rfl) (by kernel_rfl) (by kernel_rfl) (by kernel_rfl);have h10:= @run_callFunc_extern Tryz.prog 298 _ ReflectliteType.typeOf Tryz.func298 (by kernel_rfl) (by kernel_rfl) (by kernel_rfl) (by kernel_rfl);have h35:= @run_callFunc_extern Tryz.prog 443 _ (ReflectliteType.relation "AssignableTo" ReflectliteType.assignableTo) Tryz.func443 (by kernel_rfl) (by kernel_rfl) (by kernel_rfl) (by kernel_rfl);have h11:= @run_callFunc_extern Tryz.prog 299 _ (ReflectliteValue.method (ReflectliteValue.valueError "reflectlite.Value.Elem" 0) ReflectliteValue.elem) Tryz.func299 (by kernel_rfl) (by kernel_rfl) (by kernel_rfl) (by kernel_rfl);have h12:= @run_callFunc_extern Tryz.prog 300 _ ReflectliteValue.set Tryz.func300 (by kernel_rfl) (by kernel_rfl) (by kernel_rfl) (by kernel_rfl);have tO:=zw2;have mA:=zh3;have a25:=znu;have v25:=ztv;have f6:=ztu;have f7:=qdl;have mK:=zqj;have mE:=zqk;have mI:=zjm;have k27:=qdm;have k25:=qdn;have e27:=qdo;have i25:=znt;have n8:=zy8 ⟨w.heap.size,0,none⟩ t ((w.alloc (.cells #[.pointer (some t)] 277)).alloc (.cells #[.pointer (some ⟨4,277,none⟩),.pointer (some ⟨w.heap.size,0,none⟩),.int .u64 150] 330)) (by simp);have hlt:0<w.heap.size:=by
  rcases Nat.eq_zero_or_pos w.heap.size with h0|h
  ·simp[World.cell?,h0]at hg
  ·exact h
 have hg2:((w.alloc (.cells #[.pointer (some t)] 277)).alloc (.cells #[.pointer (some ⟨4,277,none⟩),.pointer (some ⟨w.heap.size,0,none⟩),.int .u64 150] 330)).cell? ⟨0,0,none⟩=some (.iface 400 (.agg #[.pointer (some ⟨4,230,none⟩)])):=by
  rw[World.cell?_alloc_lt _ _ ⟨0,0,none⟩ (by simp),World.cell?_alloc_lt _ _ ⟨0,0,none⟩ hlt];exact hg
 have htl:t.block<w.heap.size:=by
  rcases Nat.lt_or_ge t.block w.heap.size with h|h
  ·exact h
  ·simp[World.cell?,Array.getElem?_eq_none h]at ht0
 have el:=zy9 ⟨w.heap.size,0,none⟩ t (((w.alloc (.cells #[.pointer (some t)] 277)).alloc (.cells #[.pointer (some ⟨4,277,none⟩),.pointer (some ⟨w.heap.size,0,none⟩),.int .u64 150] 330)).alloc (.cells #[.pointer (some ⟨4,277,none⟩),.pointer (some ⟨w.heap.size,0,none⟩),.int .u64 150] 330)) (by rw[World.cell?_alloc_lt _ _ ⟨w.heap.size,0,none⟩ (by simp;omega)];simp);have st:=qi0 t ⟨w.heap.size+1+1+1,0,none⟩ e old ((((w.alloc (.cells #[.pointer (some t)] 277)).alloc (.cells #[.pointer (some ⟨4,277,none⟩),.pointer (some ⟨w.heap.size,0,none⟩),.int .u64 150] 330)).alloc (.cells #[.pointer (some ⟨4,277,none⟩),.pointer (some ⟨w.heap.size,0,none⟩),.int .u64 150] 330)).alloc (.cells #[.pointer (some e)] 275))
  (by rw[World.cell?_alloc_at _ _ _ _ (by simp)];rfl)
  (by rw[World.cell?_alloc_lt _ _ t (by simp;omega),World.cell?_alloc_lt _ _ t (by simp;omega),World.cell?_alloc_lt _ _ t (by simp;omega),World.cell?_alloc_lt _ _ t htl];exact ht0)
  (by rw[World.frozen?_alloc_old _ _ t (by simp;omega),World.frozen?_alloc_old _ _ t (by simp;omega),World.frozen?_alloc_old _ _ t (by simp;omega),World.frozen?_alloc_old _ _ t (Nat.ne_of_lt htl)];exact hf0)
 go_enter Tryz.func186,Tryz.ntmps186
 go_wp2
 refine wp_loop_rounds 1 ?_;rw[rounds_succ]
 go_wp2
 go_ret
 exact⟨rfl,rfl⟩
end Go.Proofs.YtekckhepcdndcaaGreatDoor
end
