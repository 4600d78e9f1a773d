/-
  The library's errors.As at this program's one type of errors, walked.
-/
import Derived.Test.YtegplpagkajolaaGreatDoorTy
import Derived.WalkKit
import Derived.LaidEql
import Derived.Stop.Asserts
import Derived.RowKitTokens
set_option linter.unusedSimpArgs false
set_option linter.unusedVariables false
set_option maxRecDepth 100000
set_option maxHeartbeats 8000000
section
open Go.RowKit Go.Extern.Stop Go.Stop Go.Extern
namespace Go.Proofs.YtegplpagkajolaaGreatDoor
theorem zj2 (t:Value)(w:World):
  Calls Tryz.prog 210 #[.nilIface,t] w fun e w'=>e=.returned (.bool false)/\w'=w:=by
 go_enter Tryz.func210,Tryz.ntmps210
 go_wp2
 go_ret
 exact⟨rfl,rfl⟩
theorem zjC (t:Addr)(w:World):(ReflectliteValue.unpack (.iface 302 (.pointer (some t)))).run Tryz.prog w
  =.ok (.agg #[.pointer (some ⟨4,302,none⟩),.pointer (some ⟨w.heap.size,0,none⟩),.int .u64 150]) (w.alloc (.cells #[.pointer (some t)] 302)):=by kernel_rfl
theorem zjF (a:Addr)(w:World):(ReflectliteValue.methodAny (ReflectliteValue.valueError "reflectlite.Value.Type" 0) (fun t _ _ _=>ReflectliteType.toType t) #[.agg #[.pointer (some ⟨4,302,none⟩),.pointer (some a),.int .u64 150]]).run Tryz.prog w
  =.ok (.iface 433 (.agg #[.pointer (some ⟨4,302,none⟩)])) w:=by kernel_rfl
theorem zjK (h:Value)(w:World):(Go.method 635 433 (.agg #[h]) "Kind").run Tryz.prog w=.ok (442,h) w:=by kernel_rfl
theorem zjO (w:World):((ReflectliteType.abiMethod fun t=>(fun a:Nat=>Value.int IntKind.u8 (a:Int))<$>Rtype.kind t) #[.pointer (some ⟨4,302,none⟩)]).run Tryz.prog w=.ok (.int .u8 22) w:=by kernel_rfl
theorem zjP (w:World):((ReflectliteType.abiMethod fun t=>(fun a:Nat=>Value.int IntKind.u8 (a:Int))<$>Rtype.kind t) #[.pointer (some ⟨4,300,none⟩)]).run Tryz.prog w=.ok (.int .u8 22) w:=by kernel_rfl
theorem Gp (z:Sem Value)(f:TypeId->Addr->Nat->Nat->Sem Value)(v:Value):
  ReflectliteValue.method z f #[v]=(do match<-ReflectliteValue.parts v with|none=>z|some (t,a,fl)=>f t a fl (fl%32)):=rfl
theorem Sp (a:Addr)(w:World):(ReflectliteValue.parts (.agg #[.pointer (some ⟨4,302,none⟩),.pointer (some a),.int .u64 150])).run Tryz.prog w=.ok (some (302,a,150)) w:=by kernel_rfl
theorem zjQ (a p:Addr)(W:World)(ha:W.cell? a=some (.pointer (some p))):
  (ReflectliteValue.method (ReflectliteValue.valueError "reflectlite.Value.IsNil" 0) ReflectliteValue.isNil #[.agg #[.pointer (some ⟨4,302,none⟩),.pointer (some a),.int .u64 150]]).run Tryz.prog W=.ok (.bool false) W:=by
 rw[Gp];simp only[eC,Sp,Result.andThen];simp[ReflectliteValue.isNil,loadVar,isAgg,underlying,Tryz.underlying302,ha,Result.andThen]
theorem zjM (h:Value)(w:World):(Go.method 635 433 (.agg #[h]) "Elem").run Tryz.prog w=.ok (454,.agg #[h]) w:=by kernel_rfl
theorem zjL (h:Value)(w:World):(Go.method 635 433 (.agg #[h]) "Implements").run Tryz.prog w=.ok (455,.agg #[h]) w:=by kernel_rfl
theorem zjN (h:Value)(w:World):(Go.method 635 433 (.agg #[h]) "AssignableTo").run Tryz.prog w=.ok (452,.agg #[h]) w:=by kernel_rfl
theorem zjU (w:World):(ReflectliteType.method ReflectliteType.elem #[.agg #[.pointer (some ⟨4,302,none⟩)]]).run Tryz.prog w=.ok (.iface 433 (.agg #[.pointer (some ⟨4,300,none⟩)])) w:=by kernel_rfl
theorem zjR (w:World):(ReflectliteType.relation "Implements" ReflectliteType.implements_ #[.agg #[.pointer (some ⟨4,300,none⟩)],.iface 433 (.agg #[.pointer (some ⟨4,252,none⟩)])]).run Tryz.prog w=.ok (.bool true) w:=by kernel_rfl
theorem zjE (v:Value)(w:World):(ReflectliteType.typeOf #[.iface 300 v]).run Tryz.prog w=.ok (.iface 433 (.agg #[.pointer (some ⟨4,300,none⟩)])) w:=by kernel_rfl
theorem zjW (w:World):(ReflectliteType.relation "AssignableTo" ReflectliteType.assignableTo #[.agg #[.pointer (some ⟨4,300,none⟩)],.iface 433 (.agg #[.pointer (some ⟨4,300,none⟩)])]).run Tryz.prog w=.ok (.bool true) w:=by kernel_rfl
theorem zjD (e:Addr)(w:World):(ReflectliteValue.unpack (.iface 300 (.pointer (some e)))).run Tryz.prog w
  =.ok (.agg #[.pointer (some ⟨4,300,none⟩),.pointer (some ⟨w.heap.size,0,none⟩),.int .u64 150]) (w.alloc (.cells #[.pointer (some e)] 300)):=by kernel_rfl
theorem zjT (w:World):(Rtype.elem? 302).run Tryz.prog w=.ok (some 300) w:=by kernel_rfl
theorem zjJ (p:Addr)(w:World):(ReflectliteValue.mk 300 p ReflectliteValue.flagAddr).run Tryz.prog w=.ok (.agg #[.pointer (some ⟨4,300,none⟩),.pointer (some p),.int .u64 406]) w:=by kernel_rfl
theorem zjS (a p:Addr)(W:World)(ha:W.cell? a=some (.pointer (some p))):
  (ReflectliteValue.method (ReflectliteValue.valueError "reflectlite.Value.Elem" 0) ReflectliteValue.elem #[.agg #[.pointer (some ⟨4,302,none⟩),.pointer (some a),.int .u64 150]]).run Tryz.prog W
    =.ok (.agg #[.pointer (some ⟨4,300,none⟩),.pointer (some p),.int .u64 406]) W:=by
 rw[Gp];simp only[eC,Sp,Result.andThen];simp[ReflectliteValue.elem,loadVar,isAgg,underlying,Tryz.underlying302,ha,Result.andThen,zjT,zjJ]
theorem rls (v x:Value):ReflectliteValue.set #[v,x]=(do
  let(some (dst,a,fl),some (src,b,_)):=(<-ReflectliteValue.parts v,<-ReflectliteValue.parts x)
   |unsupported (.noEntry "extern/(internal/reflectlite.Value).Set.zeroValue")
  if fl/ReflectliteValue.flagAddr%2==0 then unsupported (.noEntry "extern/(internal/reflectlite.Value).Set.unaddressable")
  let val<-loadVar src b
  if<-Rtype.directlyAssignable dst src then storeVar dst a val
  else if<-Rtype.implements dst src then
   if(<-Rtype.kind src)==20 then
    match val with
    |.nilIface=>unsupported (.noEntry "extern/reflectlite: a nil value of one interface type handed on as a value of another")
    |_=>storeVar dst a val
   else storeVar dst a (.iface src val)
  else panicString ("reflectlite.Set: value of type " ++(←Rtype.spelt src)++ " is not assignable to type " ++(←Rtype.spelt dst))
  pure (.tuple #[])):=rfl
theorem zjH (a:Addr)(w:World):(ReflectliteValue.parts (.agg #[.pointer (some ⟨4,300,none⟩),.pointer (some a),.int .u64 406])).run Tryz.prog w=.ok (some (300,a,406)) w:=by kernel_rfl
theorem zjI (a:Addr)(w:World):(ReflectliteValue.parts (.agg #[.pointer (some ⟨4,300,none⟩),.pointer (some a),.int .u64 150])).run Tryz.prog w=.ok (some (300,a,150)) w:=by kernel_rfl
theorem zjV (w:World):(Rtype.directlyAssignable 300 300).run Tryz.prog w=.ok true w:=by kernel_rfl
theorem zjG (ta b e:Addr)(old:Value)(W:World)(hb:W.cell? b=some (.pointer (some e)))(ht:W.cell? ta=some old)(hf:W.frozen? ta=false):
  (ReflectliteValue.set #[.agg #[.pointer (some ⟨4,300,none⟩),.pointer (some ta),.int .u64 406],.agg #[.pointer (some ⟨4,300,none⟩),.pointer (some b),.int .u64 150]]).run Tryz.prog W
    =.ok (.tuple #[]) (W.setCell ta (.pointer (some e))):=by
 rw[rls];simp only[eC,zjH,zjI,Result.andThen];simp[ReflectliteValue.flagAddr,loadVar,isAgg,underlying,Tryz.underlying300,hb,Result.andThen,zjV,storeVar,Value.cells,storeCells,Addr.add];rw[run_store Tryz.prog W ta _ _ (by rfl)];simp[ht,hf]
set_option maxHeartbeats 4000000 in
theorem zj3 (e t:Addr)(old:Value)(w:World)(hg:w.cell? ⟨1,0,none⟩=some (.iface 433 (.agg #[.pointer (some ⟨4,252,none⟩)])))(ht0:w.cell? t=some old)(hf0:w.frozen? t=false):
  Calls Tryz.prog 210 #[.iface 300 (.pointer (some e)),.iface 302 (.pointer (some t))] w fun ev w'=>ev=.returned (.bool true)/\w'=((((w.alloc (.cells #[.pointer (some t)] 302)).alloc (.cells #[.pointer (some ⟨4,302,none⟩),.pointer (some ⟨w.heap.size,0,none⟩),.int .u64 150] 357)).alloc (.cells #[.pointer (some ⟨4,302,none⟩),.pointer (some ⟨w.heap.size,0,none⟩),.int .u64 150] 357)).alloc (.cells #[.pointer (some e)] 300)).setCell t (.pointer (some e)):=by
 have h6:= @DG Tryz.prog 274 _ (fun args=>ReflectliteValue.unpack (args.getD 0 (.tuple #[]))) Tryz.func274 (by kernel_rfl) (by kernel_rfl) (by kernel_rfl) (by kernel_rfl);have h7:= @DG Tryz.prog 275 _ (ReflectliteValue.methodAny (ReflectliteValue.valueError "reflectlite.Value.Type" 0) (fun t _ _ _=>ReflectliteType.toType t)) Tryz.func275 (by kernel_rfl) (by kernel_rfl) (by kernel_rfl) (by kernel_rfl);have h8:= @DG Tryz.prog 276 _ (ReflectliteValue.method (ReflectliteValue.valueError "reflectlite.Value.IsNil" 0) ReflectliteValue.isNil) Tryz.func276 (by kernel_rfl) (by kernel_rfl) (by kernel_rfl) (by kernel_rfl);have h27:= @DG Tryz.prog 442 _ (ReflectliteType.abiMethod fun t=>do pure (.int .u8 (<-Rtype.kind t))) Tryz.func442 (by kernel_rfl) (by kernel_rfl) (by kernel_rfl) (by kernel_rfl);have h37:= @DG Tryz.prog 454 _ (ReflectliteType.method ReflectliteType.elem) Tryz.func454 (by kernel_rfl) (by kernel_rfl) (by kernel_rfl) (by kernel_rfl);have h38:= @DG Tryz.prog 455 _ (ReflectliteType.relation "Implements" ReflectliteType.implements_) Tryz.func455 (by kernel_rfl) (by kernel_rfl) (by kernel_rfl) (by kernel_rfl);have h10:= @DG Tryz.prog 347 _ ReflectliteType.typeOf Tryz.func347 (by kernel_rfl) (by kernel_rfl) (by kernel_rfl) (by kernel_rfl);have h35:= @DG Tryz.prog 452 _ (ReflectliteType.relation "AssignableTo" ReflectliteType.assignableTo) Tryz.func452 (by kernel_rfl) (by kernel_rfl) (by kernel_rfl) (by kernel_rfl);have h11:= @DG Tryz.prog 348 _ (ReflectliteValue.method (ReflectliteValue.valueError "reflectlite.Value.Elem" 0) ReflectliteValue.elem) Tryz.func348 (by kernel_rfl) (by kernel_rfl) (by kernel_rfl) (by kernel_rfl);have h12:= @DG Tryz.prog 349 _ ReflectliteValue.set Tryz.func349 (by kernel_rfl) (by kernel_rfl) (by kernel_rfl) (by kernel_rfl);have tO:=zjE;have mA:=zjN;have a25:=zjW;have v25:=zjD;have f6:=zjC;have f7:=zjF;have mK:=zjK;have mE:=zjM;have mI:=zjL;have k27:=zjO;have k25:=zjP;have e27:=zjU;have i25:=zjR;have n8:=zjQ ⟨w.heap.size,0,none⟩ t ((w.alloc (.cells #[.pointer (some t)] 302)).alloc (.cells #[.pointer (some ⟨4,302,none⟩),.pointer (some ⟨w.heap.size,0,none⟩),.int .u64 150] 357)) (by simp);have hlt:1<w.heap.size:=by
  rcases vX 1 w.heap.size with h|h
  ·exact h
  ·simp[World.cell?,OB h]at hg
 have hg2:((w.alloc (.cells #[.pointer (some t)] 302)).alloc (.cells #[.pointer (some ⟨4,302,none⟩),.pointer (some ⟨w.heap.size,0,none⟩),.int .u64 150] 357)).cell? ⟨1,0,none⟩=some (.iface 433 (.agg #[.pointer (some ⟨4,252,none⟩)])):=by
  rw[HH _ _ ⟨1,0,none⟩ (by first| (simp;done)| (simp;omega)),HH _ _ ⟨1,0,none⟩ hlt];exact hg
 have htl:t.block<w.heap.size:=by
  rcases vX t.block w.heap.size with h|h
  ·exact h
  ·simp[World.cell?,OB h]at ht0
 have el:=zjS ⟨w.heap.size,0,none⟩ t (((w.alloc (.cells #[.pointer (some t)] 302)).alloc (.cells #[.pointer (some ⟨4,302,none⟩),.pointer (some ⟨w.heap.size,0,none⟩),.int .u64 150] 357)).alloc (.cells #[.pointer (some ⟨4,302,none⟩),.pointer (some ⟨w.heap.size,0,none⟩),.int .u64 150] 357)) (by rw[HH _ _ ⟨w.heap.size,0,none⟩ (by simp;omega)];simp);have st:=zjG t ⟨w.heap.size+1+1+1,0,none⟩ e old ((((w.alloc (.cells #[.pointer (some t)] 302)).alloc (.cells #[.pointer (some ⟨4,302,none⟩),.pointer (some ⟨w.heap.size,0,none⟩),.int .u64 150] 357)).alloc (.cells #[.pointer (some ⟨4,302,none⟩),.pointer (some ⟨w.heap.size,0,none⟩),.int .u64 150] 357)).alloc (.cells #[.pointer (some e)] 300))
  (by rw[World.cell?_alloc_at _ _ _ _ (by simp)];rfl)
  (by rw[HH _ _ t (by simp;omega),HH _ _ t (by simp;omega),HH _ _ t (by simp;omega),HH _ _ t htl];exact ht0)
  (by rw[Aq _ _ t (by simp;omega),Aq _ _ t (by simp;omega),Aq _ _ t (by simp;omega),Aq _ _ t (Nat.ne_of_lt htl)];exact hf0)
 go_enter Tryz.func210,Tryz.ntmps210
 go_wp2
 refine wp_loop_rounds 1 ?_;rw[rounds_succ]
 go_wp2
 go_ret
 exact⟨rfl,rfl⟩
end Go.Proofs.YtegplpagkajolaaGreatDoor
end
