/-
  The library's errors.As at this program's one type of errors, walked.
-/
import Derived.Test.YtbmnaehodmgibaaGreatDoorTy
import Derived.WalkKit
import Derived.LaidEql
import Derived.Stop.Asserts
import Derived.RowKitTokens
set_option linter.unusedSimpArgs false
set_option linter.unusedVariables false
section
open Go.RowKit Go.Extern.Stop Go.Stop Go.Extern
namespace Go.Proofs.YtbmnaehodmgibaaGreatDoor
theorem qkl (t : Value) (w : World) :
  Calls Tryz.prog 186 #[.nilIface, t] w fun e w' => e = .returned (.bool false) ∧ w' = w := by
 go_enter Tryz.func186, Tryz.ntmps186
 go_wp2
 go_ret
 exact ⟨rfl, rfl⟩
theorem zpu (t : Addr) (w : World) : (ReflectliteValue.unpack (.iface 264 (.pointer (some t)))).run Tryz.prog w
  = .ok (.agg #[.pointer (some ⟨4, 264, none⟩), .pointer (some ⟨w.heap.size, 0, none⟩), .int .u64 150]) (w.alloc (.cells #[.pointer (some t)] 264)) := by kernel_rfl
theorem zye (a : Addr) (w : World) : (ReflectliteValue.methodAny (ReflectliteValue.valueError "reflectlite.Value.Type" 0) (fun t _ _ _ => ReflectliteType.toType t) #[.agg #[.pointer (some ⟨4, 264, none⟩), .pointer (some a), .int .u64 150]]).run Tryz.prog w
  = .ok (.iface 366 (.agg #[.pointer (some ⟨4, 264, none⟩)])) w := by kernel_rfl
theorem znd (h : Value) (w : World) : (Go.method 539 366 (.agg #[h]) "Kind").run Tryz.prog w = .ok (367, h) w := by kernel_rfl
theorem zyf (w : World) : ((ReflectliteType.abiMethod fun t => (fun a : Nat => Value.int IntKind.u8 (a : Int)) <$> Rtype.kind t) #[.pointer (some ⟨4, 264, none⟩)]).run Tryz.prog w = .ok (.int .u8 22) w := by kernel_rfl
theorem zyg (w : World) : ((ReflectliteType.abiMethod fun t => (fun a : Nat => Value.int IntKind.u8 (a : Int)) <$> Rtype.kind t) #[.pointer (some ⟨4, 262, none⟩)]).run Tryz.prog w = .ok (.int .u8 22) w := by kernel_rfl
theorem rlm (z : Sem Value) (f : TypeId → Addr → Nat → Nat → Sem Value) (v : Value) :
  ReflectliteValue.method z f #[v] = (do match ← ReflectliteValue.parts v with | none => z | some (t, a, fl) => f t a fl (fl % 32)) := rfl
theorem zm0 (a : Addr) (w : World) : (ReflectliteValue.parts (.agg #[.pointer (some ⟨4, 264, none⟩), .pointer (some a), .int .u64 150])).run Tryz.prog w = .ok (some (264, a, 150)) w := by kernel_rfl
theorem zur (a p : Addr) (W : World) (ha : W.cell? a = some (.pointer (some p))) :
  (ReflectliteValue.method (ReflectliteValue.valueError "reflectlite.Value.IsNil" 0) ReflectliteValue.isNil #[.agg #[.pointer (some ⟨4, 264, none⟩), .pointer (some a), .int .u64 150]]).run Tryz.prog W = .ok (.bool false) W := by
 rw [rlm]
 simp only [Sem.run_bind, zm0, Result.andThen]
 simp [ReflectliteValue.isNil, loadVar, isAgg, underlying, Tryz.underlying264, ha, Result.andThen]
theorem zne (h : Value) (w : World) : (Go.method 539 366 (.agg #[h]) "Elem").run Tryz.prog w = .ok (378, .agg #[h]) w := by kernel_rfl
theorem zhr (h : Value) (w : World) : (Go.method 539 366 (.agg #[h]) "Implements").run Tryz.prog w = .ok (379, .agg #[h]) w := by kernel_rfl
theorem zgn (h : Value) (w : World) : (Go.method 539 366 (.agg #[h]) "AssignableTo").run Tryz.prog w = .ok (376, .agg #[h]) w := by kernel_rfl
theorem zyh (w : World) : (ReflectliteType.method ReflectliteType.elem #[.agg #[.pointer (some ⟨4, 264, none⟩)]]).run Tryz.prog w = .ok (.iface 366 (.agg #[.pointer (some ⟨4, 262, none⟩)])) w := by kernel_rfl
theorem zk2 (w : World) : (ReflectliteType.relation "Implements" ReflectliteType.implements_ #[.agg #[.pointer (some ⟨4, 262, none⟩)], .iface 366 (.agg #[.pointer (some ⟨4, 165, none⟩)])]).run Tryz.prog w = .ok (.bool true) w := by kernel_rfl
theorem zsz (v : Value) (w : World) : (ReflectliteType.typeOf #[.iface 262 v]).run Tryz.prog w = .ok (.iface 366 (.agg #[.pointer (some ⟨4, 262, none⟩)])) w := by kernel_rfl
theorem zk3 (w : World) : (ReflectliteType.relation "AssignableTo" ReflectliteType.assignableTo #[.agg #[.pointer (some ⟨4, 262, none⟩)], .iface 366 (.agg #[.pointer (some ⟨4, 262, none⟩)])]).run Tryz.prog w = .ok (.bool true) w := by kernel_rfl
theorem zpv (e : Addr) (w : World) : (ReflectliteValue.unpack (.iface 262 (.pointer (some e)))).run Tryz.prog w
  = .ok (.agg #[.pointer (some ⟨4, 262, none⟩), .pointer (some ⟨w.heap.size, 0, none⟩), .int .u64 150]) (w.alloc (.cells #[.pointer (some e)] 262)) := by kernel_rfl
theorem zs1 (w : World) : (Rtype.elem? 264).run Tryz.prog w = .ok (some 262) w := by kernel_rfl
theorem qeo (p : Addr) (w : World) : (ReflectliteValue.mk 262 p ReflectliteValue.flagAddr).run Tryz.prog w = .ok (.agg #[.pointer (some ⟨4, 262, none⟩), .pointer (some p), .int .u64 406]) w := by kernel_rfl
theorem zus (a p : Addr) (W : World) (ha : W.cell? a = some (.pointer (some p))) :
  (ReflectliteValue.method (ReflectliteValue.valueError "reflectlite.Value.Elem" 0) ReflectliteValue.elem #[.agg #[.pointer (some ⟨4, 264, none⟩), .pointer (some a), .int .u64 150]]).run Tryz.prog W
    = .ok (.agg #[.pointer (some ⟨4, 262, none⟩), .pointer (some p), .int .u64 406]) W := by
 rw [rlm]
 simp only [Sem.run_bind, zm0, Result.andThen]
 simp [ReflectliteValue.elem, loadVar, isAgg, underlying, Tryz.underlying264, ha, Result.andThen, zs1, qeo]
theorem rls (v x : Value) : ReflectliteValue.set #[v, x] = (do
  let (some (dst, a, fl), some (src, b, _)) := (← ReflectliteValue.parts v, ← ReflectliteValue.parts x)
   | unsupported (.noEntry "extern/(internal/reflectlite.Value).Set.zeroValue")
  if fl / ReflectliteValue.flagAddr % 2 == 0 then unsupported (.noEntry "extern/(internal/reflectlite.Value).Set.unaddressable")
  let val ← loadVar src b
  if ← Rtype.directlyAssignable dst src then storeVar dst a val
  else if ← Rtype.implements dst src then
   if (← Rtype.kind src) == 20 then
    match val with
    | .nilIface => unsupported (.noEntry "extern/reflectlite: a nil value of one interface type handed on as a value of another")
    | _ => storeVar dst a val
   else storeVar dst a (.iface src val)
  else panicString ("reflectlite.Set: value of type " ++ (← Rtype.spelt src) ++ " is not assignable to type " ++ (← Rtype.spelt dst))
  pure (.tuple #[])) := rfl
theorem zs0 (a : Addr) (w : World) : (ReflectliteValue.parts (.agg #[.pointer (some ⟨4, 262, none⟩), .pointer (some a), .int .u64 406])).run Tryz.prog w = .ok (some (262, a, 406)) w := by kernel_rfl
theorem zuq (a : Addr) (w : World) : (ReflectliteValue.parts (.agg #[.pointer (some ⟨4, 262, none⟩), .pointer (some a), .int .u64 150])).run Tryz.prog w = .ok (some (262, a, 150)) w := by kernel_rfl
theorem zs2 (w : World) : (Rtype.directlyAssignable 262 262).run Tryz.prog w = .ok true w := by kernel_rfl
theorem qb0 (ta b e : Addr) (old : Value) (W : World) (hb : W.cell? b = some (.pointer (some e))) (ht : W.cell? ta = some old) (hf : W.frozen? ta = false) :
  (ReflectliteValue.set #[.agg #[.pointer (some ⟨4, 262, none⟩), .pointer (some ta), .int .u64 406], .agg #[.pointer (some ⟨4, 262, none⟩), .pointer (some b), .int .u64 150]]).run Tryz.prog W
    = .ok (.tuple #[]) (W.setCell ta (.pointer (some e))) := by
 rw [rls]
 simp only [Sem.run_bind, zs0, zuq, Result.andThen]
 simp [ReflectliteValue.flagAddr, loadVar, isAgg, underlying, Tryz.underlying262, hb, Result.andThen, zs2, storeVar, Value.cells, storeCells, Addr.add]
 rw [run_store Tryz.prog W ta _ _ (by rfl)]
 simp [ht, hf]
set_option maxHeartbeats 4000000 in
theorem qkm (e t : Addr) (old : Value) (w : World) (hg : w.cell? ⟨0, 0, none⟩ = some (.iface 366 (.agg #[.pointer (some ⟨4, 165, none⟩)]))) (ht0 : w.cell? t = some old) (hf0 : w.frozen? t = false) :
  Calls Tryz.prog 186 #[.iface 262 (.pointer (some e)), .iface 264 (.pointer (some t))] w fun ev w' => ev = .returned (.bool true) ∧ w' = ((((w.alloc (.cells #[.pointer (some t)] 264)).alloc (.cells #[.pointer (some ⟨4, 264, none⟩), .pointer (some ⟨w.heap.size, 0, none⟩), .int .u64 150] 313)).alloc (.cells #[.pointer (some ⟨4, 264, none⟩), .pointer (some ⟨w.heap.size, 0, none⟩), .int .u64 150] 313)).alloc (.cells #[.pointer (some e)] 262)).setCell t (.pointer (some e)) := by
 have h6 := @run_callFunc_extern Tryz.prog 246 _ (fun args => ReflectliteValue.unpack (args.getD 0 (.tuple #[]))) Tryz.func246 (by kernel_rfl) (by kernel_rfl) (by kernel_rfl) (by kernel_rfl)
 have h7 := @run_callFunc_extern Tryz.prog 247 _ (ReflectliteValue.methodAny (ReflectliteValue.valueError "reflectlite.Value.Type" 0) (fun t _ _ _ => ReflectliteType.toType t)) Tryz.func247 (by kernel_rfl) (by kernel_rfl) (by kernel_rfl) (by kernel_rfl)
 have h8 := @run_callFunc_extern Tryz.prog 248 _ (ReflectliteValue.method (ReflectliteValue.valueError "reflectlite.Value.IsNil" 0) ReflectliteValue.isNil) Tryz.func248 (by kernel_rfl) (by kernel_rfl) (by kernel_rfl) (by kernel_rfl)
 have h27 := @run_callFunc_extern Tryz.prog 367 _ (ReflectliteType.abiMethod fun t => do pure (.int .u8 (← Rtype.kind t))) Tryz.func367 (by kernel_rfl) (by kernel_rfl) (by kernel_rfl) (by kernel_rfl)
 have h37 := @run_callFunc_extern Tryz.prog 378 _ (ReflectliteType.method ReflectliteType.elem) Tryz.func378 (by kernel_rfl) (by kernel_rfl) (by kernel_rfl) (by kernel_rfl)
 have h38 := @run_callFunc_extern Tryz.prog 379 _ (ReflectliteType.relation "Implements" ReflectliteType.implements_) Tryz.func379 (by kernel_rfl) (by kernel_rfl) (by kernel_rfl) (by kernel_rfl)
 have h10 := @run_callFunc_extern Tryz.prog 303 _ ReflectliteType.typeOf Tryz.func303 (by kernel_rfl) (by kernel_rfl) (by kernel_rfl) (by kernel_rfl)
 have h35 := @run_callFunc_extern Tryz.prog 376 _ (ReflectliteType.relation "AssignableTo" ReflectliteType.assignableTo) Tryz.func376 (by kernel_rfl) (by kernel_rfl) (by kernel_rfl) (by kernel_rfl)
 have h11 := @run_callFunc_extern Tryz.prog 304 _ (ReflectliteValue.method (ReflectliteValue.valueError "reflectlite.Value.Elem" 0) ReflectliteValue.elem) Tryz.func304 (by kernel_rfl) (by kernel_rfl) (by kernel_rfl) (by kernel_rfl)
 have h12 := @run_callFunc_extern Tryz.prog 305 _ ReflectliteValue.set Tryz.func305 (by kernel_rfl) (by kernel_rfl) (by kernel_rfl) (by kernel_rfl)
 have tO := zsz
 have mA := zgn
 have a25 := zk3
 have v25 := zpv
 have f6 := zpu
 have f7 := zye
 have mK := znd
 have mE := zne
 have mI := zhr
 have k27 := zyf
 have k25 := zyg
 have e27 := zyh
 have i25 := zk2
 have n8 := zur ⟨w.heap.size, 0, none⟩ t ((w.alloc (.cells #[.pointer (some t)] 264)).alloc (.cells #[.pointer (some ⟨4, 264, none⟩), .pointer (some ⟨w.heap.size, 0, none⟩), .int .u64 150] 313)) (by simp)
 have hlt : 0 < w.heap.size := by
  rcases Nat.eq_zero_or_pos w.heap.size with h0 | h
  ·simp [World.cell?, h0] at hg
  ·exact h
 have hg2 : ((w.alloc (.cells #[.pointer (some t)] 264)).alloc (.cells #[.pointer (some ⟨4, 264, none⟩), .pointer (some ⟨w.heap.size, 0, none⟩), .int .u64 150] 313)).cell? ⟨0, 0, none⟩ = some (.iface 366 (.agg #[.pointer (some ⟨4, 165, none⟩)])) := by
  rw [World.cell?_alloc_lt _ _ ⟨0, 0, none⟩ (by simp), World.cell?_alloc_lt _ _ ⟨0, 0, none⟩ hlt]; exact hg
 have htl : t.block < w.heap.size := by
  rcases Nat.lt_or_ge t.block w.heap.size with h | h
  ·exact h
  ·simp [World.cell?, Array.getElem?_eq_none h] at ht0
 have el := zus ⟨w.heap.size, 0, none⟩ t (((w.alloc (.cells #[.pointer (some t)] 264)).alloc (.cells #[.pointer (some ⟨4, 264, none⟩), .pointer (some ⟨w.heap.size, 0, none⟩), .int .u64 150] 313)).alloc (.cells #[.pointer (some ⟨4, 264, none⟩), .pointer (some ⟨w.heap.size, 0, none⟩), .int .u64 150] 313)) (by rw [World.cell?_alloc_lt _ _ ⟨w.heap.size, 0, none⟩ (by simp; omega)]; simp)
 have st := qb0 t ⟨w.heap.size + 1 + 1 + 1, 0, none⟩ e old ((((w.alloc (.cells #[.pointer (some t)] 264)).alloc (.cells #[.pointer (some ⟨4, 264, none⟩), .pointer (some ⟨w.heap.size, 0, none⟩), .int .u64 150] 313)).alloc (.cells #[.pointer (some ⟨4, 264, none⟩), .pointer (some ⟨w.heap.size, 0, none⟩), .int .u64 150] 313)).alloc (.cells #[.pointer (some e)] 262))
  (by rw [World.cell?_alloc_at _ _ _ _ (by simp)]; rfl)
  (by rw [World.cell?_alloc_lt _ _ t (by simp; omega), World.cell?_alloc_lt _ _ t (by simp; omega), World.cell?_alloc_lt _ _ t (by simp; omega), World.cell?_alloc_lt _ _ t htl]; exact ht0)
  (by rw [World.frozen?_alloc_old _ _ t (by simp; omega), World.frozen?_alloc_old _ _ t (by simp; omega), World.frozen?_alloc_old _ _ t (by simp; omega), World.frozen?_alloc_old _ _ t (Nat.ne_of_lt htl)]; exact hf0)
 go_enter Tryz.func186, Tryz.ntmps186
 go_wp2
 refine wp_loop_rounds 1 ?_
 rw [rounds_succ]
 go_wp2
 go_ret
 exact ⟨rfl, rfl⟩
end Go.Proofs.YtbmnaehodmgibaaGreatDoor
end
