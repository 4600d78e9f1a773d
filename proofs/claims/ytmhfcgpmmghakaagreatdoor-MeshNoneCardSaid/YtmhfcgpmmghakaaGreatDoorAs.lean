/-
  The library's errors.As at this program's one type of errors, walked.
-/
import Derived.Test.YtmhfcgpmmghakaaGreatDoorTy
import Derived.WalkKit
import Derived.LaidEql
import Derived.Stop.Asserts
import Derived.RowKitTokens
set_option linter.unusedSimpArgs false
set_option linter.unusedVariables false
section
open Go.RowKit Go.Extern.Stop Go.Stop Go.Extern
namespace Go.Proofs.YtmhfcgpmmghakaaGreatDoor
theorem qri (t : Value) (w : World) :
  Calls Tryz.prog 112 #[.nilIface, t] w fun e w' => e = .returned (.bool false) ∧ w' = w := by
 go_enter Tryz.func112, Tryz.ntmps112
 go_wp2
 go_ret
 exact ⟨rfl, rfl⟩
theorem zre (t : Addr) (w : World) : (ReflectliteValue.unpack (.iface 212 (.pointer (some t)))).run Tryz.prog w
  = .ok (.agg #[.pointer (some ⟨4, 212, none⟩), .pointer (some ⟨w.heap.size, 0, none⟩), .int .u64 150]) (w.alloc (.cells #[.pointer (some t)] 212)) := by kernel_rfl
theorem qam (a : Addr) (w : World) : (ReflectliteValue.methodAny (ReflectliteValue.valueError "reflectlite.Value.Type" 0) (fun t _ _ _ => ReflectliteType.toType t) #[.agg #[.pointer (some ⟨4, 212, none⟩), .pointer (some a), .int .u64 150]]).run Tryz.prog w
  = .ok (.iface 359 (.agg #[.pointer (some ⟨4, 212, none⟩)])) w := by kernel_rfl
theorem zof (h : Value) (w : World) : (Go.method 621 359 (.agg #[h]) "Kind").run Tryz.prog w = .ok (423, h) w := by kernel_rfl
theorem qan (w : World) : ((ReflectliteType.abiMethod fun t => (fun a : Nat => Value.int IntKind.u8 (a : Int)) <$> Rtype.kind t) #[.pointer (some ⟨4, 212, none⟩)]).run Tryz.prog w = .ok (.int .u8 22) w := by kernel_rfl
theorem qao (w : World) : ((ReflectliteType.abiMethod fun t => (fun a : Nat => Value.int IntKind.u8 (a : Int)) <$> Rtype.kind t) #[.pointer (some ⟨4, 210, none⟩)]).run Tryz.prog w = .ok (.int .u8 22) w := by kernel_rfl
theorem rlm (z : Sem Value) (f : TypeId → Addr → Nat → Nat → Sem Value) (v : Value) :
  ReflectliteValue.method z f #[v] = (do match ← ReflectliteValue.parts v with | none => z | some (t, a, fl) => f t a fl (fl % 32)) := rfl
theorem zny (a : Addr) (w : World) : (ReflectliteValue.parts (.agg #[.pointer (some ⟨4, 212, none⟩), .pointer (some a), .int .u64 150])).run Tryz.prog w = .ok (some (212, a, 150)) w := by kernel_rfl
theorem zwj (a p : Addr) (W : World) (ha : W.cell? a = some (.pointer (some p))) :
  (ReflectliteValue.method (ReflectliteValue.valueError "reflectlite.Value.IsNil" 0) ReflectliteValue.isNil #[.agg #[.pointer (some ⟨4, 212, none⟩), .pointer (some a), .int .u64 150]]).run Tryz.prog W = .ok (.bool false) W := by
 rw [rlm]
 simp only [Sem.run_bind, zny, Result.andThen]
 simp [ReflectliteValue.isNil, loadVar, isAgg, underlying, Tryz.underlying212, ha, Result.andThen]
theorem zog (h : Value) (w : World) : (Go.method 621 359 (.agg #[h]) "Elem").run Tryz.prog w = .ok (435, .agg #[h]) w := by kernel_rfl
theorem zh5 (h : Value) (w : World) : (Go.method 621 359 (.agg #[h]) "Implements").run Tryz.prog w = .ok (436, .agg #[h]) w := by kernel_rfl
theorem zge (h : Value) (w : World) : (Go.method 621 359 (.agg #[h]) "AssignableTo").run Tryz.prog w = .ok (433, .agg #[h]) w := by kernel_rfl
theorem qap (w : World) : (ReflectliteType.method ReflectliteType.elem #[.agg #[.pointer (some ⟨4, 212, none⟩)]]).run Tryz.prog w = .ok (.iface 359 (.agg #[.pointer (some ⟨4, 210, none⟩)])) w := by kernel_rfl
theorem zlt (w : World) : (ReflectliteType.relation "Implements" ReflectliteType.implements_ #[.agg #[.pointer (some ⟨4, 210, none⟩)], .iface 359 (.agg #[.pointer (some ⟨4, 169, none⟩)])]).run Tryz.prog w = .ok (.bool true) w := by kernel_rfl
theorem zul (v : Value) (w : World) : (ReflectliteType.typeOf #[.iface 210 v]).run Tryz.prog w = .ok (.iface 359 (.agg #[.pointer (some ⟨4, 210, none⟩)])) w := by kernel_rfl
theorem zlu (w : World) : (ReflectliteType.relation "AssignableTo" ReflectliteType.assignableTo #[.agg #[.pointer (some ⟨4, 210, none⟩)], .iface 359 (.agg #[.pointer (some ⟨4, 210, none⟩)])]).run Tryz.prog w = .ok (.bool true) w := by kernel_rfl
theorem zrf (e : Addr) (w : World) : (ReflectliteValue.unpack (.iface 210 (.pointer (some e)))).run Tryz.prog w
  = .ok (.agg #[.pointer (some ⟨4, 210, none⟩), .pointer (some ⟨w.heap.size, 0, none⟩), .int .u64 150]) (w.alloc (.cells #[.pointer (some e)] 210)) := by kernel_rfl
theorem zun (w : World) : (Rtype.elem? 212).run Tryz.prog w = .ok (some 210) w := by kernel_rfl
theorem qiv (p : Addr) (w : World) : (ReflectliteValue.mk 210 p ReflectliteValue.flagAddr).run Tryz.prog w = .ok (.agg #[.pointer (some ⟨4, 210, none⟩), .pointer (some p), .int .u64 406]) w := by kernel_rfl
theorem zwk (a p : Addr) (W : World) (ha : W.cell? a = some (.pointer (some p))) :
  (ReflectliteValue.method (ReflectliteValue.valueError "reflectlite.Value.Elem" 0) ReflectliteValue.elem #[.agg #[.pointer (some ⟨4, 212, none⟩), .pointer (some a), .int .u64 150]]).run Tryz.prog W
    = .ok (.agg #[.pointer (some ⟨4, 210, none⟩), .pointer (some p), .int .u64 406]) W := by
 rw [rlm]
 simp only [Sem.run_bind, zny, Result.andThen]
 simp [ReflectliteValue.elem, loadVar, isAgg, underlying, Tryz.underlying212, ha, Result.andThen, zun, qiv]
theorem rls (v x : Value) : ReflectliteValue.set #[v, x] = (do
  let (some (dst, a, fl), some (src, b, _)) := (← ReflectliteValue.parts v, ← ReflectliteValue.parts x)
   | unsupported (.noEntry "extern/(internal/reflectlite.Value).Set.zeroValue")
  if fl / ReflectliteValue.flagAddr % 2 == 0 then unsupported (.noEntry "extern/(internal/reflectlite.Value).Set.unaddressable")
  let val ← loadVar src b
  if ← Rtype.directlyAssignable dst src then storeVar dst a val
  else if ← Rtype.implements dst src then
   if (← Rtype.kind src) == 20 then
    match val with
    | .nilIface => unsupported (.noEntry "extern/reflectlite: a nil value of one interface type handed on as a value of another")
    | _ => storeVar dst a val
   else storeVar dst a (.iface src val)
  else panicString ("reflectlite.Set: value of type " ++ (← Rtype.spelt src) ++ " is not assignable to type " ++ (← Rtype.spelt dst))
  pure (.tuple #[])) := rfl
theorem zum (a : Addr) (w : World) : (ReflectliteValue.parts (.agg #[.pointer (some ⟨4, 210, none⟩), .pointer (some a), .int .u64 406])).run Tryz.prog w = .ok (some (210, a, 406)) w := by kernel_rfl
theorem zwi (a : Addr) (w : World) : (ReflectliteValue.parts (.agg #[.pointer (some ⟨4, 210, none⟩), .pointer (some a), .int .u64 150])).run Tryz.prog w = .ok (some (210, a, 150)) w := by kernel_rfl
theorem zuo (w : World) : (Rtype.directlyAssignable 210 210).run Tryz.prog w = .ok true w := by kernel_rfl
theorem qfg (ta b e : Addr) (old : Value) (W : World) (hb : W.cell? b = some (.pointer (some e))) (ht : W.cell? ta = some old) (hf : W.frozen? ta = false) :
  (ReflectliteValue.set #[.agg #[.pointer (some ⟨4, 210, none⟩), .pointer (some ta), .int .u64 406], .agg #[.pointer (some ⟨4, 210, none⟩), .pointer (some b), .int .u64 150]]).run Tryz.prog W
    = .ok (.tuple #[]) (W.setCell ta (.pointer (some e))) := by
 rw [rls]
 simp only [Sem.run_bind, zum, zwi, Result.andThen]
 simp [ReflectliteValue.flagAddr, loadVar, isAgg, underlying, Tryz.underlying210, hb, Result.andThen, zuo, storeVar, Value.cells, storeCells, Addr.add]
 rw [run_store Tryz.prog W ta _ _ (by rfl)]
 simp [ht, hf]
set_option maxHeartbeats 4000000 in
theorem qrj (e t : Addr) (old : Value) (w : World) (hg : w.cell? ⟨0, 0, none⟩ = some (.iface 359 (.agg #[.pointer (some ⟨4, 169, none⟩)]))) (ht0 : w.cell? t = some old) (hf0 : w.frozen? t = false) :
  Calls Tryz.prog 112 #[.iface 210 (.pointer (some e)), .iface 212 (.pointer (some t))] w fun ev w' => ev = .returned (.bool true) ∧ w' = ((((w.alloc (.cells #[.pointer (some t)] 212)).alloc (.cells #[.pointer (some ⟨4, 212, none⟩), .pointer (some ⟨w.heap.size, 0, none⟩), .int .u64 150] 272)).alloc (.cells #[.pointer (some ⟨4, 212, none⟩), .pointer (some ⟨w.heap.size, 0, none⟩), .int .u64 150] 272)).alloc (.cells #[.pointer (some e)] 210)).setCell t (.pointer (some e)) := by
 have h6 := @run_callFunc_extern Tryz.prog 167 _ (fun args => ReflectliteValue.unpack (args.getD 0 (.tuple #[]))) Tryz.func167 (by kernel_rfl) (by kernel_rfl) (by kernel_rfl) (by kernel_rfl)
 have h7 := @run_callFunc_extern Tryz.prog 168 _ (ReflectliteValue.methodAny (ReflectliteValue.valueError "reflectlite.Value.Type" 0) (fun t _ _ _ => ReflectliteType.toType t)) Tryz.func168 (by kernel_rfl) (by kernel_rfl) (by kernel_rfl) (by kernel_rfl)
 have h8 := @run_callFunc_extern Tryz.prog 169 _ (ReflectliteValue.method (ReflectliteValue.valueError "reflectlite.Value.IsNil" 0) ReflectliteValue.isNil) Tryz.func169 (by kernel_rfl) (by kernel_rfl) (by kernel_rfl) (by kernel_rfl)
 have h27 := @run_callFunc_extern Tryz.prog 423 _ (ReflectliteType.abiMethod fun t => do pure (.int .u8 (← Rtype.kind t))) Tryz.func423 (by kernel_rfl) (by kernel_rfl) (by kernel_rfl) (by kernel_rfl)
 have h37 := @run_callFunc_extern Tryz.prog 435 _ (ReflectliteType.method ReflectliteType.elem) Tryz.func435 (by kernel_rfl) (by kernel_rfl) (by kernel_rfl) (by kernel_rfl)
 have h38 := @run_callFunc_extern Tryz.prog 436 _ (ReflectliteType.relation "Implements" ReflectliteType.implements_) Tryz.func436 (by kernel_rfl) (by kernel_rfl) (by kernel_rfl) (by kernel_rfl)
 have h10 := @run_callFunc_extern Tryz.prog 246 _ ReflectliteType.typeOf Tryz.func246 (by kernel_rfl) (by kernel_rfl) (by kernel_rfl) (by kernel_rfl)
 have h35 := @run_callFunc_extern Tryz.prog 433 _ (ReflectliteType.relation "AssignableTo" ReflectliteType.assignableTo) Tryz.func433 (by kernel_rfl) (by kernel_rfl) (by kernel_rfl) (by kernel_rfl)
 have h11 := @run_callFunc_extern Tryz.prog 247 _ (ReflectliteValue.method (ReflectliteValue.valueError "reflectlite.Value.Elem" 0) ReflectliteValue.elem) Tryz.func247 (by kernel_rfl) (by kernel_rfl) (by kernel_rfl) (by kernel_rfl)
 have h12 := @run_callFunc_extern Tryz.prog 248 _ ReflectliteValue.set Tryz.func248 (by kernel_rfl) (by kernel_rfl) (by kernel_rfl) (by kernel_rfl)
 have tO := zul
 have mA := zge
 have a25 := zlu
 have v25 := zrf
 have f6 := zre
 have f7 := qam
 have mK := zof
 have mE := zog
 have mI := zh5
 have k27 := qan
 have k25 := qao
 have e27 := qap
 have i25 := zlt
 have n8 := zwj ⟨w.heap.size, 0, none⟩ t ((w.alloc (.cells #[.pointer (some t)] 212)).alloc (.cells #[.pointer (some ⟨4, 212, none⟩), .pointer (some ⟨w.heap.size, 0, none⟩), .int .u64 150] 272)) (by simp)
 have hlt : 0 < w.heap.size := by
  rcases Nat.eq_zero_or_pos w.heap.size with h0 | h
  ·simp [World.cell?, h0] at hg
  ·exact h
 have hg2 : ((w.alloc (.cells #[.pointer (some t)] 212)).alloc (.cells #[.pointer (some ⟨4, 212, none⟩), .pointer (some ⟨w.heap.size, 0, none⟩), .int .u64 150] 272)).cell? ⟨0, 0, none⟩ = some (.iface 359 (.agg #[.pointer (some ⟨4, 169, none⟩)])) := by
  rw [World.cell?_alloc_lt _ _ ⟨0, 0, none⟩ (by simp), World.cell?_alloc_lt _ _ ⟨0, 0, none⟩ hlt]; exact hg
 have htl : t.block < w.heap.size := by
  rcases Nat.lt_or_ge t.block w.heap.size with h | h
  ·exact h
  ·simp [World.cell?, Array.getElem?_eq_none h] at ht0
 have el := zwk ⟨w.heap.size, 0, none⟩ t (((w.alloc (.cells #[.pointer (some t)] 212)).alloc (.cells #[.pointer (some ⟨4, 212, none⟩), .pointer (some ⟨w.heap.size, 0, none⟩), .int .u64 150] 272)).alloc (.cells #[.pointer (some ⟨4, 212, none⟩), .pointer (some ⟨w.heap.size, 0, none⟩), .int .u64 150] 272)) (by rw [World.cell?_alloc_lt _ _ ⟨w.heap.size, 0, none⟩ (by simp; omega)]; simp)
 have st := qfg t ⟨w.heap.size + 1 + 1 + 1, 0, none⟩ e old ((((w.alloc (.cells #[.pointer (some t)] 212)).alloc (.cells #[.pointer (some ⟨4, 212, none⟩), .pointer (some ⟨w.heap.size, 0, none⟩), .int .u64 150] 272)).alloc (.cells #[.pointer (some ⟨4, 212, none⟩), .pointer (some ⟨w.heap.size, 0, none⟩), .int .u64 150] 272)).alloc (.cells #[.pointer (some e)] 210))
  (by rw [World.cell?_alloc_at _ _ _ _ (by simp)]; rfl)
  (by rw [World.cell?_alloc_lt _ _ t (by simp; omega), World.cell?_alloc_lt _ _ t (by simp; omega), World.cell?_alloc_lt _ _ t (by simp; omega), World.cell?_alloc_lt _ _ t htl]; exact ht0)
  (by rw [World.frozen?_alloc_old _ _ t (by simp; omega), World.frozen?_alloc_old _ _ t (by simp; omega), World.frozen?_alloc_old _ _ t (by simp; omega), World.frozen?_alloc_old _ _ t (Nat.ne_of_lt htl)]; exact hf0)
 go_enter Tryz.func112, Tryz.ntmps112
 go_wp2
 refine wp_loop_rounds 1 ?_
 rw [rounds_succ]
 go_wp2
 go_ret
 exact ⟨rfl, rfl⟩
end Go.Proofs.YtmhfcgpmmghakaaGreatDoor
end
