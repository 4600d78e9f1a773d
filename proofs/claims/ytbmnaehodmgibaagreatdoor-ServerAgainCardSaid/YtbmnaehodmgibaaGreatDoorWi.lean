/-
  LAYERS 16 to 19: the walks of caches, of pins, of what is warm, and of sidecars.
-/
import Derived.Test.YtbmnaehodmgibaaGreatDoorWe
import Derived.Test.YtbmnaehodmgibaaGreatDoorPq
import Derived.Defers
import Derived.Recover
import Derived.Tactics
import Derived.Tactics2
import Derived.WalkLawsBesides
import Derived.Test.YtbmnaehodmgibaaGreatDoorWg
import Derived.Test.YtbmnaehodmgibaaGreatDoorFe
set_option linter.unusedSimpArgs false
set_option linter.unusedVariables false
section
namespace Go.Proofs.YtbmnaehodmgibaaGreatDoor
open Go.AI Go.G
set_option maxRecDepth 20000
abbrev badV (n : Int) : Value := .iface 391 (.agg #[.int .i64 n])
theorem qir (w : World) (v : Value) : (Instr.typeAssert (.iface 391 v) 20 391 false).run Tryz.prog w = .ok v w := by kernel_rfl
theorem qj6 (w : World) (n : Int) : (Instr.field 391 (.agg #[.int .i64 n]) 0).run Tryz.prog w = .ok (.int .i64 n) w := by kernel_rfl
theorem zx9 (p : Addr) (w : World) :
  CallsD Tryz.prog 330 #[.pointer (some p)] .returning w fun e u' w' => e = .returned (.tuple #[]) ∧ u' = .returning ∧ w' = w := by
 refine callsD_of_wpS Tryz.func330 rfl fun c₀ cs hu => ?_
 apply wpS_seq
 apply wpS_region
 simp [wpOpsS, go_sem, recoverD, hu, Tryz.ntmps330, Exit.thenS]
 apply wpS_seq
 apply wpS_region
 simp [wpOpsS, go_sem, recoverD, hu, Tryz.ntmps330, Exit.thenS]
 refine wpS_cond (t := false) (by simp [Act.eval, Array.replicate]) ?_
 simp only [Bool.false_eq_true, if_false]
 refine wpS_of_wp (wp_skip ?_)
 cases c₀
 simp_all [bodyPostS, results, Tryz.results330]
theorem qej (p : Addr) (x : Value) (n : Int) (w : World) (hc : w.cell? p = some x) (hz : w.frozen? p = false) :
  CallsD Tryz.prog 330 #[.pointer (some p)] (.panicking (pan (badV n))) w fun e u' w' =>
   e = .returned (.tuple #[]) ∧ u' = .panicking [{ v := badV n, recovered := true }] ∧ w' = w.setCell p (.int .i64 n) := by
 refine callsD_of_wpS Tryz.func330 rfl fun c₀ cs hu => ?_
 apply wpS_seq
 apply wpS_region
 simp [wpOpsS, go_sem, recoverD, hu, Tryz.ntmps330, Exit.thenS]
 apply wpS_seq
 apply wpS_region
 simp [wpOpsS, go_sem, recoverD, hu, Tryz.ntmps330, Exit.thenS]
 refine wpS_cond (t := true) (by simp [Act.eval, Array.replicate]) ?_
 simp only [if_true]
 apply wpS_region
 simp [wpOpsS, go_sem, qir, qj6, hc, hz, bodyPostS, results, Tryz.results330]
theorem qde (n : Int) (h : ¬ n = 0) (w : World) : Calls Tryz.prog 331 #[.int .i64 n] w fun e w' => e = .panicked (pan (badV n)) ∧ w' = w := by
 go_enter Tryz.func331, Tryz.ntmps331
 go_wp2
 exact ⟨rfl, rfl, rfl⟩
theorem qei (g : FuncId) (xs : Array Value) (w : World) (R : Ending → World → Prop) (hen : zbu Tryz.prog g) (S : Int → World → Prop)
  (hdo : Calls Tryz.prog g xs (w.alloc (.cells #[.int .i64 0] 28)) fun e w' => ∃ n, S n w' ∧ (∃ x, w'.cell? ⟨w.heap.size, 0, none⟩ = some x) ∧ w'.frozen? ⟨w.heap.size, 0, none⟩ = false ∧ ((n = 0 ∧ ∃ v, e = .returned v) ∨ e = .panicked (pan (badV n))))
  (hR : ∀ n w', S n w' → R (.returned (.int .i64 n)) (w'.setCell ⟨w.heap.size, 0, none⟩ (.int .i64 n))) : Calls Tryz.prog 299 #[.func (.func g) #[] xs] w R := by
 have hmf : ∀ (fn : Fn) (first cap : Array Value) (w : World), (Instr.makeFunc fn first cap).run Tryz.prog w = .ok (.func fn first cap) w := fun _ _ _ _ => rfl
 go_enter_defers Tryz.func299, Tryz.ntmps299
 refine wp_seq (wp_region ?_)
 simp [wpOps, go_sem, Oper.wp, Exit.then]
 refine .inl ?_
 refine wp_seq (wp_region ?_)
 simp [wpOps, go_sem, Oper.wp, Exit.then, hmf]
 refine .inl (.inl ?_)
 refine wp_seq (wp_region ?_)
 simp [wpOps, go_sem, Oper.wp, Exit.then, invoke]
 refine .inl (.inl ?_)
 rw [hen]
 simp only [Oper.upon]
 refine hdo.mono fun e w' ⟨n, h1, ⟨x, h2⟩, h3, h4⟩ => ?_
 rcases h4 with ⟨rfl, v, rfl⟩ | rfl
 ·refine wp_seq (wp_region ?_)
  simp [wpOps, go_sem, Oper.wp, Exit.then, h2, h3]
  refine .inl (wp_ret ?_)
  refine leaves_cons (f := 330) (args := #[.pointer (some ⟨w.heap.size, 0, none⟩)]) (by simp) (by simp [go_sem]) ?_
  refine (zx9 ⟨w.heap.size, 0, none⟩ _).mono ?_
  rintro e u' w'' ⟨rfl, rfl, rfl⟩
  simp [Leaves, settle, results, Tryz.results299, go_sem, h2]
  exact hR 0 w' h1
 ·refine leaves_cons (f := 330) (args := #[.pointer (some ⟨w.heap.size, 0, none⟩)]) (by simp) (by simp [go_sem]) ?_
  refine (qej ⟨w.heap.size, 0, none⟩ x n _ h2 h3).mono ?_
  rintro e u' w'' ⟨rfl, rfl, rfl⟩
  simp [Leaves, settle, results, Tryz.results299, go_sem, h2]
  exact hR n w' h1
theorem zwb {fin : Value → Ending} {g : FuncId} {args : List AV} {mr m m' : List (Nat × Blk)} {res : AV} (n : Int) (hen : zbu Tryz.prog g) (hct : CtF (fun _ _ => True) fin Tryz.prog g args mr m res m') (hf : ∀ v, (n = 0 ∧ fin v = .returned v) ∨ fin v = .panicked (pan (badV n))) :
  Ct Tryz.prog 299 [.fn (.func g) [] args] mr m (int n) m' := by
 intro σ I w vs hib hl hv hrm hfree
 obtain ⟨v, rfl⟩ : ∃ v, vs = [v] := by
  match vs, hl with
  | [v], _ => exact ⟨v, rfl⟩
 have h0 := hv 0 _ v rfl rfl
 cases h0 with
 | @fn _ _ _ xs ys hx hy h1 h2 =>
   obtain rfl : xs = [] := List.eq_nil_of_length_eq_zero (by simpa using hx)
   refine qei g ys.toArray w _ hen (fun k w' => k = n ∧ ∃ σ' I', Post σ I (w.alloc (.cells #[.int .i64 0] 28)) (zab (mr ++ m)) 64 σ' I' w' (zab (mr ++ m'))) ?_ ?_
   ·have hold : ∀ k, k < w.heap.size → (w.alloc (.cells #[.int .i64 0] 28)).heap[k]? = w.heap[k]? := fun k hk => heap_alloc_old w _ hk
    refine (hct σ I _ ys trivial (fun k hk => by have := hib k hk; simp; omega) hy (fun i c x p1 p2 => (h2 i c x p1 p2).mono (fun k hk => hold k (hib k hk)) (fun _ h => h) (fun _ _ h => h)) (hrm.moved (by simp) fun k hk => hold k ?_) hfree).mono fun e w' ⟨v, σ', I', he, hp, _⟩ => ?_
    ·rcases hk with hk | ⟨b, q, y, q1, q2, q3⟩
     ·exact hib k hk
     ·obtain ⟨y', q4, _, q5⟩ := hrm.blk b q q1
      rw [q2] at q4; cases q4
      exact (q5 k q3).1
    ·obtain ⟨_, p2, p3⟩ := zq5 (v := undef) hrm hib hp
     exact ⟨n, ⟨rfl, σ', I', hp⟩, ⟨_, p2⟩, p3, (hf v).imp (fun ⟨a, b⟩ => ⟨a, v, he.trans b⟩) he.trans⟩
   ·rintro k w' ⟨rfl, σ', I', hp⟩
    exact ⟨_, σ', I', rfl, (zq5 hrm hib hp).1, .d (.v _)⟩
theorem zsx {g : FuncId} {args : List AV} {mr m m' : List (Nat × Blk)} {res : AV} (hen : zbu Tryz.prog g) (hct : Ct Tryz.prog g args mr m res m') : Ct Tryz.prog 299 [.fn (.func g) [] args] mr m (int 0) m' := zwb 0 hen hct.F fun _ => .inl ⟨rfl, rfl⟩
theorem zsw {g : FuncId} {args : List AV} {mr m m' : List (Nat × Blk)} {n : Int} (hen : zbu Tryz.prog g) (hct : CtX Tryz.prog g args mr m (badV n) m') : Ct Tryz.prog 299 [.fn (.func g) [] args] mr m (int n) m' := zwb n hen hct fun _ => .inr rfl
theorem zt2 (n : Int) (h : ¬ n = 0) : CtX Tryz.prog 331 [int n] [] [] (badV n) [] := by
 intro σ I w vs _ hib hl hv hrm hfree
 obtain ⟨v, rfl⟩ : ∃ v, vs = [v] := by
  match vs, hl with
  | [v], _ => exact ⟨v, rfl⟩
 have h0 := hv 0 _ v rfl rfl
 cases h0 with
 | d h0 => cases h0 with
   | v =>
     refine (qde n h w).mono fun e w' ⟨he, hw⟩ => ?_
     subst hw
     exact ⟨undef, σ, I, he, ⟨rfl, rfl, SameOut.refl _, Nat.le_refl _, fun _ _ h => h, fun b h1 h2 => absurd h1 h2, fun _ h => h, hib, fun _ h => .inl h, fun _ _ _ => rfl, hrm, fun b k h => by simp [zab] at h, fun _ h => .inl h⟩, .any _⟩
attribute [simp] Tryz.ntmps331 Tryz.results331
theorem zju : Ct Tryz.prog 331 [int 0] [] [] (.tup []) [] := by
 refine Ct.B Tryz.func331 mixed 9999 400 ?_
 simp
 first | exact fin0 (by simp) rfl | exact zaa (by simp)
attribute [simp] Tryz.ntmps332 Tryz.results332
theorem zp9 (n : Int) : Ct Tryz.prog 332 [bool true, int n] [] [] (int 0) [] := by
 refine Ct.B Tryz.func332 mixed 9999 400 ?_
 simp
 first | exact fin0 (by simp) rfl | exact zaa (by simp)
theorem zyt (n : Int) : Ct Tryz.prog 332 [bool false, int n] [] [] (int n) [] := by
 refine Ct.B Tryz.func332 mixed 9999 400 ?_
 simp
 first | exact fin0 (by simp) rfl | exact zaa (by simp)
attribute [simp] Tryz.ntmps234 Tryz.results234
theorem zn5 (n : Int) : Ct Tryz.prog 234 [int n] [] [] (int (capN n)) [] := by
 refine Ct.B Tryz.func234 mixed 9999 400 ?_
 simp
 have e := zwc n
 first | exact fin0 (by simp [e]) rfl | exact zaa (by simp [e])
attribute [simp] Tryz.ntmps174 Tryz.results174
theorem qe4 (n : Int) : Ct Tryz.prog 174 [int n] [] [] (st (zcs (newC n))) [] := by
 refine Ct.B Tryz.func174 mixed 9999 400 ?_
 simp
 refine CW.p (zn5 n) Tryz.call234 9999 ?_
 simp
 first | exact fin0 (by simp [newC]) rfl | exact zaa (by simp [newC])
attribute [simp] Tryz.ntmps301 Tryz.results301
theorem qab (c : Cache) (l : List Res) (h : zdc c.cap l = 0) : Ct Tryz.prog 301 [st (zcs c), lst (l.map resC)] [] [] (.tup []) [] := by
 refine Ct.B Tryz.func301 mixed 9999 400 ?_
 simp
 obtain ⟨h1, h2, h3⟩ := must_iff.1 h
 have hl := tab_len h1
 refine CW.p (zlj l) Tryz.call219 9999 ?_
 simp
 refine CW.p zju Tryz.call331 9999 ?_ (ha := by simp [h1])
 simp [h1]
 refine CW.p (zp9 8) Tryz.call332 9999 ?_ (ha := by simp [h2])
 simp [h2]
 refine CW.p zju Tryz.call331 9999 ?_
 simp
 refine CW.p (zoo l (zai h1) (by omega)) Tryz.call221 9999 ?_
 simp
 refine CW.p zju Tryz.call331 9999 ?_ (ha := by simp [h3])
 simp [h3]
 first | exact fin0 (by simp) rfl | exact zaa (by simp)
theorem qdh (c : Cache) (l : List Res) (h : ¬ tabE l = 0) : CtX Tryz.prog 301 [st (zcs c), lst (l.map resC)] [] [] (badV (tabE l)) [] := by
 refine CtX.B Tryz.func301 mixed 9999 400 ?_
 simp
 refine CW.p (zlj l) Tryz.call219 9999 ?_
 simp
 refine CW.up [] (zt2 (tabE l) h) Tryz.call331 ?_
 refine ⟨rfl, ?_⟩
 constructor <;> simp [nmF, inB]
theorem qdk (c : Cache) (l : List Res) (h1 : tabE l = 0) (h2 : ¬ (l.length : Int) ≤ c.cap) : CtX Tryz.prog 301 [st (zcs c), lst (l.map resC)] [] [] (badV 8) [] := by
 refine CtX.B Tryz.func301 mixed 9999 400 ?_
 simp
 have hl := tab_len h1
 refine CW.p (zlj l) Tryz.call219 9999 ?_
 simp
 refine CW.p zju Tryz.call331 9999 ?_ (ha := by simp [h1])
 simp [h1]
 refine CW.p (zyt 8) Tryz.call332 9999 ?_ (ha := by simp [h2])
 simp [h2]
 refine CW.up [] (zt2 8 (by decide)) Tryz.call331 ?_
 refine ⟨rfl, ?_⟩
 constructor <;> simp [nmF, inB]
theorem qdi (c : Cache) (l : List Res) (h1 : tabE l = 0) (h2 : (l.length : Int) ≤ c.cap) (h3 : ¬ zaq l = 0) : CtX Tryz.prog 301 [st (zcs c), lst (l.map resC)] [] [] (badV (zaq l)) [] := by
 refine CtX.B Tryz.func301 mixed 9999 400 ?_
 simp
 have hl := tab_len h1
 refine CW.p (zlj l) Tryz.call219 9999 ?_
 simp
 refine CW.p zju Tryz.call331 9999 ?_ (ha := by simp [h1])
 simp [h1]
 refine CW.p (zp9 8) Tryz.call332 9999 ?_ (ha := by simp [h2])
 simp [h2]
 refine CW.p zju Tryz.call331 9999 ?_
 simp
 refine CW.p (zoo l (zai h1) (by omega)) Tryz.call221 9999 ?_
 simp
 refine CW.up [] (zt2 (zaq l) h3) Tryz.call331 ?_
 refine ⟨rfl, ?_⟩
 constructor <;> simp [nmF, inB]
theorem qaa (c : Cache) (l : List Res) (h : ¬ zdc c.cap l = 0) : CtX Tryz.prog 301 [st (zcs c), lst (l.map resC)] [] [] (badV (zdc c.cap l)) [] := by
 by_cases h1 : tabE l = 0
 ·by_cases h2 : (l.length : Int) ≤ c.cap
  ·have e : zdc c.cap l = zaq l := by simp [zdc, h1, show ¬ c.cap < l.length by omega]
   rw [e] at h ⊢
   exact qdi c l h1 h2 h
  ·have e : zdc c.cap l = 8 := by simp [zdc, h1, show c.cap < l.length by omega]
   rw [e]
   exact qdk c l h1 h2
 ·have e : zdc c.cap l = tabE l := by simp [zdc, h1]
  rw [e]
  exact qdh c l h1
abbrev zwd (c : Cache) : Nat × Blk := (0, .cells ((zcs c).map .d) 96)
attribute [simp] Tryz.ntmps329 Tryz.results329
theorem zzg (c : Cache) (h : zdc c.cap c.l = 0) : Ct Tryz.prog 329 [.ptr 0 0] [zwd c] [] (.tup []) [] := by
 refine Ct.B Tryz.func329 mixed 9999 400 ?_
 simp
 refine CW.p (qab c c.l h) Tryz.call301 9999 ?_
 simp
 first | (refine ⟨[], ?_, ?_, ?_, ?_, ?_, ?_, ?_⟩ <;> simp [nmF, inB]; done) | (refine ⟨by decide +kernel, ?_⟩; refine ⟨[], ?_, ?_, ?_, ?_, ?_, ?_, ?_⟩ <;> simp [nmF, inB])
theorem zzf (c : Cache) (h : ¬ zdc c.cap c.l = 0) : CtX Tryz.prog 329 [.ptr 0 0] [zwd c] [] (badV (zdc c.cap c.l)) [] := by
 refine CtX.B Tryz.func329 mixed 9999 400 ?_
 simp
 refine CW.up [] (qaa c c.l h) Tryz.call301 ?_
 refine ⟨rfl, ?_⟩
 constructor <;> simp [nmF, inB]
theorem qcn (c : Cache) : Ct Tryz.prog 299 [.fn (.func 329) [] [.ptr 0 0]] [zwd c] [] (int (zdc c.cap c.l)) [] := by
 by_cases h : zdc c.cap c.l = 0
 ·rw [h]; exact zsx Tryz.call329 (zzg c h)
 ·exact zsw Tryz.call329 (zzf c h)
attribute [simp] Tryz.ntmps295 Tryz.results295
theorem zze (c : Cache) : Ct Tryz.prog 295 [st (zcs c)] [] [] (bool (zh4 c)) [] := by
 refine Ct.B Tryz.func295 mixed 9999 400 ?_
 simp
 refine CW.p (zn5 c.cap) Tryz.call234 9999 ?_
 simp
 refine sG (fun h1 => ?_) (fun h1 => ?_) <;> simp only [h1] <;> simp <;> (try simp only [nT, nF, dT, dF] at h1)
 ·refine CW.cc [64] (qcn c) Tryz.call299 9999 ?_
  simp
  refine ⟨by decide +kernel, ?_⟩
  have e : zh4 c = decide (zdc c.cap c.l = 0) := by unfold zh4; rw [decide_eq_true h1, Bool.true_and]
  first | exact fin0 (by simp [e]) rfl | exact zaa (by simp [e])
 ·refine ⟨by decide +kernel, ?_⟩
  have e : zh4 c = false := by unfold zh4; rw [decide_eq_false h1, Bool.false_and]
  first | exact fin0 (by simp [e]) rfl | exact zaa (by simp [e])
attribute [simp] Tryz.ntmps298 Tryz.results298
theorem zu1 (c : Cache) : Ct Tryz.prog 298 [st (zcs c)] [] [] (st (zcs (zdd c))) [] := by
 refine Ct.B Tryz.func298 mixed 9999 400 ?_
 simp
 refine CW.p (zze c) Tryz.call295 9999 ?_
 simp
 refine sB (fun h1 => ?_) (fun h1 => ?_) <;> simp only [h1] <;> simp <;> (try simp only [nT, nF, dT, dF] at h1)
 ·refine CW.p (qe4 c.cap) Tryz.call174 9999 ?_
  simp
  first | exact fin0 (by simp [zdd, h1]) rfl | exact zaa (by simp [zdd, h1])
 ·first | exact fin0 (by simp [zdd, h1]) rfl | exact zaa (by simp [zdd, h1])
theorem zng (c : Cache) : AscR (zdd c).l ∧ (zdd c).l.length ≤ 64 := by
 have h := (saneC_iff.1 (zh1 c)).2.1
 exact ⟨zai h, tab_len h⟩
attribute [simp] Tryz.ntmps296 Tryz.results296
theorem zu3 (c : Cache) : Ct Tryz.prog 296 [st (zcs c)] [] [] (lst ((zd7 c).map resC)) [] := by
 refine Ct.B Tryz.func296 mixed 9999 400 ?_
 simp
 refine CW.p (zu1 c) Tryz.call298 9999 ?_
 simp
 obtain ⟨h1, h2⟩ := zng c
 refine CW.p (zou (zdd c).l h1 (by omega)) Tryz.call46 9999 ?_
 simp
 first | exact fin0 (by simp [zd7]) rfl | exact zaa (by simp [zd7])
abbrev appR (c : Cache) (adds : List Res) (gone : List Key) : List (Nat × Blk) := [zwd c, (1, .cells [lst (adds.map resC)] 26), (2, .cells [lst (gone.map keyC)] 27)]
attribute [simp] Tryz.ntmps300 Tryz.results300
theorem qig (c : Cache) (adds : List Res) (gone : List Key) (hl : c.l.length + adds.length ≤ 1000000) (hg : gone.length ≤ 9223372036854775807) (h : zdc c.cap (zac c.l adds gone) = 0) : Ct Tryz.prog 300 [.ptr 0 0, .ptr 1 0, .ptr 2 0, .ptr 3 0] (appR c adds gone) [(3, .cells ((zcs c).map .d) 96)] (.tup []) [(3, .cells ((zcs ⟨c.cap, zac c.l adds gone⟩).map .d) 96)] := by
 refine Ct.B Tryz.func300 mixed 9999 400 ?_
 simp
 refine CW.p (zoz c.l adds gone hl hg) Tryz.call159 9999 ?_
 simp
 refine CW.p (qab c (zac c.l adds gone) h) Tryz.call301 9999 ?_
 simp
 first | (refine ⟨[], ?_, ?_, ?_, ?_, ?_, ?_, ?_⟩ <;> simp [nmF, inB]; done) | (refine ⟨by decide +kernel, ?_⟩; refine ⟨[], ?_, ?_, ?_, ?_, ?_, ?_, ?_⟩ <;> simp [nmF, inB])
theorem qif (c : Cache) (adds : List Res) (gone : List Key) (hl : c.l.length + adds.length ≤ 1000000) (hg : gone.length ≤ 9223372036854775807) (h : ¬ zdc c.cap (zac c.l adds gone) = 0) : CtX Tryz.prog 300 [.ptr 0 0, .ptr 1 0, .ptr 2 0, .ptr 3 0] (appR c adds gone) [(3, .cells ((zcs c).map .d) 96)] (badV (zdc c.cap (zac c.l adds gone))) [(3, .cells ((zcs ⟨c.cap, zac c.l adds gone⟩).map .d) 96)] := by
 refine CtX.B Tryz.func300 mixed 9999 400 ?_
 simp
 refine CW.p (zoz c.l adds gone hl hg) Tryz.call159 9999 ?_
 simp
 refine CW.up [] (qaa c (zac c.l adds gone) h) Tryz.call301 ?_
 refine ⟨rfl, ?_⟩
 constructor <;> simp [nmF, inB]
theorem qko (c : Cache) (adds : List Res) (gone : List Key) (hl : c.l.length + adds.length ≤ 1000000) (hg : gone.length ≤ 9223372036854775807) :
  Ct Tryz.prog 299 [.fn (.func 300) [] [.ptr 0 0, .ptr 1 0, .ptr 2 0, .ptr 3 0]] (appR c adds gone) [(3, .cells ((zcs c).map .d) 96)] (int (zdc c.cap (zac c.l adds gone))) [(3, .cells ((zcs ⟨c.cap, zac c.l adds gone⟩).map .d) 96)] := by
 by_cases h : zdc c.cap (zac c.l adds gone) = 0
 ·rw [h]; exact zsx Tryz.call300 (qig c adds gone hl hg h)
 ·exact zsw Tryz.call300 (qif c adds gone hl hg h)
attribute [simp] Tryz.ntmps236 Tryz.results236
theorem qie (c : Cache) (adds : List Res) (gone : List Key) (hl : adds.length ≤ 1000) (hg : gone.length ≤ 9223372036854775807) : Ct Tryz.prog 236 [st (zcs c), lst (adds.map resC), lst (gone.map keyC)] [] [] (.tup [st (zcs (zd8 c adds gone).1), int (zd8 c adds gone).2]) [] := by
 refine Ct.B Tryz.func236 mixed 9999 400 ?_
 simp
 refine CW.p (zu1 c) Tryz.call298 9999 ?_
 simp
 have h1 := (zng c).2
 have hh : zd8 c adds gone = zhy (zdd c) adds gone := rfl
 rw [hh]
 clear hh
 generalize zdd c = q at h1 ⊢
 refine CW.cc [64,128,192,640] (qko q adds gone (by omega) hg) Tryz.call299 9999 ?_ (ha := by simp [appR]) (hk := by simp [appR])
 simp [appR]
 refine sB (fun h2 => ?_) (fun h2 => ?_) <;> simp only [h2] <;> simp <;> (try simp only [nT, nF, dT, dF] at h2)
 ·first | exact fin0 (by simp [zhy, h2]) rfl | exact zaa (by simp [zhy, h2])
 ·first | exact fin0 (by simp [zhy, h2]) rfl | exact zaa (by simp [zhy, h2])
end Go.Proofs.YtbmnaehodmgibaaGreatDoor
end
section
namespace Go.Proofs.YtbmnaehodmgibaaGreatDoor
open Go.AI Go.G
set_option maxRecDepth 20000
attribute [simp] Tryz.ntmps239 Tryz.results239
theorem zx5 (x : Snap) (l : List Snap) (hl : l.length ≤ 1000000) : Ct Tryz.prog 239 [lst ((x :: l).map zdu)] [] [] (.own 64) [(64, .grow 3 ((x :: l).map zdu) 258)] := by
 refine Ct.B Tryz.func239 mixed 9999 400 ?_
 simp
 refine ⟨by omega, ?_⟩
 first | (refine ⟨[(64, 384)], ?_, ?_, ?_, ?_, ?_, ?_, ?_⟩ <;> simp [nmF, inB]; done) | (refine ⟨by decide +kernel, ?_⟩; refine ⟨[(64, 384)], ?_, ?_, ?_, ?_, ?_, ?_, ?_⟩ <;> simp [nmF, inB])
attribute [simp] Tryz.ntmps302 Tryz.results302
attribute [simp] Tryz.ntmps238 Tryz.results238
theorem zsc (l : List Snap) (kf : D) (p : Snap → Bool) (hf : ∀ x ∈ l, FnOk Tryz.prog (.d kf) [st (zdu x)] (bool (p x))) (hl : l.length ≤ 9223372036854775807) : Ct Tryz.prog 302 [.own 0, .d kf] [(0, .grow 3 (l.map zdu) 258)] [] (int (idxF p l)) [] := by
 refine Ct.B Tryz.func302 mixed 9999 400 ?_
 simp
 refine LoopW.inv mixed (Plain.retC _ _ _ _ _) rfl (ι := {k : Nat // k ≤ (l).length ∧ (l.take k).all (fun x => !p x) = true}) (fun k => [(0, .own 0), (1, .d kf), (7, int l.length), (8, int k.1)]) (fun k => [(0, .grow 3 (l.map zdu) 258)]) 64 (fun k => (l).length - k.1) ⟨0, by omega, by simp⟩ [] (by constructor <;> simp) ?_
 rintro ⟨k, hk1, hi⟩ B hB
 refine CW.run 9999 400 rfl ?_
 simp
 refine sB (fun h => ?_) (fun h => ?_)
 ·have hk : k < (l).length := by simpa using h
  obtain ⟨r, hx, hr, hm, ht, hd⟩ := inL hk
  have hw := wr (k := k) (by omega)
  simp only [h]
  simp [hr, hw, hk]
  refine CW.ff (hf r hm) rfl rfl rfl 9999 ?_ (ha := by simp [hx])
  simp [hx]
  refine sB (fun hp => ?_) (fun hp => ?_) <;> simp only [hp] <;> simp
  ·have e := zcl hi hr hp
   first | (refine ⟨[], ?_, ?_, ?_, ?_, ?_, ?_, ?_⟩ <;> simp [nmF, inB, e]; done) | (refine ⟨by decide +kernel, ?_⟩; refine ⟨[], ?_, ?_, ?_, ?_, ?_, ?_, ?_⟩ <;> simp [nmF, inB, e])
  ·refine hB _ ⟨k + 1, by omega, by simp [ht, hi, hp]⟩ [] ?_ (by simp; omega)
   constructor <;> simp [hw, ht, hp]
 ·have hkl : k = (l).length := by simp at h; omega
  subst hkl
  simp only [h]
  simp [List.take_length, List.drop_length]
  rw [List.take_length] at hi
  have e : idxF p l = -1 := za9 (fun x hx => by have := List.all_eq_true.1 hi x hx; simpa using this)
  first | (refine ⟨[], ?_, ?_, ?_, ?_, ?_, ?_, ?_⟩ <;> simp [nmF, inB, e]; done) | (refine ⟨by decide +kernel, ?_⟩; refine ⟨[], ?_, ?_, ?_, ?_, ?_, ?_, ?_⟩ <;> simp [nmF, inB, e])
theorem qbp (l : List Snap) (kf : D) (p : Snap → Bool) (hf : ∀ x ∈ l, FnOk Tryz.prog (.d kf) [st (zdu x)] (bool (p x))) (hl : l.length ≤ 1000000) (h1 : idxF p l = -1) : Ct Tryz.prog 238 [.own 0, .d kf] [] [(0, .grow 3 (l.map zdu) 258)] (.own 0) [(0, .grow 3 (l.map zdu) 258)] := by
 refine Ct.B Tryz.func238 mixed 9999 400 ?_
 simp
 refine CW.cc [0] (zsc l kf p hf (by omega)) Tryz.call302 9999 ?_
 simp
 simp [h1]
 first | (refine ⟨[], ?_, ?_, ?_, ?_, ?_, ?_, ?_⟩ <;> simp [nmF, inB]; done) | (refine ⟨by decide +kernel, ?_⟩; refine ⟨[], ?_, ?_, ?_, ?_, ?_, ?_, ?_⟩ <;> simp [nmF, inB])
theorem qbo (l : List Snap) (kf : D) (p : Snap → Bool) (hf : ∀ x ∈ l, FnOk Tryz.prog (.d kf) [st (zdu x)] (bool (p x))) (hl : l.length ≤ 1000000) (i : Nat) (x : Snap) (h1 : idxF p l = i) (h2 : i < l.length) : Ct Tryz.prog 238 [.own 0, .d kf] [] [(0, .grow 3 (l.map zdu) 258)] (.sl 0 3 0 (l.filter fun x => !p x).length) [(0, .grow 3 ((l.filter fun x => !p x).map zdu ++ List.replicate (l.length - (l.filter fun x => !p x).length) [iD 0, iD 0, .v (.slice none 0 0)]) 258)] := by
 refine Ct.B Tryz.func238 mixed 9999 400 ?_
 simp
 refine CW.cc [0] (zsc l kf p hf (by omega)) Tryz.call302 9999 ?_
 simp
 have hne : ¬ (i : Int) = -1 := by omega
 have hwi : IntKind.wrap .i64 ((i : Int) + 1) = i + 1 := zae (by omega) (by omega)
 simp [h1, hne, hwi]
 have d0 := DelSt.start (x := x) h1 h2
 refine LoopW.inv mixed (Plain.retC _ _ _ _ _) rfl (ι := {q : Nat × Nat × List Snap // DelSt p l q.1 q.2.1 q.2.2}) (fun k => [(0, .own 0), (1, .d kf), (5, int k.1.2.1), (6, int k.1.1)]) (fun k => [(0, .grow 3 (k.1.2.2.map zdu) 258)]) 64 (fun k => l.length - k.1.1) ⟨(i + 1, i, l), d0⟩ [] (by constructor <;> simp) ?_
 rintro ⟨⟨j, i, cur⟩, hd⟩ B hB
 clear h1 h2 hne hwi d0
 have hlen := hd.len
 have hlt := hd.lt
 have hle := hd.le
 simp only at hlen hlt hle
 have w1 : IntKind.wrap .i64 ((j : Int) + 1) = j + 1 := zae (by omega) (by omega)
 have w2 : IntKind.wrap .i64 ((i : Int) + 1) = i + 1 := zae (by omega) (by omega)
 refine CW.run 9999 400 rfl ?_
 simp [hlen]
 refine sB (fun h => ?_) (fun h => ?_) <;> simp only [h] <;> simp <;> (try simp only [nT, nF, dT, dF] at h)
 ·have hj : j < l.length := by omega
  have hv : l[j]? = some l[j] := List.getElem?_eq_getElem hj
  have hm : l[j] ∈ l := List.getElem_mem hj
  generalize l[j] = v at hv hm
  have hg := hd.get hv
  have hjc : j < cur.length := by omega
  have hgx : cur[j] = v := by rw [List.getElem?_eq_getElem hjc] at hg; exact Option.some.inj hg
  simp [hjc, hgx]
  refine CW.ff (hf v hm) rfl rfl rfl 9999 ?_
  simp
  have hic : i < cur.length := by omega
  refine sB (fun h2 => ?_) (fun h2 => ?_) <;> simp only [h2] <;> simp [hic]
  ·have hp : p v = false := by simpa using h2
   refine hB _ ⟨(j + 1, i + 1, cur.set i v), hd.keep hv hp⟩ [] ?_ (by simp; omega)
   constructor <;> simp [w1, w2, List.map_set]
  ·have hp : p v = true := by simpa using h2
   refine hB _ ⟨(j + 1, i, cur), hd.del hv hp⟩ [] ?_ (by simp; omega)
   constructor <;> simp [w1]
 ·have hj : j = l.length := by omega
  subst hj
  have e : cur.take i = l.filter (fun x => !p x) := hd.done
  simp [hlen]
  have e2 : List.take i (List.map zdu cur) = List.map zdu (List.filter (fun x => !p x) l) := by rw [← List.map_take, e]
  have e3 : (List.filter (fun x => !p x) l).length = i := by rw [← e, List.length_take]; omega
  refine ⟨by omega, by omega, by omega, ?_⟩
  have e4 : List.drop (i + (l.length - i)) (List.map zdu cur) = [] := by rw [List.drop_eq_nil_iff]; simp; omega
  rw [e2, e3, e4]
  first | (refine ⟨[], ?_, ?_, ?_, ?_, ?_, ?_, ?_⟩ <;> simp [nmF, inB]; done) | (refine ⟨by decide +kernel, ?_⟩; refine ⟨[], ?_, ?_, ?_, ?_, ?_, ?_, ?_⟩ <;> simp [nmF, inB])
theorem qbn (l : List Snap) (kf : D) (p : Snap → Bool) (hf : ∀ x ∈ l, FnOk Tryz.prog (.d kf) [st (zdu x)] (bool (p x))) (hl : l.length ≤ 1000000) : Ct Tryz.prog 238 [.own 0, .d kf] [] [(0, .grow 3 (l.map zdu) 258)] (.own 64) [(64, .grow 3 ((l.filter fun x => !p x).map zdu) 258)] := by
 rcases zja p l with ⟨h1, h2⟩ | ⟨i, x, h1, h2, h3, h4⟩
 ·have e : (l.filter fun x => !p x) = l := by
   rw [List.filter_eq_self]; intro a ha
   have := List.find?_eq_none.1 h2 a ha; simpa using this
  have := Ct.trunc (Or.inl ⟨rfl, rfl⟩) (Nat.le_refl _) (qbp l kf p hf hl h1)
  rw [List.take_length] at this
  rw [e]
  exact this
 ·have := Ct.trunc (Or.inr rfl) (by simp) (qbo l kf p hf hl i x h1 h2)
  rw [List.take_left' (by simp)] at this
  exact this
theorem zuo : Ct Tryz.prog 239 [lst []] [] [] (.own 64) [(64, .grow 3 [] 258)] := by
 refine Ct.B Tryz.func239 mixed 2 400 ?_
 simp
 refine ⟨?_, ?_⟩
 ·refine CW.cutTo mixed (ι := Unit) (fun _ => [(2, .d (.v (.slice none 0 0)))]) (fun _ => []) 65 rfl (fun B hB => ?_) (fun _ => ?_)
  ·refine CW.run 9999 400 rfl ?_
   simp
   refine hB _ () [] ?_
   constructor <;> simp
  ·refine CW.nilOwn 2 3 258 rfl rfl ?_
   refine CW.run 9999 400 rfl ?_
   simp
   first | (refine ⟨[(64, 65)], ?_, ?_, ?_, ?_, ?_, ?_, ?_⟩ <;> simp [nmF, inB]; done) | (refine ⟨by decide +kernel, ?_⟩; refine ⟨[(64, 65)], ?_, ?_, ?_, ?_, ?_, ?_, ?_⟩ <;> simp [nmF, inB])
 ·skip
  first | (refine ⟨[(64, 384)], ?_, ?_, ?_, ?_, ?_, ?_, ?_⟩ <;> simp [nmF, inB]; done) | (refine ⟨by decide +kernel, ?_⟩; refine ⟨[(64, 384)], ?_, ?_, ?_, ?_, ?_, ?_, ?_⟩ <;> simp [nmF, inB])
theorem zun (l : List Snap) (hl : l.length ≤ 1000000) : Ct Tryz.prog 239 [lst (l.map zdu)] [] [] (.own 64) [(64, .grow 3 (l.map zdu) 258)] := by
 cases l with
 | nil => exact zuo
 | cons x l => exact zx5 x l (by simp at hl; omega)
attribute [simp] Tryz.ntmps297 Tryz.results297
theorem zgq (n a b : Int) : Ct Tryz.prog 297 [int n, int a, int b] [] [] (bool (decide (a ≤ n) && decide (n ≤ b))) [] := by
 refine Ct.B Tryz.func297 mixed 9999 400 ?_
 simp
 repeat' first
  | (refine sG (fun h => ?_) (fun h => ?_) <;> simp only [h] <;> simp [h])
  | (refine sB (fun h => ?_) (fun h => ?_) <;> simp only [h] <;> simp [h])
  | (refine ⟨(show za4 _ _ from by decide +kernel), ?_⟩)
  | fail
 all_goals exact fin0 (by simp [*]) rfl
attribute [simp] Tryz.ntmps181 Tryz.results181
theorem qap (p : Pins) (h : p.snaps.length ≤ 9223372036854775807) : Ct Tryz.prog 181 [st (zl8 p)] [] [] (int ((p.snaps.length : Int) - 1)) [] := by
 refine Ct.B Tryz.func181 mixed 9999 400 ?_
 simp
 have hw : IntKind.wrap .i64 ((p.snaps.length : Int) - 1) = p.snaps.length - 1 := zae (by omega) (by omega)
 first | exact fin0 (by simp [hw]) rfl | exact zaa (by simp [hw])
attribute [simp] Tryz.ntmps240 Tryz.results240
theorem qjy (s : Snap) : Ct Tryz.prog 240 [st (zdu s)] [] [] (bool (decide (s.pins = 0))) [] := by
 refine Ct.B Tryz.func240 mixed 9999 400 ?_
 simp
 first | exact fin0 (by simp) rfl | exact zaa (by simp)
attribute [simp] Tryz.ntmps232 Tryz.results232
theorem zzd (p : Pins) (hl : p.snaps.length ≤ 1000000) (hn : p.next ≤ 2147483648) : Ct Tryz.prog 232 [st (zl8 p)] [] [] (bool (zf1 p)) [] := by
 refine Ct.B Tryz.func232 mixed 9999 400 ?_
 simp
 refine LoopW.inv mixed (Plain.retC _ _ _ _ _) rfl (ι := {k : Nat // k ≤ (p.snaps).length ∧ (zb8 p.next 0 p.snaps = zb8 p.next (ahP (p.snaps.take k)) (p.snaps.drop k) ∧ 0 ≤ ahP (p.snaps.take k) ∧ ahP (p.snaps.take k) ≤ 2147483648)}) (fun k => [(1, .ptr 64 0), (3, int (ahP (p.snaps.take k.1))), (8, lst (p.snaps.map zdu)), (9, int p.snaps.length), (10, int k.1)]) (fun k => [(64, .cells ((zl8 p).map .d) 101)]) 65 (fun k => (p.snaps).length - k.1) ⟨0, by omega, by simp⟩ [] (by constructor <;> simp) ?_
 rintro ⟨k, hk1, hi⟩ B hB
 refine CW.run 9999 400 rfl ?_
 simp
 refine sB (fun h => ?_) (fun h => ?_)
 ·have hk : k < (p.snaps).length := by simpa using h
  obtain ⟨s, hx, hr, hm, ht, hd⟩ := inL hk
  have hw := wr (k := k) (by omega)
  simp only [h]
  simp [hr, hw]
  obtain ⟨i1, i2, i3⟩ := hi
  have wA : IntKind.wrap .i64 (ahP (p.snaps.take k) + 1) = ahP (p.snaps.take k) + 1 := zae (by omega) (by omega)
  refine CW.p (qap p (by omega)) Tryz.call181 9999 ?_
  simp
  have hsl : zf1 p = (zb8 p.next (ahP (p.snaps.take k)) (s :: p.snaps.drop (k + 1)) && rngB p.next 2147483647 && decide (p.snaps.length ≤ 1000)) := by rw [zf1, i1, hd]
  have hlast : p.snaps.drop (k + 1) = [] ↔ (k : Int) = p.snaps.length - 1 := by rw [List.drop_eq_nil_iff]; omega
  refine sB (fun h1 => ?_) (fun h1 => ?_) <;> simp only [h1] <;> simp
  ·have h1' : p.snaps.drop (k + 1) = [] := hlast.2 (by simpa using h1)
   simp [wA]
   refine CW.p (zgq s.id (ahP (p.snaps.take k) + 1) p.next) Tryz.call297 9999 ?_
   simp
   refine sG (fun h2 => ?_) (fun h2 => ?_) <;> simp only [h2] <;> simp
   ·have h2' : ¬ (ahP (p.snaps.take k) + 1 ≤ s.id ∧ s.id ≤ p.next) := by simp at h2; omega
    have e : zf1 p = false := by rw [hsl]; simp [zb8, h1']; omega
    first | exact fin0 (by simp [e]) rfl | exact zaa (by simp [e])
   ·skip
    refine CW.p (zgq s.pins 0 10000) Tryz.call297 9999 ?_
    simp
    refine sB (fun h3 => ?_) (fun h3 => ?_) <;> simp only [h3] <;> simp
    ·have h3' : ¬ (0 ≤ s.pins ∧ s.pins ≤ 10000) := by simp at h3; omega
     have e : zf1 p = false := by rw [hsl]; simp [zb8, h1']; omega
     first | exact fin0 (by simp [e]) rfl | exact zaa (by simp [e])
    ·have h2' : ahP (p.snaps.take k) + 1 ≤ s.id ∧ s.id ≤ p.next := by simp at h2; omega
     have h3' : 0 ≤ s.pins ∧ s.pins ≤ 10000 := by simp at h3; omega
     refine hB _ ⟨k + 1, by omega, by rw [ht, zhi, i1, hd]; simp [zb8, h1', h2', h3'], by rw [ht, zhi]; omega, by rw [ht, zhi]; omega⟩ [] ?_ (by simp; omega)
     constructor <;> simp [hw, ht]
  ·have h1' : ¬ p.snaps.drop (k + 1) = [] := fun e => by rw [hlast] at e; simp [e] at h1
   simp [wA]
   refine CW.p (zgq s.id (ahP (p.snaps.take k) + 1) p.next) Tryz.call297 9999 ?_
   simp
   refine sG (fun h2 => ?_) (fun h2 => ?_) <;> simp only [h2] <;> simp
   ·have h2' : ¬ (ahP (p.snaps.take k) + 1 ≤ s.id ∧ s.id ≤ p.next) := by simp at h2; omega
    have e : zf1 p = false := by rw [hsl, zb8, if_neg h1']; simp; omega
    first | exact fin0 (by simp [e]) rfl | exact zaa (by simp [e])
   ·skip
    refine CW.p (zgq s.pins 1 10000) Tryz.call297 9999 ?_
    simp
    refine sB (fun h3 => ?_) (fun h3 => ?_) <;> simp only [h3] <;> simp
    ·have h3' : ¬ (1 ≤ s.pins ∧ s.pins ≤ 10000) := by simp at h3; omega
     have e : zf1 p = false := by rw [hsl, zb8, if_neg h1']; simp; omega
     first | exact fin0 (by simp [e]) rfl | exact zaa (by simp [e])
    ·have h2' : ahP (p.snaps.take k) + 1 ≤ s.id ∧ s.id ≤ p.next := by simp at h2; omega
     have h3' : 1 ≤ s.pins ∧ s.pins ≤ 10000 := by simp at h3; omega
     refine hB _ ⟨k + 1, by omega, by rw [ht, zhi, i1, hd, zb8, if_neg h1']; simp [h2', h3'], by rw [ht, zhi]; omega, by rw [ht, zhi]; omega⟩ [] ?_ (by simp; omega)
     constructor <;> simp [hw, ht]
 ·have hkl : k = (p.snaps).length := by simp at h; omega
  subst hkl
  simp only [h]
  simp [List.take_length, List.drop_length]
  obtain ⟨i1, i2, i3⟩ := hi
  have e : zf1 p = (decide (0 ≤ p.next) && decide (p.next ≤ 2147483647) && decide ((p.snaps.length : Int) ≤ 1000)) := by
   have e2 : decide (p.snaps.length ≤ 1000) = decide ((p.snaps.length : Int) ≤ 1000) := decide_eq_decide.2 (by omega)
   rw [zf1, i1, List.drop_length, e2]; simp [zb8, rngB]
  refine CW.p (zgq p.next 0 2147483647) Tryz.call297 9999 ?_
  simp
  refine sG (fun h2 => ?_) (fun h2 => ?_) <;> simp only [h2] <;> simp
  ·first | exact fin0 (by simp [e, h2]) rfl | exact zaa (by simp [e, h2])
  ·first | exact fin0 (by simp [e, h2]) rfl | exact zaa (by simp [e, h2])
attribute [simp] Tryz.ntmps180 Tryz.results180
theorem zok (p : Pins) (hp : OkPins p) : Ct Tryz.prog 180 [st (zl8 p)] [] [] (st (zl8 (zbz p))) [] := by
 refine Ct.B Tryz.func180 mixed 9999 400 ?_
 simp
 refine CW.p (zzd p hp.sl hp.next) Tryz.call232 9999 ?_
 simp
 refine sB (fun h1 => ?_) (fun h1 => ?_) <;> simp only [h1] <;> simp <;> (try simp only [nT, nF, dT, dF] at h1)
 ·first | exact fin0 (by simp [zbz, h1]) rfl | exact zaa (by simp [zbz, h1])
 ·first | exact fin0 (by simp [zbz, h1]) rfl | exact zaa (by simp [zbz, h1])
abbrev curA (o : Option Snap) : AV := .tup [int ((o.map (·.id)).getD 0), lst (((o.map (·.l)).getD []).map resC), bool o.isSome]
attribute [simp] Tryz.ntmps110 Tryz.results110
theorem qkc (p : Pins) (hp : OkPins p) : Ct Tryz.prog 110 [st (zl8 p)] [] [] (curA (curP p)) [] := by
 refine Ct.B Tryz.func110 mixed 9999 400 ?_
 simp
 refine CW.p (zok p hp) Tryz.call180 9999 ?_
 simp
 have hs := zk6 p
 have hh : curP p = (zbz p).snaps.getLast? := rfl
 rw [hh]
 clear hh
 generalize zbz p = q at hs ⊢
 refine CW.p (qap q (by omega)) Tryz.call181 9999 ?_
 simp
 rcases zxo q.snaps with e | ⟨i, s, e⟩
 ·simp [e]
  first | exact fin0 (by simp [e]) rfl | exact zaa (by simp [e])
 ·have e1 : ((q.snaps.length : Int) - 1) = i.length := by rw [e]; simp
  have e2 : ¬ (i.length : Int) < 0 := by omega
  have e3 : i.length < q.snaps.length := by rw [e]; simp
  have e4 : q.snaps[i.length] = s := by simp [e]
  simp [e1, e2, e3, e4]
  refine ⟨by decide +kernel, ?_⟩
  first | exact fin0 (by simp [e]) rfl | exact zaa (by simp [e])
theorem zmr (l : List Snap) : (l.flatMap (·.l)).map Res.key = l.flatMap fun s => s.l.map Res.key := by rw [List.map_flatMap]
attribute [simp] Tryz.ntmps173 Tryz.results173
theorem qfc (p : Pins) (hp : OkPins p) : Ct Tryz.prog 173 [st (zl8 p)] [] [] (lst ((zc4 p).map keyC)) [] := by
 refine Ct.B Tryz.func173 mixed 9999 400 ?_
 simp
 refine CW.p (zok p hp) Tryz.call180 9999 ?_
 simp
 have hs := zk6 p
 have hq := hp.sound.snaps
 have hh : zc4 p = ((zbz p).snaps.flatMap fun s => s.l.map Res.key).foldl putK [] := by rw [← zmr]; rfl
 rw [hh]
 clear hh
 generalize (zbz p).snaps = l at hs hq ⊢
 refine LoopW.nilOwn 3 2 89 rfl ?_
 refine LoopW.U mixed (l) (fun k => [(3, .own 64), (8, lst (l.map zdu)), (9, int l.length), (10, int k.1)]) (fun k => [(64, .grow 2 (((l.take k.1).flatMap fun s => s.l.map Res.key).map keyC) 89)]) 65 [] (by constructor <;> simp) ?_
 rintro ⟨k, hk1⟩ B hB
 refine CW.run 9999 400 rfl ?_
 simp
 refine sB (fun h => ?_) (fun h => ?_)
 ·have hk : k < (l).length := by simpa using h
  obtain ⟨s, hx, hr, hm, ht, hd⟩ := inL hk
  have hw := wr (k := k) (by omega)
  simp only [h]
  simp [hr, hw]
  have h64 := (hq s hm).2
  have hfl : ((l.take k).flatMap fun s => s.l.map Res.key).length ≤ 64000 := by
   have := zlp (l := l.take k) fun q hm => (hq q (List.mem_of_mem_take hm)).2
   rw [← zmr, List.length_map]
   simp at this ⊢; omega
  have hsm : (List.take k (List.map (fun a => a.l.length) l)).sum ≤ 64000 := by simpa [List.map_take] using hfl
  refine CW.cc [] (qas s.l (by omega)) Tryz.call165 9999 ?_
  simp
  refine ⟨by omega, ?_⟩
  refine hB _ ⟨k + 1, by omega⟩ [] ?_ (by simp; omega)
  constructor <;> simp [hw, ht]
 ·have hkl : k = (l).length := by simp at h; omega
  subst hkl
  simp only [h]
  simp [List.take_length, List.drop_length]
  have hfl : (l.flatMap fun s => s.l.map Res.key).length ≤ 64000 := by
   have := zlp (l := l) fun q hm => (hq q hm).2
   rw [← zmr, List.length_map]; omega
  refine CW.cc [64] (zu2 (l.flatMap fun s => s.l.map Res.key) (by omega)) Tryz.call169 9999 ?_
  simp
  refine CW.cc [64] (zje (zii (l.flatMap fun s => s.l.map Res.key)) (by rw [zdt]; omega)) Tryz.call171 9999 ?_
  simp
  rw [zsr]
  first | exact fin0 (by simp) rfl | exact zaa (by simp)
attribute [simp] Tryz.ntmps177 Tryz.results177
theorem zzr (p : Pins) (l : List Res) (hp : OkPins p) : Ct Tryz.prog 177 [st (zl8 p), lst (l.map resC)] [] [] (.tup [st (zl8 (zby p l).1), int (zby p l).2.1, int (zby p l).2.2]) [] := by
 refine Ct.B Tryz.func177 mixed 9999 400 ?_
 simp
 refine CW.p (zok p hp) Tryz.call180 9999 ?_
 simp
 have hs := zk6 p
 have hn := hp.sound.next
 have h0 := (saneP_iff.1 (zh0 p)).2.1
 have hh : zby p l = zct (zbz p) l := rfl
 rw [hh]
 clear hh
 generalize zbz p = q at hs hn h0 ⊢
 have hw : IntKind.wrap .i64 (q.next + 1) = q.next + 1 := zae (by omega) (by omega)
 refine sB (fun h1 => ?_) (fun h1 => ?_) <;> simp only [h1] <;> simp <;> (try simp only [nT, nF, dT, dF] at h1)
 ·first | exact fin0 (by simp [zct, h1]) rfl | exact zaa (by simp [zct, h1])
 obtain ⟨nx, sn⟩ := q
 simp only at hs hn h0 hw h1
 have hf : (sn.filter fun x => !decide (x.pins = 0)).length ≤ 1000 := Nat.le_trans (List.length_filter_le _ _) hs
 refine CW.cc [] (zun sn (by omega)) Tryz.call239 9999 ?_
 simp
 refine CW.cc [832] (qbn sn (fnD 240) (fun s => decide (s.pins = 0)) (fun s _ => FnOk.of (qjy s) Tryz.call240 rfl rfl) (by omega)) Tryz.call238 9999 ?_
 simp
 have e : (zua ⟨nx, sn⟩) = sn.filter fun x => !decide (x.pins = 0) := rfl
 rw [← e] at hf
 rw [← e]
 refine sB (fun h2 => ?_) (fun h2 => ?_) <;> simp only [h2] <;> simp <;> (try simp only [nT, nF, dT, dF] at h2)
 ·have h2' : 1000 ≤ (zua ⟨nx, sn⟩).length := by omega
  first | exact fin0 (by simp [zct, h1, h2']) rfl | exact zaa (by simp [zct, h1, h2'])
 ·have h2' : ¬ 1000 ≤ (zua ⟨nx, sn⟩).length := by omega
  simp [hw]
  refine ⟨by omega, ?_⟩
  first | exact fin0 (by simp [zct, h1, h2']) rfl | exact zaa (by simp [zct, h1, h2'])
end Go.Proofs.YtbmnaehodmgibaaGreatDoor
end
section
namespace Go.Proofs.YtbmnaehodmgibaaGreatDoor
open Go.AI Go.G
set_option maxRecDepth 20000
attribute [simp] Tryz.ntmps103 Tryz.results103
theorem qe3 (n : Int) : Ct Tryz.prog 103 [int n] [] [] (st (zp6 (newW n))) [] := by
 refine Ct.B Tryz.func103 mixed 9999 400 ?_
 simp
 refine CW.p (qe4 n) Tryz.call174 9999 ?_
 simp
 first | exact fin0 (by simp [newW, newC]) rfl | exact zaa (by simp [newW, newC])
attribute [simp] Tryz.ntmps231 Tryz.results231
theorem zza (w : Warm) (hs : OkRs w.shown) : Ct Tryz.prog 231 [st (zp6 w)] [] [] (bool (zf0 w)) [] := by
 refine Ct.B Tryz.func231 mixed 9999 400 ?_
 simp
 refine CW.p (zze w.c) Tryz.call295 9999 ?_
 simp
 refine sG (fun h1 => ?_) (fun h1 => ?_) <;> simp only [h1] <;> simp
 ·refine CW.p (zu3 w.c) Tryz.call296 9999 ?_
  simp
  refine CW.p (zel w.shown (zd7 w.c) hs) Tryz.call43 9999 ?_
  simp
  refine sG (fun h2 => ?_) (fun h2 => ?_) <;> simp only [h2] <;> simp
  ·refine sG (fun h3 => ?_) (fun h3 => ?_) <;> simp only [h3] <;> simp
   ·refine ⟨by decide +kernel, ?_⟩
    first | exact fin0 (by simp [zf0, h1, h2, h3]) rfl | exact zaa (by simp [zf0, h1, h2, h3])
   ·refine ⟨by decide +kernel, ?_⟩
    first | exact fin0 (by simp [zf0, h1, h2, h3]) rfl | exact zaa (by simp [zf0, h1, h2, h3])
  ·refine ⟨by decide +kernel, ?_⟩
   first | exact fin0 (by simp [zf0, h1, h2]) rfl | exact zaa (by simp [zf0, h1, h2])
 ·refine ⟨by decide +kernel, ?_⟩
  first | exact fin0 (by simp [zf0, h1]) rfl | exact zaa (by simp [zf0, h1])
attribute [simp] Tryz.ntmps235 Tryz.results235
theorem qcf (w : Warm) (hs : OkRs w.shown) : Ct Tryz.prog 235 [st (zp6 w)] [] [] (st (zp6 (zds w))) [] := by
 refine Ct.B Tryz.func235 mixed 9999 400 ?_
 simp
 refine CW.p (zza w hs) Tryz.call231 9999 ?_
 simp
 refine sB (fun h1 => ?_) (fun h1 => ?_) <;> simp only [h1] <;> simp <;> (try simp only [nT, nF, dT, dF] at h1)
 ·refine CW.p (qe3 w.c.cap) Tryz.call103 9999 ?_
  simp
  first | exact fin0 (by simp [zds, h1]) rfl | exact zaa (by simp [zds, h1])
 ·first | exact fin0 (by simp [zds, h1]) rfl | exact zaa (by simp [zds, h1])
abbrev qjn (w : Warm) (b : Bool) : List (Nat × Blk) := [(0, .cells ((zp6 w ++ [bD b]).map .d) 298)]
attribute [simp] Tryz.ntmps237 Tryz.results237
theorem qfy (w : Warm) (c : Cache) (hc : OkRs c.l) : Ct Tryz.prog 237 [.ptr 0 0, st (zcs c)] [] (qjn w false) (.tup []) (qjn (zgk w c).1 (zgk w c).2) := by
 refine Ct.B Tryz.func237 mixed 9999 400 ?_
 simp
 refine CW.p (zu3 c) Tryz.call296 9999 ?_
 simp
 refine CW.p (zel (zd7 c) w.shown (zrf hc)) Tryz.call43 9999 ?_
 simp
 refine sB (fun h1 => ?_) (fun h1 => ?_) <;> simp only [h1] <;> simp <;> (try simp only [nT, nF, dT, dF] at h1)
 ·first | (refine ⟨[], ?_, ?_, ?_, ?_, ?_, ?_, ?_⟩ <;> simp [nmF, inB, zgk, h1]; done) | (refine ⟨by decide +kernel, ?_⟩; refine ⟨[], ?_, ?_, ?_, ?_, ?_, ?_, ?_⟩ <;> simp [nmF, inB, zgk, h1])
 ·first | (refine ⟨[], ?_, ?_, ?_, ?_, ?_, ?_, ?_⟩ <;> simp [nmF, inB, zgk, h1]; done) | (refine ⟨by decide +kernel, ?_⟩; refine ⟨[], ?_, ?_, ?_, ?_, ?_, ?_, ?_⟩ <;> simp [nmF, inB, zgk, h1])
attribute [simp] Tryz.ntmps176 Tryz.results176
theorem qf3 (w : Warm) (adds : List Res) (gone : List Key) (hs : OkRs w.shown) (hc : OkRs w.c.l) (ha : OkRs adds) (hl : adds.length ≤ 1000) (hg : gone.length ≤ 9223372036854775807) : Ct Tryz.prog 176 [st (zp6 w), lst (adds.map resC), lst (gone.map keyC)] [] [] (.tup [st (zp6 (zdr w adds gone).1), bool (zdr w adds gone).2.1, int (zdr w adds gone).2.2]) [] := by
 refine Ct.B Tryz.func176 mixed 9999 400 ?_
 simp
 refine CW.p (qcf w hs) Tryz.call235 9999 ?_
 simp
 have hh : zdr w adds gone = zgg (zds w) adds gone := rfl
 rw [hh]
 clear hh
 obtain ⟨h1, h2⟩ := zrd hc hs
 generalize zds w = q at h1 h2 ⊢
 refine CW.p (qie q.c adds gone hl hg) Tryz.call236 9999 ?_
 simp
 have h3 := zri (gone := gone) h1 ha hl
 refine sB (fun h4 => ?_) (fun h4 => ?_) <;> simp only [h4] <;> simp <;> (try simp only [nT, nF, dT, dF] at h4)
 ·first | exact fin0 (by simp [zgg, h4]) rfl | exact zaa (by simp [zgg, h4])
 ·refine CW.cc [512] (qfy q (zd8 q.c adds gone).1 h3) Tryz.call237 9999 ?_
  simp
  refine ⟨by decide +kernel, ?_⟩
  first | exact fin0 (by simp [zgg, h4]) rfl | exact zaa (by simp [zgg, h4])
end Go.Proofs.YtbmnaehodmgibaaGreatDoor
end
section
namespace Go.Proofs.YtbmnaehodmgibaaGreatDoor
open Go.AI Go.G
set_option maxRecDepth 20000
attribute [simp] Tryz.ntmps175 Tryz.results175
theorem qz8 (i : Nonce.Nn) : Ct Tryz.prog 175 [st (nnC i)] [] [] (st (nnC (Nonce.inF i))) [] := by
 refine Ct.B Tryz.func175 mixed 9999 400 ?_
 simp
 refine CW.p (zol i) Tryz.call118 9999 ?_
 simp
 refine sB (fun h1 => ?_) (fun h1 => ?_) <;> simp only [h1] <;> simp <;> (try simp only [nT, nF, dT, dF] at h1)
 ·first | exact fin0 (by simp [Nonce.inF, h1]) rfl | exact zaa (by simp [Nonce.inF, h1])
 ·refine CW.p (zog i.m) Tryz.call60 9999 ?_
  simp
  first | exact fin0 (by simp [Nonce.inF, h1]) rfl | exact zaa (by simp [Nonce.inF, h1])
attribute [simp] Tryz.ntmps105 Tryz.results105
theorem qfz (i : Nonce.Nn) (k_ n : Int) : Ct Tryz.prog 105 [st (nnC i), int k_, int n] [] [] (.tup [st (nnC (Nonce.take i k_ n).1), int (Nonce.take i k_ n).2]) [] := by
 refine Ct.B Tryz.func105 mixed 9999 400 ?_
 simp
 refine CW.p (qz8 i) Tryz.call175 9999 ?_
 simp
 simp only [Nonce.take]
 have hb := Nonce.inF_ok i
 generalize Nonce.inF i = q at hb ⊢
 obtain ⟨A, B, C, D, M⟩ := q
 simp only [Nonce.Nn.ok] at hb
 have wA : IntKind.wrap .i64 (A + 1) = A + 1 := zae (by omega) (by omega)
 have wB : IntKind.wrap .i64 (B + 1) = B + 1 := zae (by omega) (by omega)
 have wC : IntKind.wrap .i64 (C + 1) = C + 1 := zae (by omega) (by omega)
 have wD : IntKind.wrap .i64 (D + 1) = D + 1 := zae (by omega) (by omega)
 refine CW.p (zpb k_) Tryz.call129 9999 ?_
 simp
 by_cases hk : Nonce.kindB k_ = true
 ·rcases Nonce.kindB_is hk with rfl | rfl | rfl | rfl
  all_goals
   simp [hk]
  all_goals
   repeat' first
    | (refine sG (fun h => ?_) (fun h => ?_) <;> simp only [h] <;> simp [h, wA, wB, wC, wD])
    | (refine sB (fun h => ?_) (fun h => ?_) <;> simp only [h] <;> simp [h, wA, wB, wC, wD])
    | (refine ⟨(show za4 _ _ from by decide +kernel), ?_⟩)
    | fail
  all_goals
   clear wA wB wC wD
   simp only [Bool.not_eq_true', Bool.not_eq_false', decide_eq_true_eq, decide_eq_false_iff_not] at *
   first
    | (exfalso; omega)
    | (refine fin0 ?_ rfl; simp [Nonce.takeQ, Nonce.Nn.last, Nonce.Nn.set, *]; done)
    | (refine fin0 ?_ rfl; simp_all [Nonce.takeQ, Nonce.Nn.last, Nonce.Nn.set]; done)
    | (refine fin0 ?_ rfl; simp_all [Nonce.takeQ, Nonce.Nn.last, Nonce.Nn.set]; split <;> first | (exfalso; omega) | simp_all)
 ·simp [hk]
  first | exact fin0 (by simp [Nonce.takeQ, hk]) rfl | exact zaa (by simp [Nonce.takeQ, hk])
attribute [simp] Tryz.ntmps100 Tryz.results100
theorem qa9 (m : Int) : Ct Tryz.prog 100 [int m] [] [] (st (nnC (Nonce.startI m))) [] := by
 refine Ct.B Tryz.func100 mixed 9999 400 ?_
 simp
 refine CW.p (zog m) Tryz.call60 9999 ?_
 simp
 first | exact fin0 (by simp) rfl | exact zaa (by simp)
attribute [simp] Tryz.ntmps39 Tryz.results39
theorem zz4 (l m : Int) : Ct Tryz.prog 39 [int l, int m] [] [] (st (zd9 (newX l m))) [] := by
 refine Ct.B Tryz.func39 mixed 9999 400 ?_
 simp
 refine CW.p (qa9 m) Tryz.call100 9999 ?_
 simp
 refine CW.p (qe3 l) Tryz.call103 9999 ?_
 simp
 first | exact fin0 (by simp [newX, newW, newC]) rfl | exact zaa (by simp [newX, newW, newC])
attribute [simp] Tryz.ntmps228 Tryz.results228
theorem zvn (n : Int) : Ct Tryz.prog 228 [int n] [] [] (bool (rngB n 2147483647)) [] := by
 refine Ct.B Tryz.func228 mixed 9999 400 ?_
 simp
 repeat' first
  | (refine sG (fun h => ?_) (fun h => ?_) <;> simp only [h] <;> simp [h])
  | (refine sB (fun h => ?_) (fun h => ?_) <;> simp only [h] <;> simp [h])
  | (refine ⟨(show za4 _ _ from by decide +kernel), ?_⟩)
  | fail
 all_goals exact fin0 (by simp [*, rngB]) rfl
attribute [simp] Tryz.ntmps230 Tryz.results230
theorem zob (n : Int) : Ct Tryz.prog 230 [int n] [] [] (bool (zax n)) [] := by
 refine Ct.B Tryz.func230 mixed 9999 400 ?_
 simp
 rw [zyq]
 repeat' first
  | (refine sG (fun h => ?_) (fun h => ?_) <;> simp only [h] <;> simp [h])
  | (refine sB (fun h => ?_) (fun h => ?_) <;> simp only [h] <;> simp [h])
  | (refine ⟨(show za4 _ _ from by decide +kernel), ?_⟩)
  | fail
 all_goals exact fin0 (by simp [*]) rfl
attribute [simp] Tryz.ntmps99 Tryz.results99
theorem zv2 (s : Side) : Ct Tryz.prog 99 [st (zd9 s)] [] [] (bool (zhq s)) [] := by
 refine Ct.B Tryz.func99 mixed 9999 400 ?_
 simp
 first | exact fin0 (by simp [zhq]) rfl | exact zaa (by simp [zhq])
attribute [simp] Tryz.ntmps178 Tryz.results178
theorem zzj (p : Pins) (hp : OkPins p) : Ct Tryz.prog 178 [st (zl8 p)] [] [] (bool (zor p)) [] := by
 refine Ct.B Tryz.func178 mixed 9999 400 ?_
 simp
 have hl := qd0 hp
 refine CW.p (qfc p hp) Tryz.call173 9999 ?_
 simp
 refine CW.p (zpg ⟨3, 0, 0, 0, 0, [], [], 0, [], zc4 p⟩ (zsl (v := ⟨[], zc4 p, 0, zFrame, false⟩) (by simp only; omega))) Tryz.call22 9999 ?_
 simp
 first | exact fin0 (by simp [zor]) rfl | exact zaa (by simp [zor])
attribute [simp] Tryz.ntmps233 Tryz.results233
theorem qet (s : Side) (h : OkX s) : Ct Tryz.prog 233 [st (zd9 s)] [] [] (bool (zcn s)) [] := by
 refine Ct.B Tryz.func233 mixed 9999 400 ?_
 simp
 refine CW.p (qkc s.p h.pins) Tryz.call110 9999 ?_
 simp
 cases hc : curP s.p with
 | none =>
   simp [hc]
   refine sB (fun h1 => ?_) (fun h1 => ?_) <;> simp only [h1] <;> simp <;> (try simp only [nT, nF, dT, dF] at h1)
   ·first | exact fin0 (by simp [zcn, hc, h1]) rfl | exact zaa (by simp [zcn, hc, h1])
   ·first | exact fin0 (by simp [zcn, hc, h1]) rfl | exact zaa (by simp [zcn, hc, h1])
 | some c =>
   have hok : OkRs c.l := by
    have : c ∈ (zbz s.p).snaps := List.mem_of_getLast? hc
    exact (h.pins.sound.snaps c this).1
   simp [hc]
   refine sB (fun h1 => ?_) (fun h1 => ?_) <;> simp only [h1] <;> simp <;> (try simp only [nT, nF, dT, dF] at h1)
   ·first | exact fin0 (by simp [zcn, hc, h1]) rfl | exact zaa (by simp [zcn, hc, h1])
   ·refine CW.p (zel c.l s.w.shown hok) Tryz.call43 9999 ?_
    simp
    first | exact fin0 (by simp [zcn, hc, h1]) rfl | exact zaa (by simp [zcn, hc, h1])
attribute [simp] Tryz.ntmps294 Tryz.results294
theorem qjx (e : Errs) : Ct Tryz.prog 294 [.d (.ro true [[iD e.e0], [iD e.e1], [iD e.e2], [iD e.e3]]), .d (fnD 230)] [] [] (int (if zax e.e0 = true then 0 else if zax e.e1 = true then 1 else if zax e.e2 = true then 2 else if zax e.e3 = true then 3 else -1)) [] := by
 refine Ct.B Tryz.func294 mixed 9999 400 ?_
 simp
 refine LoopW.unroll mixed (Plain.retC _ _ _ _ _) rfl ?_
 refine CW.run 9999 400 rfl ?_
 simp
 refine CW.ff (FnOk.of (zob e.e0) Tryz.call230 rfl rfl) rfl rfl rfl 9999 ?_
 simp
 refine sB (fun h1 => ?_) (fun h1 => ?_) <;> simp only [h1] <;> simp
 ·first | exact fin0 (by simp [h1]) rfl | exact zaa (by simp [h1])
 refine LoopW.unroll mixed (Plain.retC _ _ _ _ _) rfl ?_
 refine CW.run 9999 400 rfl ?_
 simp
 refine CW.ff (FnOk.of (zob e.e1) Tryz.call230 rfl rfl) rfl rfl rfl 9999 ?_
 simp
 refine sB (fun h2 => ?_) (fun h2 => ?_) <;> simp only [h2] <;> simp
 ·first | exact fin0 (by simp [h1, h2]) rfl | exact zaa (by simp [h1, h2])
 refine LoopW.unroll mixed (Plain.retC _ _ _ _ _) rfl ?_
 refine CW.run 9999 400 rfl ?_
 simp
 refine CW.ff (FnOk.of (zob e.e2) Tryz.call230 rfl rfl) rfl rfl rfl 9999 ?_
 simp
 refine sB (fun h3 => ?_) (fun h3 => ?_) <;> simp only [h3] <;> simp
 ·first | exact fin0 (by simp [h1, h2, h3]) rfl | exact zaa (by simp [h1, h2, h3])
 refine LoopW.unroll mixed (Plain.retC _ _ _ _ _) rfl ?_
 refine CW.run 9999 400 rfl ?_
 simp
 refine CW.ff (FnOk.of (zob e.e3) Tryz.call230 rfl rfl) rfl rfl rfl 9999 ?_
 simp
 refine sB (fun h4 => ?_) (fun h4 => ?_) <;> simp only [h4] <;> simp
 ·first | exact fin0 (by simp [h1, h2, h3, h4]) rfl | exact zaa (by simp [h1, h2, h3, h4])
 refine LoopW.unroll mixed (Plain.retC _ _ _ _ _) rfl ?_
 refine CW.run 9999 400 rfl ?_
 simp
 first | exact fin0 (by simp [h1, h2, h3, h4]) rfl | exact zaa (by simp [h1, h2, h3, h4])
attribute [simp] Tryz.ntmps229 Tryz.results229
theorem qkp (e : Errs) : Ct Tryz.prog 229 [.d (.ro true [[iD e.e0], [iD e.e1], [iD e.e2], [iD e.e3]]), .d (fnD 230)] [] [] (bool (zax e.e0 || zax e.e1 || zax e.e2 || zax e.e3)) [] := by
 refine Ct.B Tryz.func229 mixed 9999 400 ?_
 simp
 refine CW.p (qjx e) Tryz.call294 9999 ?_
 simp
 cases h0 : zax e.e0 <;> cases h1 : zax e.e1 <;> cases h2 : zax e.e2 <;> cases h3 : zax e.e3
 all_goals
  simp [h0, h1, h2, h3]
 all_goals
  first | exact fin0 (by simp [h0, h1, h2, h3]) rfl | exact zaa (by simp [h0, h1, h2, h3])
attribute [simp] Tryz.ntmps172 Tryz.results172
theorem qgi (s : Side) (h : OkX s) : Ct Tryz.prog 172 [st (zd9 s)] [] [] (bool (zck s)) [] := by
 refine Ct.B Tryz.func172 mixed 1 400 ?_
 simp
 refine CW.s (tm := [(1, .d (.pro (zd9 s)))]) (mm := []) (nx := 65) [] [64] (by constructor <;> simp) ?_
 refine CW.run 9999 400 rfl ?_
 simp
 refine CW.p (zvn s.epoch) Tryz.call228 9999 ?_
 simp
 refine sG (fun h1 => ?_) (fun h1 => ?_) <;> simp only [h1] <;> simp
 ·refine CW.p (zvn s.turn) Tryz.call228 9999 ?_
  simp
  refine sG (fun h2 => ?_) (fun h2 => ?_) <;> simp only [h2] <;> simp
  ·refine CW.arr ti94 ti28 9999 ?_
   simp
   refine CW.p (qkp s.errs) Tryz.call229 9999 ?_
   simp
   refine sG (fun h3 => ?_) (fun h3 => ?_) <;> simp only [h3] <;> simp
   ·refine CW.p (zol s.inn) Tryz.call118 9999 ?_
    simp
    refine sG (fun h4 => ?_) (fun h4 => ?_) <;> simp only [h4] <;> simp
    ·refine CW.p (zza s.w h.shown) Tryz.call231 9999 ?_
     simp
     refine sG (fun h5 => ?_) (fun h5 => ?_) <;> simp only [h5] <;> simp
     ·refine CW.p (zzd s.p h.sl h.next) Tryz.call232 9999 ?_
      simp
      refine sG (fun h6 => ?_) (fun h6 => ?_) <;> simp only [h6] <;> simp
      ·refine CW.p (zzj s.p h.pins) Tryz.call178 9999 ?_
       simp
       refine sG (fun h7 => ?_) (fun h7 => ?_) <;> simp only [h7] <;> simp
       ·refine CW.p (qet s h) Tryz.call233 9999 ?_
        simp
        first | exact fin0 (by simp [zck, h1, h2, h3, h4, h5, h6, h7]) rfl | exact zaa (by simp [zck, h1, h2, h3, h4, h5, h6, h7])
       ·first | exact fin0 (by simp [zck, h7]) rfl | exact zaa (by simp [zck, h7])
      ·first | exact fin0 (by simp [zck, h6]) rfl | exact zaa (by simp [zck, h6])
     ·first | exact fin0 (by simp [zck, h5]) rfl | exact zaa (by simp [zck, h5])
    ·first | exact fin0 (by simp [zck, h4]) rfl | exact zaa (by simp [zck, h4])
   ·have h3' : (zax s.errs.e0 || zax s.errs.e1 || zax s.errs.e2 || zax s.errs.e3) = true := by
     cases hb : (zax s.errs.e0 || zax s.errs.e1 || zax s.errs.e2 || zax s.errs.e3) with
     | true => rfl
     | false => simp only [Bool.or_eq_false_iff] at hb; simp [hb] at h3
    have e : zck s = false := by unfold zck; rw [h3']; simp
    first | exact fin0 (by simp [e]) rfl | exact zaa (by simp [e])
  ·first | exact fin0 (by simp [zck, h2]) rfl | exact zaa (by simp [zck, h2])
 ·first | exact fin0 (by simp [zck, h1]) rfl | exact zaa (by simp [zck, h1])
attribute [simp] Tryz.ntmps98 Tryz.results98
theorem zoi (s : Side) (h : OkX s) : Ct Tryz.prog 98 [st (zd9 s)] [] [] (st (zd9 (zco s))) [] := by
 refine Ct.B Tryz.func98 mixed 9999 400 ?_
 simp
 refine CW.p (qgi s h) Tryz.call172 9999 ?_
 simp
 refine sB (fun h1 => ?_) (fun h1 => ?_) <;> simp only [h1] <;> simp <;> (try simp only [nT, nF, dT, dF] at h1)
 ·refine CW.p (zz4 s.w.c.cap s.inn.m) Tryz.call39 9999 ?_
  simp
  first | exact fin0 (by simp [zco, h1]) rfl | exact zaa (by simp [zco, h1])
 ·first | exact fin0 (by simp [zco, h1]) rfl | exact zaa (by simp [zco, h1])
attribute [simp] Tryz.ntmps102 Tryz.results102
theorem ziq (s : Side) (f : G.Frame) (h : OkX s) (ht : s.turn ≤ 2147483647) (ht0 : 0 ≤ s.turn) : Ct Tryz.prog 102 [st (zd9 s), st (zak f)] [] [] (.tup [st (zd9 (zcv s)), st (zak { f with turn := s.turn + 1, held := zc4 s.p })]) [] := by
 refine Ct.B Tryz.func102 mixed 9999 400 ?_
 simp
 have hw : IntKind.wrap .i64 (s.turn + 1) = s.turn + 1 := zae (by omega) (by omega)
 simp [hw]
 refine CW.p (qfc s.p h.pins) Tryz.call173 9999 ?_
 simp
 refine ⟨by decide +kernel, ?_⟩
 refine ⟨by decide +kernel, ?_⟩
 first | exact fin0 (by simp [zcv]) rfl | exact zaa (by simp [zcv])
attribute [simp] Tryz.ntmps107 Tryz.results107
theorem qkr (s : Side) (f : G.Frame) (h : OkX s) (ht : s.turn ≤ 2147483647) (ht0 : 0 ≤ s.turn) (hk : f.kind = 0 ∨ f.kind = 1 ∨ f.kind = 2 ∨ f.kind = 3) : Ct Tryz.prog 107 [st (zd9 s), st (zak f)] [] [] (.tup [st (zd9 (ackX s f).1), lst ((ackX s f).2.map zak)]) [] := by
 refine Ct.B Tryz.func107 mixed 9999 400 ?_
 simp
 rcases hk with hk | hk | hk | hk
 all_goals
  simp [hk]
 ·refine CW.p (ziq s ⟨2, f.epoch, f.kind, f.nonce, 0, [], [], s.errs.e0, [], []⟩ h ht ht0) Tryz.call102 9999 ?_ (ha := by simp [hk])
  simp [hk]
  refine ⟨by decide +kernel, ?_⟩
  refine ⟨by decide +kernel, ?_⟩
  first | exact fin0 (by simp [ackX, Errs.get, hk]) rfl | exact zaa (by simp [ackX, Errs.get, hk])
 ·refine CW.p (ziq s ⟨2, f.epoch, f.kind, f.nonce, 0, [], [], s.errs.e1, [], []⟩ h ht ht0) Tryz.call102 9999 ?_ (ha := by simp [hk])
  simp [hk]
  refine ⟨by decide +kernel, ?_⟩
  refine ⟨by decide +kernel, ?_⟩
  first | exact fin0 (by simp [ackX, Errs.get, hk]) rfl | exact zaa (by simp [ackX, Errs.get, hk])
 ·refine CW.p (ziq s ⟨2, f.epoch, f.kind, f.nonce, 0, [], [], s.errs.e2, [], []⟩ h ht ht0) Tryz.call102 9999 ?_ (ha := by simp [hk])
  simp [hk]
  refine ⟨by decide +kernel, ?_⟩
  refine ⟨by decide +kernel, ?_⟩
  first | exact fin0 (by simp [ackX, Errs.get, hk]) rfl | exact zaa (by simp [ackX, Errs.get, hk])
 ·refine CW.p (ziq s ⟨2, f.epoch, f.kind, f.nonce, 0, [], [], s.errs.e3, [], []⟩ h ht ht0) Tryz.call102 9999 ?_ (ha := by simp [hk])
  simp [hk]
  refine ⟨by decide +kernel, ?_⟩
  refine ⟨by decide +kernel, ?_⟩
  first | exact fin0 (by simp [ackX, Errs.get, hk]) rfl | exact zaa (by simp [ackX, Errs.get, hk])
attribute [simp] Tryz.ntmps104 Tryz.results104
theorem zzl (s : Side) (f : G.Frame) (hf : OkFrame f) : Ct Tryz.prog 104 [st (zd9 s), st (zak f)] [] [] (int (zbm s f)) [] := by
 refine Ct.B Tryz.func104 mixed 9999 400 ?_
 simp
 refine sB (fun h1 => ?_) (fun h1 => ?_) <;> simp only [h1] <;> simp <;> (try simp only [nT, nF, dT, dF] at h1)
 ·first | exact fin0 (by simp [zbm, h1]) rfl | exact zaa (by simp [zbm, h1])
 refine CW.p (zpg f hf) Tryz.call22 9999 ?_
 simp
 refine sB (fun h2 => ?_) (fun h2 => ?_) <;> simp only [h2] <;> simp <;> (try simp only [nT, nF, dT, dF] at h2)
 ·first | exact fin0 (by simp [zbm, h1, h2]) rfl | exact zaa (by simp [zbm, h1, h2])
 refine sB (fun h3 => ?_) (fun h3 => ?_) <;> simp only [h3] <;> simp <;> (try simp only [nT, nF, dT, dF] at h3)
 ·first | exact fin0 (by simp [zbm, h1, h2, h3]) rfl | exact zaa (by simp [zbm, h1, h2, h3])
 refine sB (fun h4 => ?_) (fun h4 => ?_) <;> simp only [h4] <;> simp <;> (try simp only [nT, nF, dT, dF] at h4)
 ·first | exact fin0 (by simp [zbm, h1, h2, h3, h4]) rfl | exact zaa (by simp [zbm, h1, h2, h3, h4])
 ·first | exact fin0 (by simp [zbm, h1, h2, h3, h4]) rfl | exact zaa (by simp [zbm, h1, h2, h3, h4])
attribute [simp] Tryz.ntmps38 Tryz.results38
theorem zso (s : Side) (ep : Int) (h : OkX s) : Ct Tryz.prog 38 [st (zd9 s), int ep] [] [] (.tup [st (zd9 (zaz s ep).1), lst ((zaz s ep).2.1.map zak), int (zaz s ep).2.2]) [] := by
 refine Ct.B Tryz.func38 mixed 9999 400 ?_
 simp
 refine CW.p (zoi s h) Tryz.call98 9999 ?_
 simp
 have hh : zaz s ep = zcd (zco s) ep := rfl
 rw [hh]
 clear hh
 have ho := h.sound
 have ht := zyu (zfy s)
 generalize zco s = q at ho ht ⊢
 refine sG (fun h1 => ?_) (fun h1 => ?_) <;> simp only [h1] <;> simp
 ·have h1' : ep ≤ q.epoch ∨ 2147483647 < ep := .inl (by simpa using h1)
  first | exact fin0 (by simp [zcd, h1']) rfl | exact zaa (by simp [zcd, h1'])
 refine sB (fun h2 => ?_) (fun h2 => ?_) <;> simp only [h2] <;> simp
 ·have h1' : ep ≤ q.epoch ∨ 2147483647 < ep := .inr (by simpa using h2)
  first | exact fin0 (by simp [zcd, h1']) rfl | exact zaa (by simp [zcd, h1'])
 have h1' : ¬ (ep ≤ q.epoch ∨ 2147483647 < ep) := by simp at h1 h2; omega
 refine CW.p (zv2 q) Tryz.call99 9999 ?_
 simp
 refine sB (fun h3 => ?_) (fun h3 => ?_) <;> simp only [h3] <;> simp <;> (try simp only [nT, nF, dT, dF] at h3)
 ·first | exact fin0 (by simp [zcd, h1', h3]) rfl | exact zaa (by simp [zcd, h1', h3])
 refine CW.p (qa9 q.inn.m) Tryz.call100 9999 ?_
 simp
 refine CW.p (qaj q.w.c.l (by have := ho.cl; omega)) Tryz.call101 9999 ?_
 simp
 refine CW.p (ziq { q with epoch := ep, up := true, inn := Nonce.startI q.inn.m, errs := ⟨0, 0, 0, 0⟩ } ⟨3, ep, 0, 0, 0, [], [], 0, [], []⟩ (.mk' ho.c ho.cl ho.shown ho.pins) ht.2 ht.1) Tryz.call102 9999 ?_
 simp
 refine ⟨by decide +kernel, ?_⟩
 first | exact fin0 (by simp [zcd, h1', h3, ze5, zhw, zcv]) rfl | exact zaa (by simp [zcd, h1', h3, ze5, zhw, zcv])
attribute [simp] Tryz.ntmps106 Tryz.results106
theorem qiu (s : Side) (f : G.Frame) (h : OkX s) (hf : OkFrame f) (hl : f.adds.length ≤ 1000) (hk : f.kind = 0 ∨ f.kind = 1 ∨ f.kind = 2 ∨ f.kind = 3) : Ct Tryz.prog 106 [st (zd9 s), st (zak f)] [] [] (.tup [st (zd9 (zfa s f).1), int (zfa s f).2]) [] := by
 refine Ct.B Tryz.func106 mixed 9999 400 ?_
 simp
 refine CW.p (qf3 s.w f.adds f.gone h.shown h.c hf.adds hl hf.gone) Tryz.call176 9999 ?_
 simp
 obtain ⟨o1, o2⟩ := zvi (gone := f.gone) h.c h.shown hf.adds hl
 obtain ⟨o3, o4⟩ := zqd s.w f.adds f.gone
 unfold zfa
 dsimp only
 generalize zdr s.w f.adds f.gone = W at o1 o2 o3 o4 ⊢
 obtain ⟨w', ch, why⟩ := W
 simp only at o1 o2 o3 o4 ⊢
 cases ch with
 | false =>
   simp
   refine CW.p (zzj s.p h.pins) Tryz.call178 9999 ?_
   simp
   refine sB (fun h1 => ?_) (fun h1 => ?_) <;> simp only [h1] <;> simp <;> (try simp only [nT, nF, dT, dF] at h1)
   ·rcases hk with hk | hk | hk | hk
    all_goals
     simp [hk]
    all_goals
     first | exact fin0 (by simp [h1, hk, Errs.set]) rfl | exact zaa (by simp [h1, hk, Errs.set])
   ·rcases hk with hk | hk | hk | hk
    all_goals
     simp [hk]
    all_goals
     refine ⟨by decide +kernel, ?_⟩
    all_goals
     first | exact fin0 (by simp [h1, hk, Errs.set]) rfl | exact zaa (by simp [h1, hk, Errs.set])
 | true =>
   simp
   refine CW.p (zzr s.p w'.shown h.pins) Tryz.call177 9999 ?_
   simp
   have op := zno h.pins o2 o4
   refine sB (fun h0 => ?_) (fun h0 => ?_) <;> simp only [h0] <;> simp <;> (try simp only [nT, nF, dT, dF] at h0)
   ·first | exact fin0 (by simp [h0]) rfl | exact zaa (by simp [h0])
   refine CW.p (zzj (zby s.p w'.shown).1 op) Tryz.call178 9999 ?_
   simp
   refine sB (fun h1 => ?_) (fun h1 => ?_) <;> simp only [h1] <;> simp <;> (try simp only [nT, nF, dT, dF] at h1)
   ·rcases hk with hk | hk | hk | hk
    all_goals
     simp [hk]
    all_goals
     first | exact fin0 (by simp [h0, h1, hk, Errs.set]) rfl | exact zaa (by simp [h0, h1, hk, Errs.set])
   ·rcases hk with hk | hk | hk | hk
    all_goals
     simp [hk]
    all_goals
     refine ⟨by decide +kernel, ?_⟩
    all_goals
     first | exact fin0 (by simp [h0, h1, hk, Errs.set]) rfl | exact zaa (by simp [h0, h1, hk, Errs.set])
attribute [simp] Tryz.ntmps40 Tryz.results40
theorem ztk (s : Side) (f : G.Frame) (h : OkX s) (hf : OkFrame f) : Ct Tryz.prog 40 [st (zd9 s), st (zak f)] [] [] (.tup [st (zd9 (zgu s f).1), lst ((zgu s f).2.1.map zak), int (zgu s f).2.2]) [] := by
 refine Ct.B Tryz.func40 mixed 9999 400 ?_
 simp
 refine CW.p (zoi s h) Tryz.call98 9999 ?_
 simp
 have hh : zgu s f = zfz (zco s) f := rfl
 rw [hh]
 clear hh
 have ho := h.sound
 have ht := zyu (zfy s)
 generalize zco s = q at ho ht ⊢
 refine CW.p (zzl q f hf) Tryz.call104 9999 ?_
 simp
 refine sB (fun h1 => ?_) (fun h1 => ?_) <;> simp only [h1] <;> simp <;> (try simp only [nT, nF, dT, dF] at h1)
 ·first | exact fin0 (by simp [zfz, h1]) rfl | exact zaa (by simp [zfz, h1])
 have F := zqx h1
 have hk := zq0 F
 have hl := (zcp (frameE_zero.1 F).small).1
 refine CW.p (qfz q.inn f.kind f.nonce) Tryz.call105 9999 ?_
 simp
 refine sB (fun h2 => ?_) (fun h2 => ?_) <;> simp only [h2] <;> simp <;> (try simp only [nT, nF, dT, dF] at h2)
 ·refine CW.p (zv2 q) Tryz.call99 9999 ?_
  simp
  refine sB (fun h3 => ?_) (fun h3 => ?_) <;> simp only [h3] <;> simp <;> (try simp only [nT, nF, dT, dF] at h3)
  ·first | exact fin0 (by simp [zfz, h1, h2, h3]) rfl | exact zaa (by simp [zfz, h1, h2, h3])
  refine CW.p (qiu q f ho hf (by omega) hk) Tryz.call106 9999 ?_
  simp
  have hos := ho.step hf.adds (show f.adds.length ≤ 1000 by omega)
  have htu := zwz q f
  refine sB (fun h4 => ?_) (fun h4 => ?_) <;> simp only [h4] <;> simp <;> (try simp only [nT, nF, dT, dF] at h4)
  ·first | exact fin0 (by simp [zfz, h1, h2, h3, h4]) rfl | exact zaa (by simp [zfz, h1, h2, h3, h4])
  refine CW.p (zv2 q) Tryz.call99 9999 ?_ (ha := by simp [h3])
  simp [h3]
  refine CW.p (qkr { (zfa q f).1 with inn := (Nonce.take q.inn f.kind f.nonce).1 } f (.mk' hos.c hos.cl hos.shown hos.pins) (by simp only [htu]; exact ht.2) (by simp only [htu]; exact ht.1) hk) Tryz.call107 9999 ?_
  simp
  first | exact fin0 (by simp [zfz, h1, h2, h3, h4]) rfl | exact zaa (by simp [zfz, h1, h2, h3, h4])
 ·refine sB (fun h5 => ?_) (fun h5 => ?_) <;> simp only [h5] <;> simp <;> (try simp only [nT, nF, dT, dF] at h5)
  ·refine CW.p (zv2 q) Tryz.call99 9999 ?_
   simp
   refine sB (fun h3 => ?_) (fun h3 => ?_) <;> simp only [h3] <;> simp <;> (try simp only [nT, nF, dT, dF] at h3)
   ·first | exact fin0 (by simp [zfz, h1, h2, h3, h5]) rfl | exact zaa (by simp [zfz, h1, h2, h3, h5])
   refine CW.p (qkr q f ho ht.2 ht.1 hk) Tryz.call107 9999 ?_
   simp
   first | exact fin0 (by simp [zfz, h1, h2, h3, h5]) rfl | exact zaa (by simp [zfz, h1, h2, h3, h5])
  ·first | exact fin0 (by simp [zfz, h1, h2, h5]) rfl | exact zaa (by simp [zfz, h1, h2, h5])
attribute [simp] Tryz.ntmps44 Tryz.results44
theorem qf9 (s : Side) (h : OkX s) : Ct Tryz.prog 44 [st (zd9 s)] [] [] (.tup [lst ((((znh s).map (·.l)).getD []).map resC), bool (znh s).isSome]) [] := by
 refine Ct.B Tryz.func44 mixed 9999 400 ?_
 simp
 refine CW.p (zoi s h) Tryz.call98 9999 ?_
 simp
 have hh : znh s = curP (zco s).p := rfl
 rw [hh]
 refine CW.p (qkc (zco s).p h.sound.pins) Tryz.call110 9999 ?_
 simp
 first | exact fin0 (by simp) rfl | exact zaa (by simp)
end Go.Proofs.YtbmnaehodmgibaaGreatDoor
end
