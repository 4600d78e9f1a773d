/-
  LAYERS 16 to 20: the walks of caches, of pins, of what is warm, of sidecars, of what is settled.
-/
import Derived.Test.YtmhfcgpmmghakaaGreatDoorWe
import Derived.Test.YtmhfcgpmmghakaaGreatDoorPs
import Derived.Defers
import Derived.Recover
import Derived.Tactics
import Derived.Tactics2
import Derived.WalkLawsBesides
import Derived.Test.YtmhfcgpmmghakaaGreatDoorWf
import Derived.Test.YtmhfcgpmmghakaaGreatDoorFd
import Derived.Test.YtmhfcgpmmghakaaGreatDoorWh
set_option linter.unusedSimpArgs false
set_option linter.unusedVariables false
namespace Go.Proofs.YtmhfcgpmmghakaaGreatDoor
open Go.AI Go.G Tryz
set_option maxRecDepth 20000
attribute [simp] ntmps331 results331 ntmps332 results332 ntmps108 results108 ntmps74 results74 ntmps275 results275 ntmps329 results329 ntmps269 results269 ntmps272 results272 ntmps270 results270 ntmps274 results274 ntmps193 results193
abbrev badV (n : Int) : Value := .iface 431 (.agg #[.int .i64 n])
theorem qou (w : World) (v : Value) : (Instr.typeAssert (.iface 431 v) 20 431 false).run prog w = .ok v w := by kernel_rfl
theorem qqz (w : World) (n : Int) : (Instr.field 431 (.agg #[.int .i64 n]) 0).run prog w = .ok (.int .i64 n) w := by kernel_rfl
theorem qah (p : Addr) (w : World) :
  CallsD prog 330 #[.pointer (some p)] .returning w fun e u' w' => e = .returned (.tuple #[]) ∧ u' = .returning ∧ w' = w := by
 refine callsD_of_wpS func330 rfl fun c₀ cs hu => ?_
 apply wpS_seq
 apply wpS_region
 simp [wpOpsS, go_sem, recoverD, hu, ntmps330, Exit.thenS]
 apply wpS_seq
 apply wpS_region
 simp [wpOpsS, go_sem, recoverD, hu, ntmps330, Exit.thenS]
 refine wpS_cond (t := false) (by simp [Act.eval, Array.replicate]) ?_
 simp only [Bool.false_eq_true, if_false]
 refine wpS_of_wp (wp_skip ?_)
 cases c₀
 simp_all [bodyPostS, results, results330]
theorem qin (p : Addr) (x : Value) (n : Int) (w : World) (hc : w.cell? p = some x) (hz : w.frozen? p = false) :
  CallsD prog 330 #[.pointer (some p)] (.panicking (pan (badV n))) w fun e u' w' =>
   e = .returned (.tuple #[]) ∧ u' = .panicking [{ v := badV n, recovered := true }] ∧ w' = w.setCell p (.int .i64 n) := by
 refine callsD_of_wpS func330 rfl fun c₀ cs hu => ?_
 apply wpS_seq
 apply wpS_region
 simp [wpOpsS, go_sem, recoverD, hu, ntmps330, Exit.thenS]
 apply wpS_seq
 apply wpS_region
 simp [wpOpsS, go_sem, recoverD, hu, ntmps330, Exit.thenS]
 refine wpS_cond (t := true) (by simp [Act.eval, Array.replicate]) ?_
 simp only [if_true]
 apply wpS_region
 simp [wpOpsS, go_sem, qou, qqz, hc, hz, bodyPostS, results, results330]
theorem qhb (n : Int) (h : ¬ n = 0) (w : World) : Calls prog 331 #[.int .i64 n] w fun e w' => e = .panicked (pan (badV n)) ∧ w' = w := by
 go_enter func331, ntmps331
 go_wp2
 exact ⟨rfl, rfl, rfl⟩
theorem qim (g : FuncId) (xs : Array Value) (w : World) (R : Ending → World → Prop) (hen : zc4 prog g) (S : Int → World → Prop)
  (hdo : Calls prog g xs (w.alloc (.cells #[.int .i64 0] 43)) fun e w' => ∃ n, S n w' ∧ (∃ x, w'.cell? ⟨w.heap.size, 0, none⟩ = some x) ∧ w'.frozen? ⟨w.heap.size, 0, none⟩ = false ∧ ((n = 0 ∧ ∃ v, e = .returned v) ∨ e = .panicked (pan (badV n))))
  (hR : ∀ n w', S n w' → R (.returned (.int .i64 n)) (w'.setCell ⟨w.heap.size, 0, none⟩ (.int .i64 n))) : Calls prog 273 #[.func (.func g) #[] xs] w R := by
 have hmf : ∀ (fn : Fn) (first cap : Array Value) (w : World), (Instr.makeFunc fn first cap).run prog w = .ok (.func fn first cap) w := fun _ _ _ _ => rfl
 go_enter_defers func273, ntmps273
 refine wp_seq (wp_region ?_)
 simp [wpOps, go_sem, Oper.wp, Exit.then]
 refine .inl ?_
 refine wp_seq (wp_region ?_)
 simp [wpOps, go_sem, Oper.wp, Exit.then, hmf]
 refine .inl (.inl ?_)
 refine wp_seq (wp_region ?_)
 simp [wpOps, go_sem, Oper.wp, Exit.then, invoke]
 refine .inl (.inl ?_)
 rw [hen]
 simp only [Oper.upon]
 refine hdo.mono fun e w' ⟨n, h1, ⟨x, h2⟩, h3, h4⟩ => ?_
 rcases h4 with ⟨rfl, v, rfl⟩ | rfl
 ·refine wp_seq (wp_region ?_)
  simp [wpOps, go_sem, Oper.wp, Exit.then, h2, h3]
  refine .inl (wp_ret ?_)
  refine leaves_cons (f := 330) (args := #[.pointer (some ⟨w.heap.size, 0, none⟩)]) (by simp) (by simp [go_sem]) ?_
  refine (qah ⟨w.heap.size, 0, none⟩ _).mono ?_
  rintro e u' w'' ⟨rfl, rfl, rfl⟩
  simp [Leaves, settle, results, results273, go_sem, h2]
  exact hR 0 w' h1
 ·refine leaves_cons (f := 330) (args := #[.pointer (some ⟨w.heap.size, 0, none⟩)]) (by simp) (by simp [go_sem]) ?_
  refine (qin ⟨w.heap.size, 0, none⟩ x n _ h2 h3).mono ?_
  rintro e u' w'' ⟨rfl, rfl, rfl⟩
  simp [Leaves, settle, results, results273, go_sem, h2]
  exact hR n w' h1
theorem zyb {fin : Value → Ending} {g : FuncId} {args : List AV} {mr m m' : List (Nat × Blk)} {res : AV} (n : Int) (hen : zc4 prog g) (hct : CtF (fun _ _ => True) fin prog g args mr m res m') (hf : ∀ v, (n = 0 ∧ fin v = .returned v) ∨ fin v = .panicked (pan (badV n))) :
  Ct prog 273 [.fn (.func g) [] args] mr m (int n) m' := by
 intro σ I w vs hib hl hv hrm hfree
 obtain ⟨v, rfl⟩ : ∃ v, vs = [v] := by
  match vs, hl with
  | [v], _ => exact ⟨v, rfl⟩
 have h0 := hv 0 _ v rfl rfl
 cases h0 with
 | @fn _ _ _ xs ys hx hy h1 h2 =>
   obtain rfl : xs = [] := List.eq_nil_of_length_eq_zero (by simpa using hx)
   refine qim g ys.toArray w _ hen (fun k w' => k = n ∧ ∃ σ' I', Post σ I (w.alloc (.cells #[.int .i64 0] 43)) (zab (mr ++ m)) 64 σ' I' w' (zab (mr ++ m'))) ?_ ?_
   ·have hold : ∀ k, k < w.heap.size → (w.alloc (.cells #[.int .i64 0] 43)).heap[k]? = w.heap[k]? := fun k hk => heap_alloc_old w _ hk
    refine (hct σ I _ ys trivial (fun k hk => by have := hib k hk; simp; omega) hy (fun i c x p1 p2 => (h2 i c x p1 p2).mono (fun k hk => hold k (hib k hk)) (fun _ h => h) (fun _ _ h => h)) (hrm.moved (by simp) fun k hk => hold k ?_) hfree).mono fun e w' ⟨v, σ', I', he, hp, _⟩ => ?_
    ·rcases hk with hk | ⟨b, q, y, q1, q2, q3⟩
     ·exact hib k hk
     ·obtain ⟨y', q4, _, q5⟩ := hrm.blk b q q1
      rw [q2] at q4; cases q4
      exact (q5 k q3).1
    ·obtain ⟨_, p2, p3⟩ := zso (v := undef) hrm hib hp
     exact ⟨n, ⟨rfl, σ', I', hp⟩, ⟨_, p2⟩, p3, (hf v).imp (fun ⟨a, b⟩ => ⟨a, v, he.trans b⟩) he.trans⟩
   ·rintro k w' ⟨rfl, σ', I', hp⟩
    exact ⟨_, σ', I', rfl, (zso hrm hib hp).1, .d (.v _)⟩
theorem zuh {g : FuncId} {args : List AV} {mr m m' : List (Nat × Blk)} {res : AV} (hen : zc4 prog g) (hct : Ct prog g args mr m res m') : Ct prog 273 [.fn (.func g) [] args] mr m (int 0) m' := zyb 0 hen hct.F fun _ => .inl ⟨rfl, rfl⟩
theorem zug {g : FuncId} {args : List AV} {mr m m' : List (Nat × Blk)} {n : Int} (hen : zc4 prog g) (hct : CtX prog g args mr m (badV n) m') : Ct prog 273 [.fn (.func g) [] args] mr m (int n) m' := zyb n hen hct fun _ => .inr rfl
theorem zvp (n : Int) (h : ¬ n = 0) : CtX prog 331 [int n] [] [] (badV n) [] := by
 intro σ I w vs _ hib hl hv hrm hfree
 obtain ⟨v, rfl⟩ : ∃ v, vs = [v] := by
  match vs, hl with
  | [v], _ => exact ⟨v, rfl⟩
 have h0 := hv 0 _ v rfl rfl
 cases h0 with
 | d h0 => cases h0 with
   | v =>
     refine (qhb n h w).mono fun e w' ⟨he, hw⟩ => ?_
     subst hw
     exact ⟨undef, σ, I, he, ⟨rfl, rfl, SameOut.refl _, Nat.le_refl _, fun _ _ h => h, fun b h1 h2 => absurd h1 h2, fun _ h => h, hib, fun _ h => .inl h, fun _ _ _ => rfl, hrm, fun b k h => by simp [zab] at h, fun _ h => .inl h⟩, .any _⟩
theorem zkj : Ct prog 331 [int 0] [] [] (.tup []) [] := by
 refine Ct.B func331 mixed 99 400 ?_
 simp
 exact fin0 (by simp) rfl
theorem zrt (n : Int) : Ct prog 332 [bool true, int n] [] [] (int 0) [] := by
 refine Ct.B func332 mixed 99 400 ?_
 simp
 exact fin0 (by simp) rfl
theorem qa5 (n : Int) : Ct prog 332 [bool false, int n] [] [] (int n) [] := by
 refine Ct.B func332 mixed 99 400 ?_
 simp
 exact fin0 (by simp) rfl
theorem zpn (n : Int) : Ct prog 108 [int n] [] [] (int (capN n)) [] := by
 refine Ct.B func108 mixed 99 400 ?_
 simp
 have e := zyc n
 exact fin0 (by simp [e]) rfl
theorem qjp (n : Int) : Ct prog 74 [int n] [] [] (st (zco (newC n))) [] := by
 refine Ct.B func74 mixed 99 400 ?_
 simp
 refine CI.p (zpn n) call108 99 ?_
 simp
 exact fin0 (by simp [newC]) rfl
theorem qdo (c : Cache) (l : List Res) (h : zdz c.cap l = 0) : Ct prog 275 [st (zco c), lst (l.map resC)] [] [] (.tup []) [] := by
 refine Ct.B func275 mixed 99 400 ?_
 simp
 obtain ⟨h1, h2, h3⟩ := must_iff.1 h
 have hl := tab_len h1
 refine CI.p (zmg l) call164 99 ?_
 simp
 refine CI.p zkj call331 99 ?_ (ha := by simp [h1])
 simp [h1]
 refine CI.p (zrt 8) call332 99 ?_ (ha := by simp [h2])
 simp [h2]
 refine CI.p zkj call331 99 ?_
 simp
 refine CI.p (zp3 l (zfq h1) (by omega)) call166 99 ?_
 simp
 refine CI.p zkj call331 99 ?_ (ha := by simp [h3])
 simp [h3]
 exact fin0 (by simp) rfl
theorem qhf (c : Cache) (l : List Res) (h : ¬ tabE l = 0) : CtX prog 275 [st (zco c), lst (l.map resC)] [] [] (badV (tabE l)) [] := by
 refine CtX.B func275 mixed 99 400 ?_
 simp
 refine CI.p (zmg l) call164 99 ?_
 simp
 refine CI.up [] (zvp (tabE l) h) call331 ?_
 refine ⟨rfl, ?_⟩
 constructor <;> simp [nmF, inB]
theorem qhh (c : Cache) (l : List Res) (h1 : tabE l = 0) (h2 : ¬ (l.length : Int) ≤ c.cap) : CtX prog 275 [st (zco c), lst (l.map resC)] [] [] (badV 8) [] := by
 refine CtX.B func275 mixed 99 400 ?_
 simp
 have hl := tab_len h1
 refine CI.p (zmg l) call164 99 ?_
 simp
 refine CI.p zkj call331 99 ?_ (ha := by simp [h1])
 simp [h1]
 refine CI.p (qa5 8) call332 99 ?_ (ha := by simp [h2])
 simp [h2]
 refine CI.up [] (zvp 8 (by decide)) call331 ?_
 refine ⟨rfl, ?_⟩
 constructor <;> simp [nmF, inB]
theorem qhg (c : Cache) (l : List Res) (h1 : tabE l = 0) (h2 : (l.length : Int) ≤ c.cap) (h3 : ¬ zba l = 0) : CtX prog 275 [st (zco c), lst (l.map resC)] [] [] (badV (zba l)) [] := by
 refine CtX.B func275 mixed 99 400 ?_
 simp
 have hl := tab_len h1
 refine CI.p (zmg l) call164 99 ?_
 simp
 refine CI.p zkj call331 99 ?_ (ha := by simp [h1])
 simp [h1]
 refine CI.p (zrt 8) call332 99 ?_ (ha := by simp [h2])
 simp [h2]
 refine CI.p zkj call331 99 ?_
 simp
 refine CI.p (zp3 l (zfq h1) (by omega)) call166 99 ?_
 simp
 refine CI.up [] (zvp (zba l) h3) call331 ?_
 refine ⟨rfl, ?_⟩
 constructor <;> simp [nmF, inB]
theorem qdn (c : Cache) (l : List Res) (h : ¬ zdz c.cap l = 0) : CtX prog 275 [st (zco c), lst (l.map resC)] [] [] (badV (zdz c.cap l)) [] := by
 by_cases h1 : tabE l = 0
 ·by_cases h2 : (l.length : Int) ≤ c.cap
  ·have e : zdz c.cap l = zba l := by simp [zdz, h1, show ¬ c.cap < l.length by omega]
   rw [e] at h ⊢
   exact qhg c l h1 h2 h
  ·have e : zdz c.cap l = 8 := by simp [zdz, h1, show c.cap < l.length by omega]
   rw [e]
   exact qhh c l h1 h2
 ·have e : zdz c.cap l = tabE l := by simp [zdz, h1]
  rw [e]
  exact qhf c l h1
abbrev zyd (c : Cache) : Nat × Blk := (0, .cells ((zco c).map .d) 56)
theorem qb8 (c : Cache) (h : zdz c.cap c.l = 0) : Ct prog 329 [.ptr 0 0] [zyd c] [] (.tup []) [] := by
 refine Ct.B func329 mixed 99 400 ?_
 simp
 refine CI.p (qdo c c.l h) call275 99 ?_
 simp
 exact ⟨[], by constructor <;> simp [nmF, inB]⟩
theorem qb7 (c : Cache) (h : ¬ zdz c.cap c.l = 0) : CtX prog 329 [.ptr 0 0] [zyd c] [] (badV (zdz c.cap c.l)) [] := by
 refine CtX.B func329 mixed 99 400 ?_
 simp
 refine CI.up [] (qdn c c.l h) call275 ?_
 refine ⟨rfl, ?_⟩
 constructor <;> simp [nmF, inB]
theorem qgj (c : Cache) : Ct prog 273 [.fn (.func 329) [] [.ptr 0 0]] [zyd c] [] (int (zdz c.cap c.l)) [] := by
 by_cases h : zdz c.cap c.l = 0
 ·rw [h]; exact zuh call329 (qb8 c h)
 ·exact zug call329 (qb7 c h)
theorem qb6 (c : Cache) : Ct prog 269 [st (zco c)] [] [] (bool (zi7 c)) [] := by
 refine Ct.B func269 mixed 99 400 ?_
 simp
 refine CI.p (zpn c.cap) call108 99 ?_
 simp
 refine sGI (fun h1 => ?_) (fun h1 => ?_) <;> simp only [h1] <;> simp <;> (try simp only [nT, nF, dT, dF] at h1)
 ·refine CI.cc [64] (qgj c) call273 99 ?_
  simp
  refine ⟨by decide +kernel, ?_⟩
  have e : zi7 c = decide (zdz c.cap c.l = 0) := by unfold zi7; rw [decide_eq_true h1, Bool.true_and]
  exact fin0 (by simp [e]) rfl
 ·refine ⟨by decide +kernel, ?_⟩
  have e : zi7 c = false := by unfold zi7; rw [decide_eq_false h1, Bool.false_and]
  exact fin0 (by simp [e]) rfl
theorem zwz (c : Cache) : Ct prog 272 [st (zco c)] [] [] (st (zco (zdg c))) [] := by
 refine Ct.B func272 mixed 99 400 ?_
 simp
 refine CI.p (qb6 c) call269 99 ?_
 simp
 refine sBI (fun h1 => ?_) (fun h1 => ?_) <;> simp only [h1] <;> simp <;> (try simp only [nT, nF, dT, dF] at h1)
 ·refine CI.p (qjp c.cap) call74 99 ?_
  simp
  first | exact fin0 (by simp [zdg, h1]) rfl | exact zac (by simp [zdg, h1])
 ·first | exact fin0 (by simp [zdg, h1]) rfl | exact zac (by simp [zdg, h1])
theorem zor (c : Cache) : AscR (zdg c).l ∧ (zdg c).l.length ≤ 64 := by
 have h := (saneC_iff.1 (zig c)).2.1
 exact ⟨zfq h, tab_len h⟩
theorem zw1 (c : Cache) : Ct prog 270 [st (zco c)] [] [] (lst ((ze5 c).map resC)) [] := by
 refine Ct.B func270 mixed 99 400 ?_
 simp
 refine CI.p (zwz c) call272 99 ?_
 simp
 obtain ⟨h1, h2⟩ := zor c
 refine CI.p (zvh (zdg c).l h1 (by omega)) call243 99 ?_
 simp
 exact fin0 (by simp [ze5]) rfl
abbrev appR (c : Cache) (adds : List Res) (gone : List Key) : List (Nat × Blk) := [zyd c, (1, .cells [lst (adds.map resC)] 22), (2, .cells [lst (gone.map keyC)] 23)]
theorem qoe (c : Cache) (adds : List Res) (gone : List Key) (hl : c.l.length + adds.length ≤ 1000000) (hg : gone.length ≤ 9223372036854775807) (h : zdz c.cap (za3 c.l adds gone) = 0) : Ct prog 274 [.ptr 0 0, .ptr 1 0, .ptr 2 0, .ptr 3 0] (appR c adds gone) [(3, .cells ((zco c).map .d) 56)] (.tup []) [(3, .cells ((zco ⟨c.cap, za3 c.l adds gone⟩).map .d) 56)] := by
 refine Ct.B func274 mixed 99 400 ?_
 simp
 refine CI.p (zqc c.l adds gone hl hg) call110 99 ?_
 simp
 refine CI.p (qdo c (za3 c.l adds gone) h) call275 99 ?_
 simp
 exact ⟨[], by constructor <;> simp [nmF, inB]⟩
theorem qod (c : Cache) (adds : List Res) (gone : List Key) (hl : c.l.length + adds.length ≤ 1000000) (hg : gone.length ≤ 9223372036854775807) (h : ¬ zdz c.cap (za3 c.l adds gone) = 0) : CtX prog 274 [.ptr 0 0, .ptr 1 0, .ptr 2 0, .ptr 3 0] (appR c adds gone) [(3, .cells ((zco c).map .d) 56)] (badV (zdz c.cap (za3 c.l adds gone))) [(3, .cells ((zco ⟨c.cap, za3 c.l adds gone⟩).map .d) 56)] := by
 refine CtX.B func274 mixed 99 400 ?_
 simp
 refine CI.p (zqc c.l adds gone hl hg) call110 99 ?_
 simp
 refine CI.up [] (qdn c (za3 c.l adds gone) h) call275 ?_
 refine ⟨rfl, ?_⟩
 constructor <;> simp [nmF, inB]
theorem qrl (c : Cache) (adds : List Res) (gone : List Key) (hl : c.l.length + adds.length ≤ 1000000) (hg : gone.length ≤ 9223372036854775807) :
  Ct prog 273 [.fn (.func 274) [] [.ptr 0 0, .ptr 1 0, .ptr 2 0, .ptr 3 0]] (appR c adds gone) [(3, .cells ((zco c).map .d) 56)] (int (zdz c.cap (za3 c.l adds gone))) [(3, .cells ((zco ⟨c.cap, za3 c.l adds gone⟩).map .d) 56)] := by
 by_cases h : zdz c.cap (za3 c.l adds gone) = 0
 ·rw [h]; exact zuh call274 (qoe c adds gone hl hg h)
 ·exact zug call274 (qod c adds gone hl hg h)
theorem qoc (c : Cache) (adds : List Res) (gone : List Key) (hl : adds.length ≤ 1000) (hg : gone.length ≤ 9223372036854775807) : Ct prog 193 [st (zco c), lst (adds.map resC), lst (gone.map keyC)] [] [] (.tup [st (zco (zga c adds gone).1), int (zga c adds gone).2]) [] := by
 refine Ct.B func193 mixed 99 400 ?_
 simp
 refine CI.p (zwz c) call272 99 ?_
 simp
 have h1 := (zor c).2
 have hh : zga c adds gone = zli (zdg c) adds gone := rfl
 rw [hh]
 clear hh
 generalize zdg c = q at h1 ⊢
 refine CI.cc [64,128,192,640] (qrl q adds gone (by omega) hg) call273 99 ?_ (ha := by simp [appR]) (hk := by simp [appR])
 simp [appR]
 refine sBI (fun h2 => ?_) (fun h2 => ?_) <;> simp only [h2] <;> simp <;> (try simp only [nT, nF, dT, dF] at h2)
 ·first | exact fin0 (by simp [zli, h2]) rfl | exact zac (by simp [zli, h2])
 ·first | exact fin0 (by simp [zli, h2]) rfl | exact zac (by simp [zli, h2])
end Go.Proofs.YtmhfcgpmmghakaaGreatDoor
namespace Go.Proofs.YtmhfcgpmmghakaaGreatDoor
open Go.AI Go.G Tryz
set_option maxRecDepth 20000
attribute [simp] ntmps196 results196 ntmps276 results276 ntmps195 results195 ntmps271 results271 ntmps153 results153 ntmps197 results197 ntmps190 results190 ntmps152 results152 ntmps102 results102 ntmps198 results198 ntmps128 results128
theorem zpk (x : Snap) (l : List Snap) (hl : l.length ≤ 1000000) : Ct prog 196 [lst ((x :: l).map zb2)] [] [] (.own 64) [(64, .grow 3 ((x :: l).map zb2) 256)] := by
 refine Ct.B func196 mixed 99 400 ?_
 simp
 refine ⟨by omega, ?_⟩
 exact ⟨[(64, 384)], by constructor <;> simp [nmF, inB]⟩
theorem ztu (l : List Snap) (kf : D) (p : Snap → Bool) (hf : ∀ x ∈ l, FnOk prog (.d kf) [st (zb2 x)] (bool (p x))) (hl : l.length ≤ 9223372036854775807) : Ct prog 276 [.own 0, .d kf] [(0, .grow 3 (l.map zb2) 256)] [] (int (idxF p l)) [] := by
 refine Ct.B func276 mixed 99 400 ?_
 simp
 refine LoopI.inv mixed rfl (ι := {k : Nat // k ≤ (l).length ∧ (l.take k).all (fun x => !p x) = true}) (fun k => [(0, .own 0), (1, .d kf), (7, int l.length), (8, int k.1)]) (fun k => [(0, .grow 3 (l.map zb2) 256)]) 64 (fun k => (l).length - k.1) ⟨0, by omega, by simp⟩ [] (by constructor <;> simp) ?_
 rintro ⟨k, hk1, hi⟩ B hB
 refine CI.run 99 400 rfl ?_
 simp
 refine sBI (fun h => ?_) (fun h => ?_)
 ·have hk : k < (l).length := by simpa using h
  obtain ⟨r, hx, hr, hm, ht, hd⟩ := inL hk
  have hw := wr (k := k) (by omega)
  simp only [h]
  simp [hr, hw, hk]
  refine CI.ff (hf r hm) rfl rfl rfl 99 ?_ (ha := by simp [hx])
  simp [hx]
  refine sBI (fun hp => ?_) (fun hp => ?_) <;> simp only [hp] <;> simp
  ·have e := zek hi hr hp
   exact ⟨[], by constructor <;> simp [nmF, inB, e]⟩
  ·refine hB _ ⟨k + 1, by omega, by simp [ht, hi, hp]⟩ [] ?_ (by simp; omega)
   constructor <;> simp [hw, ht, hp]
 ·have hkl : k = (l).length := by simp at h; omega
  subst hkl
  simp only [h]
  simp [List.take_length, List.drop_length]
  rw [List.take_length] at hi
  have e : idxF p l = -1 := zb1 (fun x hx => by have := List.all_eq_true.1 hi x hx; simpa using this)
  exact ⟨[], by constructor <;> simp [nmF, inB, e]⟩
theorem qe4 (l : List Snap) (kf : D) (p : Snap → Bool) (hf : ∀ x ∈ l, FnOk prog (.d kf) [st (zb2 x)] (bool (p x))) (hl : l.length ≤ 1000000) (h1 : idxF p l = -1) : Ct prog 195 [.own 0, .d kf] [] [(0, .grow 3 (l.map zb2) 256)] (.own 0) [(0, .grow 3 (l.map zb2) 256)] := by
 refine Ct.B func195 mixed 99 400 ?_
 simp
 refine CI.cc [0] (ztu l kf p hf (by omega)) call276 99 ?_
 simp
 simp [h1]
 exact ⟨[], by constructor <;> simp [nmF, inB]⟩
theorem qe3 (l : List Snap) (kf : D) (p : Snap → Bool) (hf : ∀ x ∈ l, FnOk prog (.d kf) [st (zb2 x)] (bool (p x))) (hl : l.length ≤ 1000000) (i : Nat) (x : Snap) (h1 : idxF p l = i) (h2 : i < l.length) : Ct prog 195 [.own 0, .d kf] [] [(0, .grow 3 (l.map zb2) 256)] (.sl 0 3 0 (l.filter fun x => !p x).length) [(0, .grow 3 ((l.filter fun x => !p x).map zb2 ++ List.replicate (l.length - (l.filter fun x => !p x).length) [iD 0, iD 0, .v (.slice none 0 0)]) 256)] := by
 refine Ct.B func195 mixed 99 400 ?_
 simp
 refine CI.cc [0] (ztu l kf p hf (by omega)) call276 99 ?_
 simp
 have hne : ¬ (i : Int) = -1 := by omega
 have hwi : IntKind.wrap .i64 ((i : Int) + 1) = i + 1 := zaa (by omega) (by omega)
 simp [h1, hne, hwi]
 have d0 := DelSt.start (x := x) h1 h2
 refine LoopI.inv mixed rfl (ι := {q : Nat × Nat × List Snap // DelSt p l q.1 q.2.1 q.2.2}) (fun k => [(0, .own 0), (1, .d kf), (5, int k.1.2.1), (6, int k.1.1)]) (fun k => [(0, .grow 3 (k.1.2.2.map zb2) 256)]) 64 (fun k => l.length - k.1.1) ⟨(i + 1, i, l), d0⟩ [] (by constructor <;> simp) ?_
 rintro ⟨⟨j, i, cur⟩, hd⟩ B hB
 clear h1 h2 hne hwi d0
 have hlen := hd.len
 have hlt := hd.lt
 have hle := hd.le
 simp only at hlen hlt hle
 have w1 : IntKind.wrap .i64 ((j : Int) + 1) = j + 1 := zaa (by omega) (by omega)
 have w2 : IntKind.wrap .i64 ((i : Int) + 1) = i + 1 := zaa (by omega) (by omega)
 refine CI.run 99 400 rfl ?_
 simp [hlen]
 refine sBI (fun h => ?_) (fun h => ?_) <;> simp only [h] <;> simp <;> (try simp only [nT, nF, dT, dF] at h)
 ·have hj : j < l.length := by omega
  have hv : l[j]? = some l[j] := List.getElem?_eq_getElem hj
  have hm : l[j] ∈ l := List.getElem_mem hj
  generalize l[j] = v at hv hm
  have hg := hd.get hv
  have hjc : j < cur.length := by omega
  have hgx : cur[j] = v := by rw [List.getElem?_eq_getElem hjc] at hg; exact Option.some.inj hg
  simp [hjc, hgx]
  refine CI.ff (hf v hm) rfl rfl rfl 99 ?_
  simp
  have hic : i < cur.length := by omega
  refine sBI (fun h2 => ?_) (fun h2 => ?_) <;> simp only [h2] <;> simp [hic]
  ·have hp : p v = false := by simpa using h2
   refine hB _ ⟨(j + 1, i + 1, cur.set i v), hd.keep hv hp⟩ [] ?_ (by simp; omega)
   constructor <;> simp [w1, w2, List.map_set]
  ·have hp : p v = true := by simpa using h2
   refine hB _ ⟨(j + 1, i, cur), hd.del hv hp⟩ [] ?_ (by simp; omega)
   constructor <;> simp [w1]
 ·have hj : j = l.length := by omega
  subst hj
  have e : cur.take i = l.filter (fun x => !p x) := hd.done
  simp [hlen]
  have e2 : List.take i (List.map zb2 cur) = List.map zb2 (List.filter (fun x => !p x) l) := by rw [← List.map_take, e]
  have e3 : (List.filter (fun x => !p x) l).length = i := by rw [← e, List.length_take]; omega
  refine ⟨by omega, by omega, by omega, ?_⟩
  have e4 : List.drop (i + (l.length - i)) (List.map zb2 cur) = [] := by rw [List.drop_eq_nil_iff]; simp; omega
  rw [e2, e3, e4]
  exact ⟨[], by constructor <;> simp [nmF, inB]⟩
theorem qe2 (l : List Snap) (kf : D) (p : Snap → Bool) (hf : ∀ x ∈ l, FnOk prog (.d kf) [st (zb2 x)] (bool (p x))) (hl : l.length ≤ 1000000) : Ct prog 195 [.own 0, .d kf] [] [(0, .grow 3 (l.map zb2) 256)] (.own 64) [(64, .grow 3 ((l.filter fun x => !p x).map zb2) 256)] := by
 rcases zhp p l with ⟨h1, h2⟩ | ⟨i, x, h1, h2, h3, h4⟩
 ·have e : (l.filter fun x => !p x) = l := by
   rw [List.filter_eq_self]; intro a ha
   have := List.find?_eq_none.1 h2 a ha; simpa using this
  have := Ct.trunc (Or.inl ⟨rfl, rfl⟩) (Nat.le_refl _) (qe4 l kf p hf hl h1)
  rw [List.take_length] at this
  rw [e]
  exact this
 ·have := Ct.trunc (Or.inr rfl) (by simp) (qe3 l kf p hf hl i x h1 h2)
  rw [List.take_left' (by simp)] at this
  exact this
theorem zwg : Ct prog 196 [lst []] [] [] (.own 64) [(64, .grow 3 [] 256)] := by
 refine Ct.B func196 mixed 2 400 ?_
 simp
 refine ⟨?_, ?_⟩
 ·refine CI.cutTo mixed (ι := Unit) (fun _ => [(2, .d (.v (.slice none 0 0)))]) (fun _ => []) 65 rfl (fun B hB => ?_) (fun _ => ?_)
  ·refine CI.run 99 400 rfl ?_
   simp
   refine hB _ () [] ?_
   constructor <;> simp
  ·refine CI.nilOwn 2 3 256 rfl rfl ?_
   refine CI.run 99 400 rfl ?_
   simp
   exact ⟨[(64, 65)], by constructor <;> simp [nmF, inB]⟩
 ·skip
  exact ⟨[(64, 384)], by constructor <;> simp [nmF, inB]⟩
theorem zwe (l : List Snap) (hl : l.length ≤ 1000000) : Ct prog 196 [lst (l.map zb2)] [] [] (.own 64) [(64, .grow 3 (l.map zb2) 256)] := by
 cases l with
 | nil => exact zwg
 | cons x l => exact zpk x l (by simp at hl; omega)
theorem zgg (n a b : Int) : Ct prog 271 [int n, int a, int b] [] [] (bool (decide (a ≤ n) && decide (n ≤ b))) [] := by
 refine Ct.B func271 mixed 99 400 ?_
 simp
 repeat' first
  | (refine sGI (fun h => ?_) (fun h => ?_) <;> simp only [h] <;> simp [h])
  | (refine sBI (fun h => ?_) (fun h => ?_) <;> simp only [h] <;> simp [h])
  | (refine ⟨(show zaq _ _ from by decide +kernel), ?_⟩)
  | fail
 all_goals exact fin0 (by simp [*]) rfl
theorem zqt (p : Pins) (h : p.snaps.length ≤ 9223372036854775807) : Ct prog 153 [st (zgv p)] [] [] (int ((p.snaps.length : Int) - 1)) [] := by
 refine Ct.B func153 mixed 99 400 ?_
 simp
 have hw : IntKind.wrap .i64 ((p.snaps.length : Int) - 1) = p.snaps.length - 1 := zaa (by omega) (by omega)
 exact fin0 (by simp [hw]) rfl
theorem qed (s : Snap) : Ct prog 197 [st (zb2 s)] [] [] (bool (decide (s.pins = 0))) [] := by
 refine Ct.B func197 mixed 99 400 ?_
 simp
 exact fin0 (by simp) rfl
theorem qb3 (p : Pins) (hl : p.snaps.length ≤ 1000000) (hn : p.next ≤ 2147483648) : Ct prog 190 [st (zgv p)] [] [] (bool (zgq p)) [] := by
 refine Ct.B func190 mixed 99 400 ?_
 simp
 refine LoopI.inv mixed rfl (ι := {k : Nat // k ≤ (p.snaps).length ∧ (zbm p.next 0 p.snaps = zbm p.next (ahP (p.snaps.take k)) (p.snaps.drop k) ∧ 0 ≤ ahP (p.snaps.take k) ∧ ahP (p.snaps.take k) ≤ 2147483648)}) (fun k => [(1, .ptr 64 0), (3, int (ahP (p.snaps.take k.1))), (8, lst (p.snaps.map zb2)), (9, int p.snaps.length), (10, int k.1)]) (fun k => [(64, .cells ((zgv p).map .d) 61)]) 65 (fun k => (p.snaps).length - k.1) ⟨0, by omega, by simp⟩ [] (by constructor <;> simp) ?_
 rintro ⟨k, hk1, hi⟩ B hB
 refine CI.run 99 400 rfl ?_
 simp
 refine sBI (fun h => ?_) (fun h => ?_)
 ·have hk : k < (p.snaps).length := by simpa using h
  obtain ⟨s, hx, hr, hm, ht, hd⟩ := inL hk
  have hw := wr (k := k) (by omega)
  simp only [h]
  simp [hr, hw]
  obtain ⟨i1, i2, i3⟩ := hi
  have wA := zaa (n := ahP (p.snaps.take k) + 1) (by omega) (by omega)
  refine CI.p (zqt p (by omega)) call153 99 ?_
  simp
  have hsl : zgq p = (zbm p.next (ahP (p.snaps.take k)) (s :: p.snaps.drop (k + 1)) && rngB p.next 2147483647 && decide (p.snaps.length ≤ 1000)) := by rw [zgq, i1, hd]
  have hlast : p.snaps.drop (k + 1) = [] ↔ (k : Int) = p.snaps.length - 1 := by rw [List.drop_eq_nil_iff]; omega
  refine sBI (fun h1 => ?_) (fun h1 => ?_) <;> simp only [h1] <;> simp
  ·have h1' : p.snaps.drop (k + 1) = [] := hlast.2 (by simpa using h1)
   simp [wA]
   refine CI.p (zgg s.id (ahP (p.snaps.take k) + 1) p.next) call271 99 ?_
   simp
   refine sGI (fun h2 => ?_) (fun h2 => ?_) <;> simp only [h2] <;> simp
   ·have h2' : ¬ (ahP (p.snaps.take k) + 1 ≤ s.id ∧ s.id ≤ p.next) := by simp at h2; omega
    have e : zgq p = false := by rw [hsl]; simp [zbm, h1']; omega
    exact fin0 (by simp [e]) rfl
   ·skip
    refine CI.p (zgg s.pins 0 10000) call271 99 ?_
    simp
    refine sBI (fun h3 => ?_) (fun h3 => ?_) <;> simp only [h3] <;> simp
    ·have h3' : ¬ (0 ≤ s.pins ∧ s.pins ≤ 10000) := by simp at h3; omega
     have e : zgq p = false := by rw [hsl]; simp [zbm, h1']; omega
     exact fin0 (by simp [e]) rfl
    ·have h2' : ahP (p.snaps.take k) + 1 ≤ s.id ∧ s.id ≤ p.next := by simp at h2; omega
     have h3' : 0 ≤ s.pins ∧ s.pins ≤ 10000 := by simp at h3; omega
     refine hB _ ⟨k + 1, by omega, by rw [ht, zht, i1, hd]; simp [zbm, h1', h2', h3'], by rw [ht, zht]; omega, by rw [ht, zht]; omega⟩ [] ?_ (by simp; omega)
     constructor <;> simp [hw, ht]
  ·have h1' : ¬ p.snaps.drop (k + 1) = [] := fun e => by rw [hlast] at e; simp [e] at h1
   simp [wA]
   refine CI.p (zgg s.id (ahP (p.snaps.take k) + 1) p.next) call271 99 ?_
   simp
   refine sGI (fun h2 => ?_) (fun h2 => ?_) <;> simp only [h2] <;> simp
   ·have h2' : ¬ (ahP (p.snaps.take k) + 1 ≤ s.id ∧ s.id ≤ p.next) := by simp at h2; omega
    have e : zgq p = false := by rw [hsl, zbm, if_neg h1']; simp; omega
    exact fin0 (by simp [e]) rfl
   ·skip
    refine CI.p (zgg s.pins 1 10000) call271 99 ?_
    simp
    refine sBI (fun h3 => ?_) (fun h3 => ?_) <;> simp only [h3] <;> simp
    ·have h3' : ¬ (1 ≤ s.pins ∧ s.pins ≤ 10000) := by simp at h3; omega
     have e : zgq p = false := by rw [hsl, zbm, if_neg h1']; simp; omega
     exact fin0 (by simp [e]) rfl
    ·have h2' : ahP (p.snaps.take k) + 1 ≤ s.id ∧ s.id ≤ p.next := by simp at h2; omega
     have h3' : 1 ≤ s.pins ∧ s.pins ≤ 10000 := by simp at h3; omega
     refine hB _ ⟨k + 1, by omega, by rw [ht, zht, i1, hd, zbm, if_neg h1']; simp [h2', h3'], by rw [ht, zht]; omega, by rw [ht, zht]; omega⟩ [] ?_ (by simp; omega)
     constructor <;> simp [hw, ht]
 ·have hkl : k = (p.snaps).length := by simp at h; omega
  subst hkl
  simp only [h]
  simp [List.take_length, List.drop_length]
  obtain ⟨i1, i2, i3⟩ := hi
  have e : zgq p = (decide (0 ≤ p.next) && decide (p.next ≤ 2147483647) && decide ((p.snaps.length : Int) ≤ 1000)) := by
   have e2 : decide (p.snaps.length ≤ 1000) = decide ((p.snaps.length : Int) ≤ 1000) := decide_eq_decide.2 (by omega)
   rw [zgq, i1, List.drop_length, e2]; simp [zbm, rngB]
  refine CI.p (zgg p.next 0 2147483647) call271 99 ?_
  simp
  refine sGI (fun h2 => ?_) (fun h2 => ?_) <;> simp only [h2] <;> simp
  ·exact fin0 (by simp [e, h2]) rfl
  ·exact fin0 (by simp [e, h2]) rfl
theorem zhg (p : Pins) (hp : OkPins p) : Ct prog 152 [st (zgv p)] [] [] (st (zgv (zat p))) [] := by
 refine Ct.B func152 mixed 99 400 ?_
 simp
 refine CI.p (qb3 p hp.sl hp.next) call190 99 ?_
 simp
 refine sBI (fun h1 => ?_) (fun h1 => ?_) <;> simp only [h1] <;> simp <;> (try simp only [nT, nF, dT, dF] at h1)
 ·first | exact fin0 (by simp [zat, h1]) rfl | exact zac (by simp [zat, h1])
 ·first | exact fin0 (by simp [zat, h1]) rfl | exact zac (by simp [zat, h1])
abbrev curA (o : Option Snap) : AV := .tup [int ((o.map (·.id)).getD 0), lst (((o.map (·.l)).getD []).map resC), bool o.isSome]
theorem qsm (p : Pins) (hp : OkPins p) : Ct prog 102 [st (zgv p)] [] [] (curA (curP p)) [] := by
 refine Ct.B func102 mixed 99 400 ?_
 simp
 refine CI.p (zhg p hp) call152 99 ?_
 simp
 have hs := zfr p
 have hh : curP p = (zat p).snaps.getLast? := rfl
 rw [hh]
 clear hh
 generalize zat p = q at hs ⊢
 refine CI.p (zqt q (by omega)) call153 99 ?_
 simp
 rcases zo6 q.snaps with e | ⟨i, s, e⟩
 ·simp [e]
  exact fin0 (by simp [e]) rfl
 ·have e1 : ((q.snaps.length : Int) - 1) = i.length := by rw [e]; simp
  have e2 : ¬ (i.length : Int) < 0 := by omega
  have e3 : i.length < q.snaps.length := by rw [e]; simp
  have e4 : q.snaps[i.length] = s := by simp [e]
  simp [e1, e2, e3, e4]
  refine ⟨by decide +kernel, ?_⟩
  exact fin0 (by simp [e]) rfl
theorem znl (l : List Snap) : (l.flatMap (·.l)).map Res.key = l.flatMap fun s => s.l.map Res.key := by rw [List.map_flatMap]
theorem zxw (p : Pins) (hp : OkPins p) : Ct prog 198 [st (zgv p)] [] [] (lst ((zd6 p).map keyC)) [] := by
 refine Ct.B func198 mixed 99 400 ?_
 simp
 refine CI.p (zhg p hp) call152 99 ?_
 simp
 have hs := zfr p
 have hq := hp.sound.snaps
 have hh : zd6 p = ((zat p).snaps.flatMap fun s => s.l.map Res.key).foldl putK [] := by rw [← znl]; rfl
 rw [hh]
 clear hh
 generalize (zat p).snaps = l at hs hq ⊢
 refine LoopI.nilOwn 3 2 203 rfl ?_
 refine LoopI.U mixed (l) (fun k => [(3, .own 64), (8, lst (l.map zb2)), (9, int l.length), (10, int k.1)]) (fun k => [(64, .grow 2 (((l.take k.1).flatMap fun s => s.l.map Res.key).map keyC) 203)]) 65 [] (by constructor <;> simp) ?_
 rintro ⟨k, hk1⟩ B hB
 refine CI.run 99 400 rfl ?_
 simp
 refine sBI (fun h => ?_) (fun h => ?_)
 ·have hk : k < (l).length := by simpa using h
  obtain ⟨s, hx, hr, hm, ht, hd⟩ := inL hk
  have hw := wr (k := k) (by omega)
  simp only [h]
  simp [hr, hw]
  have h64 := (hq s hm).2
  have hfl : ((l.take k).flatMap fun s => s.l.map Res.key).length ≤ 64000 := by
   have := zmm (l := l.take k) fun q hm => (hq q (List.mem_of_mem_take hm)).2
   rw [← znl, List.length_map]
   simp at this ⊢; omega
  have hsm : (List.take k (List.map (fun a => a.l.length) l)).sum ≤ 64000 := by simpa [List.map_take] using hfl
  refine CI.cc [] (qd4 s.l (by omega)) call67 99 ?_
  simp
  refine ⟨by omega, ?_⟩
  refine hB _ ⟨k + 1, by omega⟩ [] ?_ (by simp; omega)
  constructor <;> simp [hw, ht]
 ·have hkl : k = (l).length := by simp at h; omega
  subst hkl
  simp only [h]
  simp [List.take_length, List.drop_length]
  have hfl : (l.flatMap fun s => s.l.map Res.key).length ≤ 64000 := by
   have := zmm (l := l) fun q hm => (hq q hm).2
   rw [← znl, List.length_map]; omega
  refine CI.cc [64] (zw0 (l.flatMap fun s => s.l.map Res.key) (by omega)) call241 99 ?_
  simp
  refine CI.cc [64] (zj1 (zi4 (l.flatMap fun s => s.l.map Res.key)) (by rw [zdt]; omega)) call242 99 ?_
  simp
  rw [zub]
  exact fin0 (by simp) rfl
theorem qcr (p : Pins) (l : List Res) (hp : OkPins p) : Ct prog 128 [st (zgv p), lst (l.map resC)] [] [] (.tup [st (zgv (zcq p l).1), int (zcq p l).2.1, int (zcq p l).2.2]) [] := by
 refine Ct.B func128 mixed 99 400 ?_
 simp
 refine CI.p (zhg p hp) call152 99 ?_
 simp
 have hs := zfr p
 have hn := hp.sound.next
 have h0 := (saneP_iff.1 (zbx p)).2.1
 have hh : zcq p l = zc9 (zat p) l := rfl
 rw [hh]
 clear hh
 generalize zat p = q at hs hn h0 ⊢
 have hw := zaa (n := q.next + 1) (by omega) (by omega)
 refine sBI (fun h1 => ?_) (fun h1 => ?_) <;> simp only [h1] <;> simp <;> (try simp only [nT, nF, dT, dF] at h1)
 ·first | exact fin0 (by simp [zc9, h1]) rfl | exact zac (by simp [zc9, h1])
 obtain ⟨nx, sn⟩ := q
 simp only at hs hn h0 hw h1
 have hf : (sn.filter fun x => !decide (x.pins = 0)).length ≤ 1000 := Nat.le_trans (List.length_filter_le _ _) hs
 refine CI.cc [] (zwe sn (by omega)) call196 99 ?_
 simp
 refine CI.cc [832] (qe2 sn (fnD 197) (fun s => decide (s.pins = 0)) (fun s _ => FnOk.of (qed s) call197 rfl rfl) (by omega)) call195 99 ?_
 simp
 have e : (qd0 ⟨nx, sn⟩) = sn.filter fun x => !decide (x.pins = 0) := rfl
 rw [← e] at hf
 rw [← e]
 refine sBI (fun h2 => ?_) (fun h2 => ?_) <;> simp only [h2] <;> simp <;> (try simp only [nT, nF, dT, dF] at h2)
 ·have h2' : 1000 ≤ (qd0 ⟨nx, sn⟩).length := by omega
  first | exact fin0 (by simp [zc9, h1, h2']) rfl | exact zac (by simp [zc9, h1, h2'])
 ·have h2' : ¬ 1000 ≤ (qd0 ⟨nx, sn⟩).length := by omega
  simp [hw]
  refine ⟨by omega, ?_⟩
  first | exact fin0 (by simp [zc9, h1, h2']) rfl | exact zac (by simp [zc9, h1, h2'])
end Go.Proofs.YtmhfcgpmmghakaaGreatDoor
namespace Go.Proofs.YtmhfcgpmmghakaaGreatDoor
open Go.AI Go.G Tryz
set_option maxRecDepth 20000
attribute [simp] ntmps48 results48 ntmps189 results189 ntmps192 results192 ntmps194 results194 ntmps127 results127
theorem qjm (n : Int) : Ct prog 48 [int n] [] [] (st (zrq (newW n))) [] := by
 refine Ct.B func48 mixed 99 400 ?_
 simp
 refine CI.p (qjp n) call74 99 ?_
 simp
 exact fin0 (by simp [newW, newC]) rfl
theorem qb1 (w : Warm) (hs : OkRs w.shown) : Ct prog 189 [st (zrq w)] [] [] (bool (zi6 w)) [] := by
 refine Ct.B func189 mixed 99 400 ?_
 simp
 refine CI.p (qb6 w.c) call269 99 ?_
 simp
 refine sGI (fun h1 => ?_) (fun h1 => ?_) <;> simp only [h1] <;> simp
 ·refine CI.p (zw1 w.c) call270 99 ?_
  simp
  refine CI.p (zgh w.shown (ze5 w.c) hs) call45 99 ?_
  simp
  refine sGI (fun h2 => ?_) (fun h2 => ?_) <;> simp only [h2] <;> simp
  ·refine sGI (fun h3 => ?_) (fun h3 => ?_) <;> simp only [h3] <;> simp
   ·refine ⟨by decide +kernel, ?_⟩
    exact fin0 (by simp [zi6, h1, h2, h3]) rfl
   ·refine ⟨by decide +kernel, ?_⟩
    exact fin0 (by simp [zi6, h1, h2, h3]) rfl
  ·refine ⟨by decide +kernel, ?_⟩
   exact fin0 (by simp [zi6, h1, h2]) rfl
 ·refine ⟨by decide +kernel, ?_⟩
  exact fin0 (by simp [zi6, h1]) rfl
theorem qf6 (w : Warm) (hs : OkRs w.shown) : Ct prog 192 [st (zrq w)] [] [] (st (zrq (zes w))) [] := by
 refine Ct.B func192 mixed 99 400 ?_
 simp
 refine CI.p (qb1 w hs) call189 99 ?_
 simp
 refine sBI (fun h1 => ?_) (fun h1 => ?_) <;> simp only [h1] <;> simp <;> (try simp only [nT, nF, dT, dF] at h1)
 ·refine CI.p (qjm w.c.cap) call48 99 ?_
  simp
  first | exact fin0 (by simp [zes, h1]) rfl | exact zac (by simp [zes, h1])
 ·first | exact fin0 (by simp [zes, h1]) rfl | exact zac (by simp [zes, h1])
abbrev qqc (w : Warm) (b : Bool) : List (Nat × Blk) := [(0, .cells ((zrq w ++ [bD b]).map .d) 308)]
theorem qkj (w : Warm) (c : Cache) (hc : OkRs c.l) : Ct prog 194 [.ptr 0 0, st (zco c)] [] (qqc w false) (.tup []) (qqc (zn1 w c).1 (zn1 w c).2) := by
 refine Ct.B func194 mixed 99 400 ?_
 simp
 refine CI.p (zw1 c) call270 99 ?_
 simp
 refine CI.p (zgh (ze5 c) w.shown (zsz hc)) call45 99 ?_
 simp
 refine sBI (fun h1 => ?_) (fun h1 => ?_) <;> simp only [h1] <;> simp <;> (try simp only [nT, nF, dT, dF] at h1)
 ·first | (refine ⟨[], ?_, ?_, ?_, ?_, ?_, ?_, ?_⟩ <;> simp [nmF, inB, zn1, h1]; done) | (refine ⟨by decide +kernel, ?_⟩; refine ⟨[], ?_, ?_, ?_, ?_, ?_, ?_, ?_⟩ <;> simp [nmF, inB, zn1, h1])
 ·first | (refine ⟨[], ?_, ?_, ?_, ?_, ?_, ?_, ?_⟩ <;> simp [nmF, inB, zn1, h1]; done) | (refine ⟨by decide +kernel, ?_⟩; refine ⟨[], ?_, ?_, ?_, ?_, ?_, ?_, ?_⟩ <;> simp [nmF, inB, zn1, h1])
theorem qkr (w : Warm) (adds : List Res) (gone : List Key) (hs : OkRs w.shown) (hc : OkRs w.c.l) (ha : OkRs adds) (hl : adds.length ≤ 1000) (hg : gone.length ≤ 9223372036854775807) : Ct prog 127 [st (zrq w), lst (adds.map resC), lst (gone.map keyC)] [] [] (.tup [st (zrq (zie w adds gone).1), bool (zie w adds gone).2.1, int (zie w adds gone).2.2]) [] := by
 refine Ct.B func127 mixed 99 400 ?_
 simp
 refine CI.p (qf6 w hs) call192 99 ?_
 simp
 have hh : zie w adds gone = zky (zes w) adds gone := rfl
 rw [hh]
 clear hh
 obtain ⟨h1, h2⟩ := zsx hc hs
 generalize zes w = q at h1 h2 ⊢
 refine CI.p (qoc q.c adds gone hl hg) call193 99 ?_
 simp
 have h3 := zs2 (gone := gone) h1 ha hl
 refine sBI (fun h4 => ?_) (fun h4 => ?_) <;> simp only [h4] <;> simp <;> (try simp only [nT, nF, dT, dF] at h4)
 ·first | exact fin0 (by simp [zky, h4]) rfl | exact zac (by simp [zky, h4])
 ·refine CI.cc [512] (qkj q (zga q.c adds gone).1 h3) call194 99 ?_
  simp
  refine ⟨by decide +kernel, ?_⟩
  first | exact fin0 (by simp [zky, h4]) rfl | exact zac (by simp [zky, h4])
end Go.Proofs.YtmhfcgpmmghakaaGreatDoor
namespace Go.Proofs.YtmhfcgpmmghakaaGreatDoor
open Go.AI Go.G Tryz
set_option maxRecDepth 20000
attribute [simp] ntmps125 results125 ntmps85 results85 ntmps47 results47 ntmps27 results27 ntmps186 results186 ntmps188 results188 ntmps86 results86 ntmps129 results129 ntmps191 results191 ntmps268 results268 ntmps187 results187 ntmps124 results124 ntmps83 results83 ntmps130 results130 ntmps88 results88 ntmps84 results84 ntmps94 results94 ntmps87 results87 ntmps57 results57 ntmps66 results66
theorem qsa (i : Nonce.Nn) : Ct prog 125 [st (nnC i)] [] [] (st (nnC (Nonce.inF i))) [] := by
 refine Ct.B func125 mixed 99 400 ?_
 simp
 refine CI.p (zp0 i) call154 99 ?_
 simp
 refine sBI (fun h1 => ?_) (fun h1 => ?_) <;> simp only [h1] <;> simp
 ·exact fin0 (by simp [Nonce.inF, h1]) rfl
 ·refine CI.p (zpy i.m) call49 99 ?_
  simp
  exact fin0 (by simp [Nonce.inF, h1]) rfl
theorem qkl (i : Nonce.Nn) (k_ n : Int) : Ct prog 85 [st (nnC i), int k_, int n] [] [] (.tup [st (nnC (Nonce.take i k_ n).1), int (Nonce.take i k_ n).2]) [] := by
 refine Ct.B func85 mixed 99 400 ?_
 simp
 refine CI.p (qsa i) call125 99 ?_
 simp
 simp only [Nonce.take]
 have hb := Nonce.inF_ok i
 generalize Nonce.inF i = q at hb ⊢
 obtain ⟨A, B, C, D, M⟩ := q
 simp only [Nonce.Nn.ok] at hb
 have wA := zaa (n := A + 1) (by omega) (by omega)
 have wB := zaa (n := B + 1) (by omega) (by omega)
 have wC := zaa (n := C + 1) (by omega) (by omega)
 have wD := zaa (n := D + 1) (by omega) (by omega)
 refine CI.p (zqu k_) call126 99 ?_
 simp
 by_cases hk : Nonce.kindB k_ = true
 ·rcases Nonce.kindB_is hk with rfl | rfl | rfl | rfl
  all_goals
   simp [hk]
  all_goals
   repeat' first
    | (refine sGI (fun h => ?_) (fun h => ?_) <;> simp only [h] <;> simp [h, wA, wB, wC, wD])
    | (refine sBI (fun h => ?_) (fun h => ?_) <;> simp only [h] <;> simp [h, wA, wB, wC, wD])
    | (refine ⟨(show zaq _ _ from by decide +kernel), ?_⟩)
    | fail
  all_goals
   clear wA wB wC wD
   simp only [Bool.not_eq_true', Bool.not_eq_false', decide_eq_true_eq, decide_eq_false_iff_not] at *
   first
    | (exfalso; omega)
    | (refine fin0 ?_ rfl; simp [Nonce.takeQ, Nonce.Nn.last, Nonce.Nn.set, *]; done)
    | (refine fin0 ?_ rfl; simp_all [Nonce.takeQ, Nonce.Nn.last, Nonce.Nn.set]; done)
    | (refine fin0 ?_ rfl; simp_all [Nonce.takeQ, Nonce.Nn.last, Nonce.Nn.set]; split <;> first | (exfalso; omega) | simp_all)
 ·simp [hk]
  exact fin0 (by simp [Nonce.takeQ, hk]) rfl
theorem qep (m : Int) : Ct prog 47 [int m] [] [] (st (nnC (Nonce.startI m))) [] := by
 refine Ct.B func47 mixed 99 400 ?_
 simp
 refine CI.p (zpy m) call49 99 ?_
 simp
 exact fin0 (by simp) rfl
theorem qdj (l m : Int) : Ct prog 27 [int l, int m] [] [] (st (zcc (newX l m))) [] := by
 refine Ct.B func27 mixed 99 400 ?_
 simp
 refine CI.p (qep m) call47 99 ?_
 simp
 refine CI.p (qjm l) call48 99 ?_
 simp
 exact fin0 (by simp [newX, newW, newC]) rfl
theorem zxk (n : Int) : Ct prog 186 [int n] [] [] (bool (rngB n 2147483647)) [] := by
 refine Ct.B func186 mixed 99 400 ?_
 simp
 repeat' first
  | (refine sGI (fun h => ?_) (fun h => ?_) <;> simp only [h] <;> simp [h])
  | (refine sBI (fun h => ?_) (fun h => ?_) <;> simp only [h] <;> simp [h])
  | (refine ⟨(show zaq _ _ from by decide +kernel), ?_⟩)
  | fail
 all_goals exact fin0 (by simp [*, rngB]) rfl
theorem zpu (n : Int) : Ct prog 188 [int n] [] [] (bool (za1 n)) [] := by
 refine Ct.B func188 mixed 99 400 ?_
 simp
 rw [qa0]
 repeat' first
  | (refine sGI (fun h => ?_) (fun h => ?_) <;> simp only [h] <;> simp [h])
  | (refine sBI (fun h => ?_) (fun h => ?_) <;> simp only [h] <;> simp [h])
  | (refine ⟨(show zaq _ _ from by decide +kernel), ?_⟩)
  | fail
 all_goals exact fin0 (by simp [*]) rfl
theorem zty (s : Side) : Ct prog 86 [st (zcc s)] [] [] (bool (zv4 s)) [] := by
 refine Ct.B func86 mixed 99 400 ?_
 simp
 exact fin0 (by simp [zv4]) rfl
theorem qcf (p : Pins) (hp : OkPins p) : Ct prog 129 [st (zgv p)] [] [] (bool (zve p)) [] := by
 refine Ct.B func129 mixed 99 400 ?_
 simp
 have hl := zqx hp
 refine CI.p (zxw p hp) call198 99 ?_
 simp
 refine CI.p (zix ⟨3, 0, 0, 0, 0, [], [], 0, [], zd6 p⟩ (zt5 (v := ⟨[], zd6 p, 0, zFrame, false⟩) (by simp only; omega))) call89 99 ?_
 simp
 exact fin0 (by simp [zve]) rfl
theorem qi1 (s : Side) (h : OkX s) : Ct prog 191 [st (zcc s)] [] [] (bool (zf3 s)) [] := by
 refine Ct.B func191 mixed 99 400 ?_
 simp
 refine CI.p (qsm s.p h.pins) call102 99 ?_
 simp
 cases hc : curP s.p with
 | none =>
   simp [hc]
   refine sBI (fun h1 => ?_) (fun h1 => ?_) <;> simp only [h1] <;> simp <;> (try simp only [nT, nF, dT, dF] at h1)
   ·exact fin0 (by simp [zf3, hc, h1]) rfl
   ·exact fin0 (by simp [zf3, hc, h1]) rfl
 | some c =>
   have hok : OkRs c.l := by
    have : c ∈ (zat s.p).snaps := List.mem_of_getLast? hc
    exact (h.pins.sound.snaps c this).1
   simp [hc]
   refine sBI (fun h1 => ?_) (fun h1 => ?_) <;> simp only [h1] <;> simp <;> (try simp only [nT, nF, dT, dF] at h1)
   ·first | exact fin0 (by simp [zf3, hc, h1]) rfl | exact zac (by simp [zf3, hc, h1])
   ·refine CI.p (zgh c.l s.w.shown hok) call45 99 ?_
    simp
    first | exact fin0 (by simp [zf3, hc, h1]) rfl | exact zac (by simp [zf3, hc, h1])
theorem qqn (e : Errs) : Ct prog 268 [.d (.ro true [[iD e.e0], [iD e.e1], [iD e.e2], [iD e.e3]]), .d (fnD 188)] [] [] (int (if za1 e.e0 = true then 0 else if za1 e.e1 = true then 1 else if za1 e.e2 = true then 2 else if za1 e.e3 = true then 3 else -1)) [] := by
 refine Ct.B func268 mixed 99 400 ?_
 simp
 refine LoopI.unroll mixed (Plain.retC _ _ _ _ _) rfl ?_
 refine CI.run 99 400 rfl ?_
 simp
 refine CI.ff (FnOk.of (zpu e.e0) call188 rfl rfl) rfl rfl rfl 99 ?_
 simp
 refine sBI (fun h1 => ?_) (fun h1 => ?_) <;> simp only [h1] <;> simp
 ·exact fin0 (by simp [h1]) rfl
 refine LoopI.unroll mixed (Plain.retC _ _ _ _ _) rfl ?_
 refine CI.run 99 400 rfl ?_
 simp
 refine CI.ff (FnOk.of (zpu e.e1) call188 rfl rfl) rfl rfl rfl 99 ?_
 simp
 refine sBI (fun h2 => ?_) (fun h2 => ?_) <;> simp only [h2] <;> simp
 ·exact fin0 (by simp [h1, h2]) rfl
 refine LoopI.unroll mixed (Plain.retC _ _ _ _ _) rfl ?_
 refine CI.run 99 400 rfl ?_
 simp
 refine CI.ff (FnOk.of (zpu e.e2) call188 rfl rfl) rfl rfl rfl 99 ?_
 simp
 refine sBI (fun h3 => ?_) (fun h3 => ?_) <;> simp only [h3] <;> simp
 ·exact fin0 (by simp [h1, h2, h3]) rfl
 refine LoopI.unroll mixed (Plain.retC _ _ _ _ _) rfl ?_
 refine CI.run 99 400 rfl ?_
 simp
 refine CI.ff (FnOk.of (zpu e.e3) call188 rfl rfl) rfl rfl rfl 99 ?_
 simp
 refine sBI (fun h4 => ?_) (fun h4 => ?_) <;> simp only [h4] <;> simp
 ·exact fin0 (by simp [h1, h2, h3, h4]) rfl
 refine LoopI.unroll mixed (Plain.retC _ _ _ _ _) rfl ?_
 refine CI.run 99 400 rfl ?_
 simp
 exact fin0 (by simp [h1, h2, h3, h4]) rfl
theorem qrm (e : Errs) : Ct prog 187 [.d (.ro true [[iD e.e0], [iD e.e1], [iD e.e2], [iD e.e3]]), .d (fnD 188)] [] [] (bool (za1 e.e0 || za1 e.e1 || za1 e.e2 || za1 e.e3)) [] := by
 refine Ct.B func187 mixed 99 400 ?_
 simp
 refine CI.p (qqn e) call268 99 ?_
 simp
 cases h0 : za1 e.e0 <;> cases h1 : za1 e.e1 <;> cases h2 : za1 e.e2 <;> cases h3 : za1 e.e3
 all_goals
  simp [h0, h1, h2, h3]
 all_goals
  exact fin0 (by simp [h0, h1, h2, h3]) rfl
theorem qb0 (s : Side) (h : OkX s) : Ct prog 124 [st (zcc s)] [] [] (bool (zhx s)) [] := by
 refine Ct.B func124 mixed 1 400 ?_
 simp
 refine CI.s (tm := [(1, .d (.pro (zcc s)))]) (mm := []) (nx := 65) [] [64] (by constructor <;> simp) ?_
 refine CI.run 99 400 rfl ?_
 simp
 refine CI.p (zxk s.epoch) call186 99 ?_
 simp
 refine sGI (fun h1 => ?_) (fun h1 => ?_) <;> simp only [h1] <;> simp
 ·refine CI.p (zxk s.turn) call186 99 ?_
  simp
  refine sGI (fun h2 => ?_) (fun h2 => ?_) <;> simp only [h2] <;> simp
  ·refine CI.arr ti54 ti43 99 ?_
   simp
   refine CI.p (qrm s.errs) call187 99 ?_
   simp
   refine sGI (fun h3 => ?_) (fun h3 => ?_) <;> simp only [h3] <;> simp
   ·refine CI.p (zp0 s.inn) call154 99 ?_
    simp
    refine sGI (fun h4 => ?_) (fun h4 => ?_) <;> simp only [h4] <;> simp
    ·refine CI.p (qb1 s.w h.shown) call189 99 ?_
     simp
     refine sGI (fun h5 => ?_) (fun h5 => ?_) <;> simp only [h5] <;> simp
     ·refine CI.p (qb3 s.p h.sl h.next) call190 99 ?_
      simp
      refine sGI (fun h6 => ?_) (fun h6 => ?_) <;> simp only [h6] <;> simp
      ·refine CI.p (qcf s.p h.pins) call129 99 ?_
       simp
       refine sGI (fun h7 => ?_) (fun h7 => ?_) <;> simp only [h7] <;> simp
       ·refine CI.p (qi1 s h) call191 99 ?_
        simp
        exact fin0 (by simp [zhx, h1, h2, h3, h4, h5, h6, h7]) rfl
       ·exact fin0 (by simp [zhx, h7]) rfl
      ·exact fin0 (by simp [zhx, h6]) rfl
     ·exact fin0 (by simp [zhx, h5]) rfl
    ·exact fin0 (by simp [zhx, h4]) rfl
   ·have h3' : (za1 s.errs.e0 || za1 s.errs.e1 || za1 s.errs.e2 || za1 s.errs.e3) = true := by
     cases hb : (za1 s.errs.e0 || za1 s.errs.e1 || za1 s.errs.e2 || za1 s.errs.e3) with
     | true => rfl
     | false => simp only [Bool.or_eq_false_iff] at hb; simp [hb] at h3
    have e : zhx s = false := by unfold zhx; rw [h3']; simp
    exact fin0 (by simp [e]) rfl
  ·exact fin0 (by simp [zhx, h2]) rfl
 ·exact fin0 (by simp [zhx, h1]) rfl
theorem zly (s : Side) (h : OkX s) : Ct prog 83 [st (zcc s)] [] [] (st (zcc (soundX s))) [] := by
 refine Ct.B func83 mixed 99 400 ?_
 simp
 refine CI.p (qb0 s h) call124 99 ?_
 simp
 refine sBI (fun h1 => ?_) (fun h1 => ?_) <;> simp only [h1] <;> simp <;> (try simp only [nT, nF, dT, dF] at h1)
 ·refine CI.p (qdj s.w.c.cap s.inn.m) call27 99 ?_
  simp
  first | exact fin0 (by simp [soundX, h1]) rfl | exact zac (by simp [soundX, h1])
 ·first | exact fin0 (by simp [soundX, h1]) rfl | exact zac (by simp [soundX, h1])
theorem zhj (s : Side) (f : G.Frame) (h : OkX s) (ht : s.turn ≤ 2147483647) (ht0 : 0 ≤ s.turn) : Ct prog 130 [st (zcc s), st (zaj f)] [] [] (.tup [st (zcc (zrv s)), st (zaj { f with turn := s.turn + 1, held := zd6 s.p })]) [] := by
 refine Ct.B func130 mixed 99 400 ?_
 simp
 have hw := zaa (n := s.turn + 1) (by omega) (by omega)
 simp [hw]
 refine CI.p (zxw s.p h.pins) call198 99 ?_
 simp
 refine ⟨by decide +kernel, ?_⟩
 refine ⟨by decide +kernel, ?_⟩
 exact fin0 (by simp [zrv]) rfl
theorem qrp (s : Side) (f : G.Frame) (h : OkX s) (ht : s.turn ≤ 2147483647) (ht0 : 0 ≤ s.turn) (hk : f.kind = 0 ∨ f.kind = 1 ∨ f.kind = 2 ∨ f.kind = 3) : Ct prog 88 [st (zcc s), st (zaj f)] [] [] (.tup [st (zcc (ackX s f).1), lst ((ackX s f).2.map zaj)]) [] := by
 refine Ct.B func88 mixed 99 400 ?_
 simp
 rcases hk with hk | hk | hk | hk
 all_goals
  simp [hk]
 ·refine CI.p (zhj s ⟨2, f.epoch, f.kind, f.nonce, 0, [], [], s.errs.e0, [], []⟩ h ht ht0) call130 99 ?_ (ha := by simp [hk])
  simp [hk]
  refine ⟨by decide +kernel, ?_⟩
  refine ⟨by decide +kernel, ?_⟩
  exact fin0 (by simp [ackX, Errs.get, hk]) rfl
 ·refine CI.p (zhj s ⟨2, f.epoch, f.kind, f.nonce, 0, [], [], s.errs.e1, [], []⟩ h ht ht0) call130 99 ?_ (ha := by simp [hk])
  simp [hk]
  refine ⟨by decide +kernel, ?_⟩
  refine ⟨by decide +kernel, ?_⟩
  exact fin0 (by simp [ackX, Errs.get, hk]) rfl
 ·refine CI.p (zhj s ⟨2, f.epoch, f.kind, f.nonce, 0, [], [], s.errs.e2, [], []⟩ h ht ht0) call130 99 ?_ (ha := by simp [hk])
  simp [hk]
  refine ⟨by decide +kernel, ?_⟩
  refine ⟨by decide +kernel, ?_⟩
  exact fin0 (by simp [ackX, Errs.get, hk]) rfl
 ·refine CI.p (zhj s ⟨2, f.epoch, f.kind, f.nonce, 0, [], [], s.errs.e3, [], []⟩ h ht ht0) call130 99 ?_ (ha := by simp [hk])
  simp [hk]
  refine ⟨by decide +kernel, ?_⟩
  refine ⟨by decide +kernel, ?_⟩
  exact fin0 (by simp [ackX, Errs.get, hk]) rfl
theorem qck (s : Side) (f : G.Frame) (hf : OkFrame f) : Ct prog 84 [st (zcc s), st (zaj f)] [] [] (int (zbd s f)) [] := by
 refine Ct.B func84 mixed 99 400 ?_
 simp
 refine sBI (fun h1 => ?_) (fun h1 => ?_) <;> simp only [h1] <;> simp <;> (try simp only [nT, nF, dT, dF] at h1)
 ·first | exact fin0 (by simp [zbd, h1]) rfl | exact zac (by simp [zbd, h1])
 refine CI.p (zix f hf) call89 99 ?_
 simp
 refine sBI (fun h2 => ?_) (fun h2 => ?_) <;> simp only [h2] <;> simp <;> (try simp only [nT, nF, dT, dF] at h2)
 ·first | exact fin0 (by simp [zbd, h1, h2]) rfl | exact zac (by simp [zbd, h1, h2])
 refine sBI (fun h3 => ?_) (fun h3 => ?_) <;> simp only [h3] <;> simp <;> (try simp only [nT, nF, dT, dF] at h3)
 ·first | exact fin0 (by simp [zbd, h1, h2, h3]) rfl | exact zac (by simp [zbd, h1, h2, h3])
 refine sBI (fun h4 => ?_) (fun h4 => ?_) <;> simp only [h4] <;> simp <;> (try simp only [nT, nF, dT, dF] at h4)
 ·first | exact fin0 (by simp [zbd, h1, h2, h3, h4]) rfl | exact zac (by simp [zbd, h1, h2, h3, h4])
 ·first | exact fin0 (by simp [zbd, h1, h2, h3, h4]) rfl | exact zac (by simp [zbd, h1, h2, h3, h4])
theorem qe7 (s : Side) (ep : Int) (h : OkX s) : Ct prog 94 [st (zcc s), int ep] [] [] (.tup [st (zcc (zbk s ep).1), lst ((zbk s ep).2.1.map zaj), int (zbk s ep).2.2]) [] := by
 refine Ct.B func94 mixed 99 400 ?_
 simp
 refine CI.p (zly s h) call83 99 ?_
 simp
 have hh : zbk s ep = zfy (soundX s) ep := rfl
 rw [hh]
 clear hh
 have ho := h.sound
 have ht := zuy (zif s)
 generalize soundX s = q at ho ht ⊢
 refine sGI (fun h1 => ?_) (fun h1 => ?_) <;> simp only [h1] <;> simp
 ·have h1' : ep ≤ q.epoch ∨ 2147483647 < ep := .inl (by simpa using h1)
  exact fin0 (by simp [zfy, h1']) rfl
 refine sBI (fun h2 => ?_) (fun h2 => ?_) <;> simp only [h2] <;> simp
 ·have h1' : ep ≤ q.epoch ∨ 2147483647 < ep := .inr (by simpa using h2)
  exact fin0 (by simp [zfy, h1']) rfl
 have h1' : ¬ (ep ≤ q.epoch ∨ 2147483647 < ep) := by simp at h1 h2; omega
 refine CI.p (zty q) call86 99 ?_
 simp
 refine sBI (fun h3 => ?_) (fun h3 => ?_) <;> simp only [h3] <;> simp
 ·exact fin0 (by simp [zfy, h1', h3]) rfl
 refine CI.p (qep q.inn.m) call47 99 ?_
 simp
 refine CI.p (qdv q.w.c.l (by have := ho.cl; omega)) call143 99 ?_
 simp
 refine CI.p (zhj { q with epoch := ep, up := true, inn := Nonce.startI q.inn.m, errs := ⟨0, 0, 0, 0⟩ } ⟨3, ep, 0, 0, 0, [], [], 0, [], []⟩ (.mk' ho.c ho.cl ho.shown ho.pins) ht.2 ht.1) call130 99 ?_
 simp
 refine ⟨by decide +kernel, ?_⟩
 exact fin0 (by simp [zfy, h1', h3, znj, qjy, zrv]) rfl
theorem qow (s : Side) (f : G.Frame) (h : OkX s) (hf : OkFrame f) (hl : f.adds.length ≤ 1000) (hk : f.kind = 0 ∨ f.kind = 1 ∨ f.kind = 2 ∨ f.kind = 3) : Ct prog 87 [st (zcc s), st (zaj f)] [] [] (.tup [st (zcc (zkb s f).1), int (zkb s f).2]) [] := by
 refine Ct.B func87 mixed 99 400 ?_
 simp
 refine CI.p (qkr s.w f.adds f.gone h.shown h.c hf.adds hl hf.gone) call127 99 ?_
 simp
 obtain ⟨o1, o2⟩ := zxh (gone := f.gone) h.c h.shown hf.adds hl
 obtain ⟨o3, o4⟩ := zr2 s.w f.adds f.gone
 unfold zkb
 dsimp only
 generalize zie s.w f.adds f.gone = W at o1 o2 o3 o4 ⊢
 obtain ⟨w', ch, why⟩ := W
 simp only at o1 o2 o3 o4 ⊢
 cases ch with
 | false =>
   simp
   refine CI.p (qcf s.p h.pins) call129 99 ?_
   simp
   refine sBI (fun h1 => ?_) (fun h1 => ?_) <;> simp only [h1] <;> simp <;> (try simp only [nT, nF, dT, dF] at h1)
   ·rcases hk with hk | hk | hk | hk
    all_goals
     simp [hk]
    all_goals
     first | exact fin0 (by simp [h1, hk, Errs.set]) rfl | exact zac (by simp [h1, hk, Errs.set])
   ·rcases hk with hk | hk | hk | hk
    all_goals
     simp [hk]
    all_goals
     refine ⟨by decide +kernel, ?_⟩
    all_goals
     first | exact fin0 (by simp [h1, hk, Errs.set]) rfl | exact zac (by simp [h1, hk, Errs.set])
 | true =>
   simp
   refine CI.p (qcr s.p w'.shown h.pins) call128 99 ?_
   simp
   have op := zo0 h.pins o2 o4
   refine sBI (fun h0 => ?_) (fun h0 => ?_) <;> simp only [h0] <;> simp <;> (try simp only [nT, nF, dT, dF] at h0)
   ·first | exact fin0 (by simp [h0]) rfl | exact zac (by simp [h0])
   refine CI.p (qcf (zcq s.p w'.shown).1 op) call129 99 ?_
   simp
   refine sBI (fun h1 => ?_) (fun h1 => ?_) <;> simp only [h1] <;> simp <;> (try simp only [nT, nF, dT, dF] at h1)
   ·rcases hk with hk | hk | hk | hk
    all_goals
     simp [hk]
    all_goals
     first | exact fin0 (by simp [h0, h1, hk, Errs.set]) rfl | exact zac (by simp [h0, h1, hk, Errs.set])
   ·rcases hk with hk | hk | hk | hk
    all_goals
     simp [hk]
    all_goals
     refine ⟨by decide +kernel, ?_⟩
    all_goals
     first | exact fin0 (by simp [h0, h1, hk, Errs.set]) rfl | exact zac (by simp [h0, h1, hk, Errs.set])
theorem qk9 (s : Side) (f : G.Frame) (h : OkX s) (hf : OkFrame f) : Ct prog 57 [st (zcc s), st (zaj f)] [] [] (.tup [st (zcc (zmo s f).1), lst ((zmo s f).2.1.map zaj), int (zmo s f).2.2]) [] := by
 refine Ct.B func57 mixed 99 400 ?_
 simp
 refine CI.p (zly s h) call83 99 ?_
 simp
 have hh : zmo s f = zmn (soundX s) f := rfl
 rw [hh]
 clear hh
 have ho := h.sound
 have ht := zuy (zif s)
 generalize soundX s = q at ho ht ⊢
 refine CI.p (qck q f hf) call84 99 ?_
 simp
 refine sBI (fun h1 => ?_) (fun h1 => ?_) <;> simp only [h1] <;> simp <;> (try simp only [nT, nF, dT, dF] at h1)
 ·first | exact fin0 (by simp [zmn, h1]) rfl | exact zac (by simp [zmn, h1])
 have F := zgs h1
 have hk := zsj F
 have hl := (zbl (frameE_zero.1 F).small).1
 refine CI.p (qkl q.inn f.kind f.nonce) call85 99 ?_
 simp
 refine sBI (fun h2 => ?_) (fun h2 => ?_) <;> simp only [h2] <;> simp <;> (try simp only [nT, nF, dT, dF] at h2)
 ·refine CI.p (zty q) call86 99 ?_
  simp
  refine sBI (fun h3 => ?_) (fun h3 => ?_) <;> simp only [h3] <;> simp <;> (try simp only [nT, nF, dT, dF] at h3)
  ·exact fin0 (by simp [zmn, h1, h2, h3]) rfl
  refine CI.p (qow q f ho hf (by omega) hk) call87 99 ?_
  simp
  have hos := ho.step hf.adds (show f.adds.length ≤ 1000 by omega)
  have htu := zy3 q f
  refine sBI (fun h4 => ?_) (fun h4 => ?_) <;> simp only [h4] <;> simp <;> (try simp only [nT, nF, dT, dF] at h4)
  ·exact fin0 (by simp [zmn, h1, h2, h3, h4]) rfl
  refine CI.p (zty q) call86 99 ?_ (ha := by simp [h3])
  simp [h3]
  refine CI.p (qrp { (zkb q f).1 with inn := (Nonce.take q.inn f.kind f.nonce).1 } f (.mk' hos.c hos.cl hos.shown hos.pins) (by simp only [htu]; exact ht.2) (by simp only [htu]; exact ht.1) hk) call88 99 ?_
  simp
  exact fin0 (by simp [zmn, h1, h2, h3, h4]) rfl
 ·refine sBI (fun h5 => ?_) (fun h5 => ?_) <;> simp only [h5] <;> simp <;> (try simp only [nT, nF, dT, dF] at h5)
  ·refine CI.p (zty q) call86 99 ?_
   simp
   refine sBI (fun h3 => ?_) (fun h3 => ?_) <;> simp only [h3] <;> simp <;> (try simp only [nT, nF, dT, dF] at h3)
   ·exact fin0 (by simp [zmn, h1, h2, h3, h5]) rfl
   refine CI.p (qrp q f ho ht.2 ht.1 hk) call88 99 ?_
   simp
   exact fin0 (by simp [zmn, h1, h2, h3, h5]) rfl
  ·exact fin0 (by simp [zmn, h1, h2, h5]) rfl
end Go.Proofs.YtmhfcgpmmghakaaGreatDoor
namespace Go.Proofs.YtmhfcgpmmghakaaGreatDoor
open Go.AI Go.G Tryz
set_option maxRecDepth 20000
attribute [simp] ntmps25 results25
theorem qbu (s : Sess) (p : Store) (hs : OkSess s) (hl : s.v.have_.length ≤ 1000000) (hpl : p.hist.length ≤ 1000000) : Ct prog 25 [st (zed s), st (zbs p)] [] [] (bool (zi5 s p)) [] := by
 refine Ct.B func25 mixed 99 400 ?_
 simp
 refine CI.p (zww s hs hl) call43 99 ?_
 simp
 have ho := (zr4 hs).v.have_
 have hh : zi5 s p = ((zbh s).greeted && !(zbh s).v.open_ && decide ((zbh s).v.have_ = nowL p)) := rfl
 rw [hh]
 clear hh
 generalize zbh s = q at ho ⊢
 refine CI.p (qg8 p hpl) call44 99 ?_
 simp
 refine sGI (fun h1 => ?_) (fun h1 => ?_) <;> simp only [h1] <;> simp
 ·refine sGI (fun h2 => ?_) (fun h2 => ?_) <;> simp only [h2] <;> simp
  ·refine CI.p (zgh q.v.have_ (nowL p) ho) call45 99 ?_ (ha := by simp [nowL])
   simp [nowL]
   exact fin0 (by simp [h1, h2]) rfl
  ·exact fin0 (by simp [h1, h2]) rfl
 ·exact fin0 (by simp [h1]) rfl
end Go.Proofs.YtmhfcgpmmghakaaGreatDoor
