/-
  A FRAMEWORK OF MY OWN (5): contracts under a premise on what stays; functions with a receiver; what goes up; short forms.
-/
import Derived.Test.YtbmnaehodmgibaaGreatDoorFd
import Derived.Test.YtbmnaehodmgibaaGreatDoorFc
import Derived.Scope
set_option linter.unusedSimpArgs false
set_option linter.unusedVariables false
section
namespace Go.AI
def zyn (G : (Nat → Prop) → World → Prop) : Prop := ∀ (I I' : Nat → Prop) (w w' : World), G I w → (∀ n, I n → w'.heap[n]? = w.heap[n]?) → (∀ n, I n → I' n) → G I' w'
def CtJ (G : (Nat → Prop) → World → Prop) (P : Program) (f : FuncId) (args : List AV) (mr m : List (Nat × Blk)) (res : AV) (m' : List (Nat × Blk)) : Prop :=
 CtF G .returned P f args mr m res m'
abbrev JG (G : (Nat → Prop) → World → Prop) : Names → (Nat → Prop) → World → Prop := fun _ I w => G I w
section
variable {bn : List Nat} {nm : Nat} {args : List AV} {mr m m' : List (Nat × Blk)} {res : AV} {mem : Mem} {G : (Nat → Prop) → World → Prop}
theorem zvm {dp : Nat} {P : Program} {o : Oper} {c : Call} {fo : Operand} (ho : o.op = .call c) (hc : c.callee = .value fo) (tm : Nat → AV) (mem : Mem) (nm : Nat) {f : FuncId} {first captured : List AV}
  (hf : zbc (ev tm fo) = some (f, first, captured)) (hen : zbu P f) (hct : CtJ G P f args mr m res m') (ha : leA.leL (first ++ c.args.toList.map (ev tm) ++ captured) (args.map (AV.ren (renL bn nm)))) (hn : CallNames bn args mr m res m')
  (hk : ∀ p ∈ mr ++ m, mem (renL bn nm p.1) = some (p.2.ren (renL bn nm))) :
  OpOkI none dp (JG G) P o tm ((zbn bn nm mr m res m').mr mem) nm (zbn bn nm mr m res m').res ((zbn bn nm mr m res m').mw mem) := by
 intro a w σ I hG h1 h2 h3 h4 next Q hnx
 refine qio (by simp [zf5, ho]) ?_
 obtain ⟨vs, hrun, hcall⟩ := zj7 ho hc hf hen hct ha hn hk hG h1 h2 h3 h4
 simp only [Oper.wp, hrun, Oper.upon]
 refine hcall.mono fun e w' ⟨v, σ', I', he, hp, hv⟩ => ?_
 subst he
 exact hnx v σ' I' w' hp hv
end
theorem CtJ.of_body {G : (Nat → Prop) → World → Prop} (hGk : zyn G) {P : Program} {f : FuncId} {fn : Func} {c : Code} {args : List AV} {mr m : List (Nat × Blk)} {res : AV} {m' : List (Nat × Blk)} (hf : P.funcs[f]? = some fn) (hb : fn.body = some c) (hm : P.follows .mixedOrders = true) (hn : args.length ≤ fn.ntmps)
  (h : CI none 0 (JG G) P fn.ntmps (retC P fn (mr ++ m) res (mr ++ m')) [.code c] ⟨zi4 0 args, (mr ++ m).map (fun p => (p.1, some p.2)), 64⟩) : CtJ G P f args mr m res m' := by
 intro σ I w vs hG hib hl hv hrm hfree
 refine (callsIn_wide (n := 0)).1 ?_
 refine callsIn_of_wp (F := FW none) hf hb trivial ?_ rfl
 let E : Ctx := { P := P, w0 := w, bor := Owns σ (zab (mr ++ m)), I0 := I, nt := fn.ntmps, s0 := σ }
 have hJ : ∀ s σ' I' a w', RelAt E s σ' I' a w' → JG G σ' I' w' := by
  intro s σ' I' a w' hr
  refine hGk I I' w w' hG (fun n hn => hr.frame n (hib n hn) ?_) (fun n hn => hr.i0 n hn)
  rintro ⟨b, k, x, h1, h2, h3⟩
  obtain ⟨x', h4, _, h5⟩ := hrm.blk b k h1
  rw [h2] at h4; cases h4
  exact (h5 n h3).2 hn
 refine wpIn_mono ((zhm hm h E rfl rfl hJ).1 rfl _ w (zot (E := E) rfl rfl rfl rfl hn hib hl hv hrm hfree)) (fun e a w' hq => ?_)
 obtain ⟨x, ⟨σf, If, hr⟩, he, hret⟩ : zft E (retC P fn (mr ++ m) res (mr ++ m')) e a w' := by
  cases e <;> simpa [aftI] using hq
 obtain ⟨r, ho, g, hfin⟩ : ∃ r, outA P fn x = some r ∧ ∃ g, FinOk (zaf x.mm) r (mr ++ m) res (mr ++ m') g := by
  cases ho : outA P fn x with
  | none => rw [ho] at hret; exact hret.elim
  | some r => rw [ho] at hret; exact ⟨r, rfl, hret⟩
 obtain ⟨v, h1, h2⟩ := zu9 hr ho
 obtain ⟨σ', I', hp, hrv⟩ := zox (E := E) rfl rfl rfl rfl hrm hfree hr hfin h2
 rcases he with rfl | rfl
 ·exact ⟨hr.dfs, v, h1, v, σ', I', rfl, hp, hrv⟩
 ·exact ⟨hr.dfs, v, h1, v, σ', I', rfl, hp, hrv⟩
theorem CI.callJ {G : (Nat → Prop) → World → Prop} {dp : Nat} {P : Program} {nt : Nat} {R : Exit → X → Prop} {ops : Array Oper} {o : Oper} {rest : List Oper} {i : Nat} {ft : List (List Nat × List Nat)} {draw : Bool} {k : List It} {x : X} {c : Call} {fo : Operand} {f : FuncId} {first captured : List AV} {args : List AV} {mr m m' : List (Nat × Blk)} {res : AV} (bn : List Nat)
  (hct : CtJ G P f args mr m res m') (hen : zbu P f) (ho : o.op = .call c) (hc : c.callee = .value fo) (hdst : zbb nt o.dst = true) (hg : o.guard = none ∨ ∃ g wa, o.guard = some (g, wa) ∧ zcm ops g (zad x.tm) = some wa)
  (hf : zbc (ev (zad x.tm) fo) = some (f, first, captured)) (ha : leA.leL (first ++ c.args.toList.map (ev (zad x.tm)) ++ captured) (args.map (AV.ren (renL bn (x.nx + 64 * i))))) (hn : CallNames bn args mr m res m')
  (hk : ∀ p ∈ mr ++ m, zaf x.mm (renL bn (x.nx + 64 * i) p.1) = some (p.2.ren (renL bn (x.nx + 64 * i))))
  (h : CI none dp (JG G) P nt R (.ops ops rest (i + 1) (ft ++ [(zbn bn (x.nx + 64 * i) mr m res m').foot]) draw :: k) (x.app o.dst (zbn bn (x.nx + 64 * i) mr m res m'))) : CI none dp (JG G) P nt R (.ops ops (o :: rest) i ft draw :: k) x :=
 .op _ hdst hg (zvm ho hc _ _ _ hf hen hct ha hn hk) h
section
variable {ro : Option Nat} {dp : Nat} {J : Names → (Nat → Prop) → World → Prop}
theorem CI.callG {P : Program} {nt : Nat} {R : Exit → X → Prop} {ops : Array Oper} {o : Oper} {rest : List Oper} {i : Nat} {ft : List (List Nat × List Nat)} {draw : Bool} {k : List It} {x : X} {c : Call} {fo : Operand} {f : FuncId} {first captured : List AV} {args : List AV} {mr m m' : List (Nat × Blk)} {res : AV} (gv bn : List Nat)
  (hct : Ct P f args mr m res m') (hen : zbu P f) (ho : o.op = .call c) (hc : c.callee = .value fo) (hdst : zbb nt o.dst = true) (hg : o.guard = none ∨ ∃ g wa, o.guard = some (g, wa) ∧ zcm ops g (zad x.tm) = some wa)
  (hf : zbc (ev (zgb gv x) fo) = some (f, first, captured)) (ha : leA.leL (first ++ c.args.toList.map (ev (zgb gv x)) ++ captured) (args.map (AV.ren (renL bn (x.nx + 64 * i))))) (hn : CallNames bn args mr m res m')
  (hk : ∀ p ∈ mr ++ m, gvB gv (zaf x.mm) (renL bn (x.nx + 64 * i) p.1) = some (p.2.ren (renL bn (x.nx + 64 * i)))) (hgv : ∀ b, b ∈ gv → (zaf x.mm b).isSome = true)
  (h : CI ro dp J P nt R (.ops ops rest (i + 1) (ft ++ [(zg2 (zbn bn (x.nx + 64 * i) mr m res m') gv).foot]) draw :: k) (x.app o.dst (zg2 (zbn bn (x.nx + 64 * i) mr m res m') gv))) : CI ro dp J P nt R (.ops ops (o :: rest) i ft draw :: k) x :=
 .op _ hdst hg (OpOk.toI (by simp [zf5, ho]) (OpOk.give gv hgv (zk8 ho hc _ _ _ hf hen hct ha hn hk))) h
theorem CI.callF {P : Program} {nt : Nat} {R : Exit → X → Prop} {ops : Array Oper} {o : Oper} {rest : List Oper} {i : Nat} {ft : List (List Nat × List Nat)} {draw : Bool} {k : List It} {x : X} {c : Call} {fo : Operand} {kf : AV} {args : List AV} {res : AV}
  (h0 : FnOk P kf args res) (ho : o.op = .call c) (hc : c.callee = .value fo) (hdst : zbb nt o.dst = true) (hg : o.guard = none ∨ ∃ g wa, o.guard = some (g, wa) ∧ zcm ops g (zad x.tm) = some wa)
  (hf : ev (zad x.tm) fo = kf) (ha : leA.leL (c.args.toList.map (ev (zad x.tm))) args)
  (h : CI ro dp J P nt R (.ops ops rest (i + 1) (ft ++ [([], [])]) draw :: k) ⟨putT o.dst (res.ren (renL [] (x.nx + 64 * i))) x.tm, x.mm, x.nx⟩) : CI ro dp J P nt R (.ops ops (o :: rest) i ft draw :: k) x := by
 obtain ⟨f, first, cap, h1, h2, h3, h4, h5⟩ := h0
 refine CI.callP h3 h2 ho hc hdst hg (by rw [hf]; exact h1) ?_ h4 h5 h
 rw [ztp h4]
 exact zfm (zfm (zi0 _) ha) (zi0 _)
theorem LoopI.weak {P : Program} {nt : Nat} {R : Exit → X → Prop} {c : Code} {k : List It} {x y : X} (hs : ∀ (E : Ctx) a w, Rel E x.den a w → Rel E y.den a w) (h : LoopI ro dp J P nt R c k y) : LoopI ro dp J P nt R c k x :=
 fun E hP hn hJ a w hr => h E hP hn hJ a w (hs E a w hr)
theorem LoopI.nilOwn {P : Program} {nt : Nat} {R : Exit → X → Prop} {k : List It} {x : X} {c : Code} (t sz : Nat) (T : TypeId) (ht : zad x.tm t = .d (.v (.slice none 0 0))) (h : LoopI ro dp J P nt R c k ⟨(t, .own x.nx) :: x.tm, (x.nx, some (.grow sz [] T)) :: x.mm, x.nx + 1⟩) : LoopI ro dp J P nt R c k x :=
 .weak (fun _ _ _ hr => Rel.nilOwn ht (Nat.le_refl _) hr) h
theorem LoopI.nilCell {P : Program} {nt : Nat} {R : Exit → X → Prop} {k : List It} {x : X} {c : Code} (b j sz : Nat) (T U : TypeId) (cs : List AV) (hc : zaf x.mm b = some (.cells cs U)) (hj : cs[j]? = some (.d (.v (.slice none 0 0)))) (h : LoopI ro dp J P nt R c k ⟨x.tm, (x.nx, some (.grow sz [] T)) :: (b, some (.cells (cs.set j (.own x.nx)) U)) :: x.mm, x.nx + 1⟩) : LoopI ro dp J P nt R c k x :=
 .weak (fun _ _ _ hr => Rel.nilCell hc hj (Nat.le_refl _) hr) h
end
end Go.AI
open Go.RowKit
namespace Go.AI
theorem CtJ.of_below {G : (Nat → Prop) → World → Prop} {P : Program} {f : FuncId} {args : List AV} {mr : List (Nat × Blk)} {r : Value}
  (h : ∀ (σ : Names) (I : Nat → Prop) (w : World) (vs : List Value), G I w → (∀ n, I n → n < w.heap.size) → vs.length = args.length → (∀ (i : Nat) c x, args[i]? = some c → vs[i]? = some x → RV σ I w c x) → RM σ I w (zab mr) →
    Calls P f vs.toArray w fun e w' => e = .returned r ∧ Below w.heap.size w w' ∧ w.drawn ≤ w'.drawn) : CtJ G P f args mr [] (.d (.v r)) [] := by
 intro σ I w vs hG hI hl ha hm hn
 rw [List.append_nil] at hm ⊢
 refine (h σ I w vs hG hI hl ha hm).mono fun e w' ⟨h1, hb, hd⟩ => ⟨r, σ, I, h1, ?_, .d (.v r)⟩
 refine ⟨hb.os, hb.tape, ⟨hb.output, hd⟩, hb.size, fun _ _ h => h, fun _ h h' => absurd h h', fun _ h => h, fun n hn => Nat.lt_of_lt_of_le (hI n hn) hb.size, fun _ h => .inl h, fun n hn _ => hb.block n hn, ?_, fun b k h => .inl (by rw [h]; simp), fun n ho => .inl ho⟩
 refine ⟨fun b k hb' => ?_, hm.apart⟩
 obtain ⟨x, h1, h2, h3⟩ := hm.blk b k hb'
 exact ⟨x, h1, h2.mono (fun n hn => hb.block n (hI n hn)) (fun _ h => h) (fun _ _ h => h) (fun n hn => hb.block n (h3 n hn).1), fun n hn => ⟨Nat.lt_of_lt_of_le (h3 n hn).1 hb.size, (h3 n hn).2⟩⟩
end Go.AI
namespace Go.AI
theorem OpOkI.give {dp : Nat} {G : (Nat → Prop) → World → Prop} (hGk : zyn G) {P : Program} {o : Oper} {tm : Nat → AV} {mem : Mem} {nm : Nat} (gv : List Nat) {e : Eff} (hgv : ∀ b, b ∈ gv → (mem b).isSome = true)
  (h : OpOkI none dp (JG G) P o (fun t => prA (fun b => !gv.contains b) mem 8 (tm t)) (e.mr (gvB gv mem)) nm e.res (e.mw (gvB gv mem))) :
  OpOkI none dp (JG G) P o tm ((Eff.mk e.res e.rd (e.wr ++ gv.map fun b => (b, none))).mr mem) nm e.res ((Eff.mk e.res e.rd (e.wr ++ gv.map fun b => (b, none))).mw mem) := by
 intro a w σ I hG h1 h2 h3 h4 next Q hn
 let kp : Nat → Bool := fun b => !gv.contains b
 let m2 : Mem := (Eff.mk e.res e.rd (e.wr ++ gv.map fun b => (b, none))).mr mem
 have hm2 : ∀ b, kp b = false → mem b = m2 b := by
  intro b hb
  have hc : gv.contains b = true := by simpa [kp] using hb
  have hw : (zar (e.wr ++ gv.map fun b => (b, none)) b).isSome = true := by
   rw [zcx, zk5, hc]
   cases zar e.wr b <;> rfl
  simp only [m2, Eff.mr, hw, true_or, if_true]
 have sub : ∀ b k, e.mr (gvB gv mem) b = some k → m2 b = some k ∧ gv.contains b = false := by
  intro b k hk
  simp only [Eff.mr] at hk
  split at hk
  ·rename_i hc
   simp only [gvB] at hk
   split at hk
   ·cases hk
   ·rename_i hg
    refine ⟨?_, by simpa using hg⟩
    simp only [m2, Eff.mr]
    rw [if_pos ?_]
    ·exact hk
    ·rcases hc with hc | hc
     ·left
      rw [zcx]
      obtain ⟨q, hq⟩ := Option.isSome_iff_exists.1 hc
      rw [hq]
      simp
     ·exact .inr hc
  ·cases hk
 have hib : ∀ n, zfc σ I m2 kp n → n < w.heap.size := by
  intro n hn
  rcases hn with hn | ⟨b, _, c, k, y, hc, hk, hy, e⟩
  ·exact h1 n hn
  ·obtain ⟨y', hy', _, hh⟩ := h3.blk c k hk
   rw [hy] at hy'; cases hy'
   exact (hh n e).1
 have own2 : ∀ n, Owns σ (e.mr (gvB gv mem)) n → Owns σ m2 n := by
  rintro n ⟨b, k, x, hb, hx, e⟩
  exact ⟨b, k, x, (sub b k hb).1, hx, e⟩
 have hrm : RM σ (zfc σ I m2 kp) w (e.mr (gvB gv mem)) := by
  refine ⟨fun b k hb => ?_, fun b b' k k' x x' n hb hb' hx hx' q q' => h3.apart b b' k k' x x' n (sub b k hb).1 (sub b' k' hb').1 hx hx' q q'⟩
  obtain ⟨hb2, hbg⟩ := sub b k hb
  obtain ⟨x, hx, hrb, hh⟩ := h3.blk b k hb2
  refine ⟨x, hx, hrb.mono (fun _ _ => rfl) (fun n h => .inl h) (fun _ _ h => h) (fun _ _ => rfl), fun n hn => ⟨(hh n hn).1, ?_⟩⟩
  rintro (hI | ⟨c, hc, d, k', y, hd, hk', hy, q⟩)
  ·exact (hh n hn).2 hI
  ·cases hd
   have := h3.apart b c k k' x y n hb2 hk' hx hy hn q
   subst this
   simp only [kp] at hc
   rw [hbg] at hc; cases hc
 refine h a w σ (zfc σ I m2 kp) (hGk I _ w w hG (fun _ _ => rfl) (fun n hn => .inl hn)) hib (fun t ht => ?_) hrm h4 next Q (fun v σ' I' w' hp hv => hn v σ' I' w' ?_ hv)
 ·have := zhc (kp := kp) h3 8 (h2 t ht)
  rwa [← zq2 (mm := mem) (mm' := m2) hm2] at this
 ·have hmw : ∀ c q, (Eff.mk e.res e.rd (e.wr ++ gv.map fun b => (b, none))).mw mem c = some q → e.mw (gvB gv mem) c = some q := by
   intro c q hq
   simp only [Eff.mw, zcx, zk5] at hq
   simp only [Eff.mw]
   cases hw : zar e.wr c with
   | some o => rw [hw] at hq; exact hq
   | none =>
     rw [hw] at hq
     simp only at hq ⊢
     cases hc : gv.contains c with
     | true => rw [hc] at hq; simp at hq
     | false =>
       rw [hc] at hq
       simp only [gvB, hc]
       simpa using hq
  have ownsMw : ∀ n, Owns σ' ((Eff.mk e.res e.rd (e.wr ++ gv.map fun b => (b, none))).mw mem) n → Owns σ' (e.mw (gvB gv mem)) n := by
   rintro n ⟨b, k, x, hb, hx, q⟩
   exact ⟨b, k, x, hmw b k hb, hx, q⟩
  refine ⟨hp.os, hp.tape, hp.output, hp.size, hp.names, hp.new, fun n hn => hp.imono n (.inl hn), hp.ib, fun n hn => ?_, fun n hn hno => hp.frame n hn (fun ho => hno (own2 n ho)), ⟨fun b k hb => hp.mem.blk b k (hmw b k hb), fun b b' k k' x x' n hb hb' => hp.mem.apart b b' k k' x x' n (hmw b k hb) (hmw b' k' hb')⟩, fun c q hq => ?_, fun n ho => ?_⟩
  ·rcases hp.inew n hn with (g | ⟨b, _, c, k, y, hc, hk, hy, q⟩) | g | g
   ·exact .inl g
   ·exact .inr (.inr ⟨c, k, y, hk, hy, q⟩)
   ·exact .inr (.inl g)
   ·exact .inr (.inr (own2 n g))
  ·rcases hp.dom c q (hmw c q hq) with g | g
   ·left
    obtain ⟨k, hk⟩ := Option.ne_none_iff_exists'.1 g
    show m2 c ≠ none
    rw [(sub c k hk).1]; simp
   ·exact .inr g
  ·rcases hp.mine n (ownsMw n ho) with g | g
   ·exact .inl (own2 n g)
   ·exact .inr g
theorem CI.callJG {G : (Nat → Prop) → World → Prop} (hGk : zyn G) {dp : Nat} {P : Program} {nt : Nat} {R : Exit → X → Prop} {ops : Array Oper} {o : Oper} {rest : List Oper} {i : Nat} {ft : List (List Nat × List Nat)} {draw : Bool} {k : List It} {x : X} {c : Call} {fo : Operand} {f : FuncId} {first captured : List AV} {args : List AV} {mr m m' : List (Nat × Blk)} {res : AV} (gv bn : List Nat)
  (hct : CtJ G P f args mr m res m') (hen : zbu P f) (ho : o.op = .call c) (hc : c.callee = .value fo) (hdst : zbb nt o.dst = true) (hg : o.guard = none ∨ ∃ g wa, o.guard = some (g, wa) ∧ zcm ops g (zad x.tm) = some wa)
  (hf : zbc (ev (zgb gv x) fo) = some (f, first, captured)) (ha : leA.leL (first ++ c.args.toList.map (ev (zgb gv x)) ++ captured) (args.map (AV.ren (renL bn (x.nx + 64 * i))))) (hn : CallNames bn args mr m res m')
  (hk : ∀ p ∈ mr ++ m, gvB gv (zaf x.mm) (renL bn (x.nx + 64 * i) p.1) = some (p.2.ren (renL bn (x.nx + 64 * i)))) (hgv : ∀ b, b ∈ gv → (zaf x.mm b).isSome = true)
  (h : CI none dp (JG G) P nt R (.ops ops rest (i + 1) (ft ++ [(zg2 (zbn bn (x.nx + 64 * i) mr m res m') gv).foot]) draw :: k) (x.app o.dst (zg2 (zbn bn (x.nx + 64 * i) mr m res m') gv))) : CI none dp (JG G) P nt R (.ops ops (o :: rest) i ft draw :: k) x :=
 .op _ hdst hg (OpOkI.give hGk gv hgv (zvm ho hc _ _ _ hf hen hct ha hn hk)) h
end Go.AI
namespace Go.AI
theorem CI.opG {ro : Option Nat} {dp : Nat} {J : Names → (Nat → Prop) → World → Prop} {P : Program} {nt : Nat} {R : Exit → X → Prop} {ops : Array Oper} {o : Oper} {rest : List Oper} {i : Nat} {ft : List (List Nat × List Nat)} {draw : Bool} {k : List It} {x : X} (gv : List Nat) (st n : Nat) (hk : zag k = true) (hdst : zbb nt o.dst = true) (hg : o.guard = none ∨ ∃ g wa, o.guard = some (g, wa) ∧ zcm ops g (zad x.tm) = some wa)
  (hgv : ∀ b, b ∈ gv → (zaf x.mm b).isSome = true)
  (h : match absC P o (zgb gv x) (gvB gv (zaf x.mm)) (x.nx + 64 * i) with
    | some (sc, e) => sc ∧ AI.runI ro dp J P nt R st n (.ops ops rest (i + 1) (ft ++ [(zg2 e gv).foot]) draw :: k) (x.app o.dst (zg2 e gv))
    | none => False) : CI ro dp J P nt R (.ops ops (o :: rest) i ft draw :: k) x := by
 split at h
 ·rename_i sc e hr
  exact .op _ hdst hg (OpOk.toI (zn9 hr) (OpOk.give gv hgv (zhj hr h.1))) (.runOps st n hk h.2)
 ·exact h.elim
theorem CW.opG {P : Program} {nt : Nat} {R : Exit → X → Prop} {ops : Array Oper} {o : Oper} {rest : List Oper} {i : Nat} {ft : List (List Nat × List Nat)} {draw : Bool} {k : List It} {x : X} (gv : List Nat) (st n : Nat) (hk : zag k = true) (hdst : zbb nt o.dst = true) (hg : o.guard = none ∨ ∃ g wa, o.guard = some (g, wa) ∧ zcm ops g (zad x.tm) = some wa)
  (hgv : ∀ b, b ∈ gv → (zaf x.mm b).isSome = true)
  (h : match absC P o (zgb gv x) (gvB gv (zaf x.mm)) (x.nx + 64 * i) with
    | some (sc, e) => sc ∧ AI.run P nt R st n (.ops ops rest (i + 1) (ft ++ [(zg2 e gv).foot]) draw :: k) (x.app o.dst (zg2 e gv))
    | none => False) : CW P nt R (.ops ops (o :: rest) i ft draw :: k) x := by
 split at h
 ·rename_i sc e hr
  exact .op _ hdst hg (OpOk.give gv hgv (zhj hr h.1)) (.runOps st n hk h.2)
 ·exact h.elim
end Go.AI
end
section
namespace Go.AI
theorem FnOk.bnd {P : Program} {f : FuncId} {args : List AV} {first : List D} {res : AV} (h : Ct P f (first.map .d ++ args) [] [] res []) (he : zbu P f) (h1 : inA.inL (fun b => decide (b < 0)) (first.map .d ++ args) = true) (h2 : inA (nmOk 0) res = true) : FnOk P (.d (.fn (.func f) first [])) args res :=
 ⟨f, first.map .d, [], rfl, he, by simpa using h, by simpa using h1, h2⟩
end Go.AI
end
section
namespace Go.AI
theorem qf2 {σ : Names} {I : Nat → Prop} {w : World} {sz i l : Nat} {es : List (List D)} {T : TypeId} {y v : Value} (hb0 : RB σ I w (.grow sz es T) y) (hs : SubSl sz y i l v) (hi : i = 0) (hl : l ≤ es.length) :
  (∀ σ' : Names, RB σ' I w (.grow sz (es.take l) T) v) ∧ v.oneCell' = true ∧ ∀ n, hb v = some n → hb y = some n := by
 subst hi
 cases hs with
 | nil => exact ⟨fun _ => by simpa using RB.none, rfl, fun n h => h⟩
 | none a => exact ⟨fun _ => by simpa using RB.emp a, rfl, fun n h => by simp [hb] at h⟩
 | @some n len cap _ _ c hc hlc =>
   cases hb0 with
   | emp =>
     have : c = 0 := by omega
     subst this
     have : l = 0 := by omega
     subst this
     exact ⟨fun _ => by simpa using RB.emp _, rfl, fun n h => by simp [hb] at h⟩
   | @grow _ _ _ _ _ arr hw h1 hcap hmax hsz hr =>
     refine ⟨fun σ' => ?_, rfl, fun m h => ?_⟩
     ·have e : (es.take l).length = l := by rw [List.length_take]; omega
      have := RB.grow (σ := σ') (I := I) (w := w) (sz := sz) (es := es.take l) (T := T) (n := n) (cap := c) (arr := arr) hw (Nat.le_trans (Nat.mul_le_mul_right _ (by omega)) h1) (by rw [e]; exact hlc) (by omega) (fun e he => hsz e (List.mem_of_mem_take he))
       (fun i e j c h1 h2 => hr i e j c (by rw [List.getElem?_take] at h1; split at h1 <;> simp_all) h2)
      rw [e] at this
      simpa using this
     ·cases c with
      | zero => simp [hb] at h
      | succ c =>
        cases cap with
        | zero => omega
        | succ cap => simpa [hb] using h
theorem Ct.trunc {P : Program} {f : FuncId} {args : List AV} {k0 : Blk} {sz i : Nat} {es : List (List D)} {T : TypeId} {r : AV} (hr : r = .own 0 ∧ i = es.length ∨ r = .sl 0 sz 0 i) (hi : i ≤ es.length)
  (h : Ct P f args [] [(0, k0)] r [(0, .grow sz es T)]) : Ct P f args [] [(0, k0)] (.own 64) [(64, .grow sz (es.take i) T)] := by
 intro σ I w vs hI hl ha hm h64
 refine (h σ I w vs hI hl ha hm h64).mono ?_
 rintro e w' ⟨v, σ', I', rfl, hp, hv⟩
 obtain ⟨y, hy, hb0, hbn⟩ := hp.mem.blk 0 _ rfl
 have key : (∀ σ' : Names, RB σ' I' w' (.grow sz (es.take i) T) v) ∧ v.oneCell' = true ∧ ∀ n, hb v = some n → hb y = some n := by
  rcases hr with ⟨rfl, rfl⟩ | rfl
  ·cases hv with
   | own h1 h2 =>
     rw [hy] at h1
     cases h1
     refine ⟨fun σ'' => ?_, h2, fun n h => h⟩
     rw [List.take_length]
     cases hb0 with
     | none => exact .none
     | emp a => exact .emp a
     | grow hw a1 a2 a3 a4 a5 => exact .grow hw a1 a2 a3 a4 a5
  ·cases hv with
   | sl h1 h2 =>
     rw [hy] at h1
     cases h1
     exact qf2 hb0 h2 rfl hi
 obtain ⟨k1, k2, k3⟩ := key
 let σ'' : Names := fun b => if b = 64 then some v else if b < 64 then σ' b else none
 have e64 : σ'' 64 = some v := rfl
 refine ⟨v, σ'', I', rfl, ⟨hp.os, hp.tape, hp.output, hp.size, ?_, ?_, hp.imono, hp.ib, hp.inew, hp.frame, ⟨?_, ?_⟩, ?_, ?_⟩, .own e64 k2⟩
 ·intro b x hb
  have : b < 64 := by
   rcases Nat.lt_or_ge b 64 with h | h
   ·exact h
   ·rw [h64 b h] at hb; cases hb
  have hne : b ≠ 64 := by omega
  simp only [σ'', if_neg hne, if_pos this]
  exact hp.names b x hb
 ·intro b hb hn
  by_cases h : b = 64
  ·subst h; exact ⟨Nat.le_refl _, by omega⟩
  ·by_cases h' : b < 64
   ·simp only [σ'', if_neg h, if_pos h'] at hn
    exact hp.new b hb hn
   ·simp only [σ'', if_neg h, if_neg h', ne_eq, not_true_eq_false] at hn
 ·intro b k hk
  by_cases h : b = 64
  ·subst h
   simp [zab] at hk
   subst hk
   exact ⟨v, e64, k1 _, fun n hn => hbn n (k3 n hn)⟩
  ·simp [zab, h] at hk
   exfalso; omega
 ·intro b b' k k' x x' n h1 h2 h3 h4 h5 h6
  have hb1 : b = 64 := by
   by_cases h : b = 64
   ·exact h
   ·simp [zab, h] at h1
    exfalso; omega
  have hb2 : b' = 64 := by
   by_cases h : b' = 64
   ·exact h
   ·simp [zab, h] at h2
    exfalso; omega
  rw [hb1, hb2]
 ·intro b k hk
  by_cases h : b = 64
  ·exact Or.inr ⟨by omega, by omega⟩
  ·simp [zab, h] at hk
   exfalso; omega
 ·rintro n ⟨b, k, x, h1, h2, h3⟩
  have hb1 : b = 64 := by
   by_cases h : b = 64
   ·exact h
   ·simp [zab, h] at h1
    exfalso; omega
  subst hb1
  rw [e64] at h2
  cases h2
  exact hp.mine n ⟨0, _, y, rfl, hy, k3 n h3⟩
end Go.AI
end
section
namespace Go.AI
theorem CW.seqScope {P : Program} {nt : Nat} {R : Exit → X → Prop} (hm : P.follows .mixedOrders = true) (hp : Plain R) {c d : Code} {k : List It} {x : X} (hk : zag k = true) (h : CW P nt R (.code c :: .code d :: k) x) : CW P nt R (.code (.seq c (.scope d)) :: k) x := by
 refine CW.cut (by simpa [zag, za8] using hk) fun E hP hn a w hr => ?_
 have h1 := (zgf hm h E hP hn).1 (by simpa [zag, za8] using hk) a w hr
 simp only [aft] at h1 ⊢
 refine wp_seq (wp_mono h1 (fun e a w h => ?_))
 cases e <;> simp only [aft, Exit.then] at h ⊢ <;> try exact h
 refine wp_scope_straight (wp_mono h (fun e a w h => ?_))
 cases e <;> simp only [Exit.noGoto] <;> first | exact h | exact absurd h (zdq hp k)
end Go.AI
end
section
namespace Go.AI
abbrev pan (v : Value) : List PanicEntry := [{ v := v, recovered := false }]
def CtX (P : Program) (f : FuncId) (args : List AV) (mr m : List (Nat × Blk)) (v : Value) (m' : List (Nat × Blk)) : Prop := CtF (fun _ _ => True) (fun _ => .panicked (pan v)) P f args mr m .any m'
def panC (v : Value) (m m' : List (Nat × Blk)) : Exit → X → Prop := fun e x => e = .panic (pan v) ∧ FinOk (zaf x.mm) (.d (.v undef)) m (.d (.v undef)) m' []
section
variable {P : Program} {nt : Nat} {R : Exit → X → Prop} {ops : Array Oper} {o : Oper} {rest : List Oper} {i : Nat} {ft : List (List Nat × List Nat)} {k : List It} {x : X} {c : Call} {fo : Operand} {f : FuncId} {fs cap args : List AV} {mr m m' : List (Nat × Blk)} {fn : Func} {cd : Code} {v : Value}
theorem CtX.B (hf : P.funcs[f]? = some fn) (hm : P.follows .mixedOrders = true) (st n : Nat) (h : AI.run P fn.ntmps (panC v (mr ++ m) (mr ++ m')) st n [.code cd] ⟨zi4 0 args, (mr ++ m).map (fun p => (p.1, some p.2)), 64⟩) (hb : fn.body = some cd := by rfl) (hn : args.length ≤ fn.ntmps := by simp) : CtX P f args mr m v m' := by
 intro σ I w vs _ hib hl hv hrm hfree
 refine calls_of_wp hf hb ?_
 let E : Ctx := { P := P, w0 := w, bor := Owns σ (zab (mr ++ m)), I0 := I, nt := fn.ntmps, s0 := σ }
 refine wp_mono ((zgf hm (.run st n rfl h) E rfl rfl).1 rfl _ w (zot (E := E) rfl rfl rfl rfl hn hib hl hv hrm hfree)) (fun e a w' hq => ?_)
 obtain ⟨x, ⟨σf, If, hr⟩, rfl, hfin⟩ : zft E (panC v (mr ++ m) (mr ++ m')) e a w' := by
  cases e <;> simpa [aft] using hq
 obtain ⟨σ', I', hp, hrv⟩ := zox (E := E) rfl rfl rfl rfl hrm hfree hr hfin (.d (.v undef))
 exact ⟨hr.dfs, undef, σ', I', rfl, hp, .any _⟩
theorem CW.up (bn : List Nat) (hct : CtX P f args mr m v m') (hen : zbu P f) (h : R (.panic (pan v)) ⟨x.tm, (zbn bn (x.nx + 64 * i) mr m .any m').wr ++ x.mm, x.nx + 64 * (i + 1)⟩)
  (ho : o.op = .call c := by rfl) (hc : c.callee = .value fo := by rfl) (hg : o.guard = none := by rfl) (hf : zbc (ev (zad x.tm) fo) = some (f, fs, cap) := by rfl)
  (ha : leA.leL (fs ++ c.args.toList.map (ev (zad x.tm)) ++ cap) (args.map (AV.ren (renL bn (x.nx + 64 * i)))) := by simp) (hn : CallNames bn args mr m .any m' := by constructor <;> simp [nmOk])
  (hk : ∀ p ∈ mr ++ m, zaf x.mm (renL bn (x.nx + 64 * i) p.1) = some (p.2.ren (renL bn (x.nx + 64 * i))) := by simp) : CW P nt R (.ops ops (o :: rest) i ft false :: k) x := by
 refine .opPan _ (pan v) hg (fun E s a w hP hn' ht hm' hfr hr next Q hQ => ?_) h
 obtain ⟨σ, I, hr⟩ := hr
 subst hP
 obtain ⟨vs, hrun, hcall⟩ := zj7 (a := a) (w := w) (nm := x.nx + 64 * i) ho hc (tm := s.tm) (mem := s.mm) (by rw [ht]; exact hf) hen hct (by rw [ht]; exact ha) hn (by rw [hm']; exact hk) trivial hr.ib (fun t _ => hr.tm t) (hr.mm.sub Eff.mr_sub) (fun b hb => hr.free b (hfr b hb.1))
 simp only [Oper.wp, hrun, Oper.upon]
 refine hcall.mono fun e w' ⟨v', σ', I', he, hp, hv⟩ => ?_
 subst he
 have h' := hr.step (dst := none) Eff.mr_sub hp hv (fun _ h => by cases h)
 rw [← S.app_eq_step] at h'
 refine hQ a w' (Rel.fr ⟨σ', I', h'⟩ ?_ ?_ fun b hb => ?_)
 ·funext t; simp [X.den, S.app, ht]
 ·funext b; simp only [X.den, S.app, zkm, hm']
 ·have hb' : x.nx + 64 * (i + 1) ≤ b := hb
  exact ⟨hfr b (by omega), fun hf => by have := hf.2; omega⟩
end
theorem RM.moved {σ : Names} {I : Nat → Prop} {w w' : World} {m : Mem} (hm : RM σ I w m) (hs : w.heap.size ≤ w'.heap.size) (h : ∀ n, I n ∨ Owns σ m n → w'.heap[n]? = w.heap[n]?) : RM σ I w' m := by
 refine ⟨fun b k hb' => ?_, hm.apart⟩
 obtain ⟨x, h1, h2, h3⟩ := hm.blk b k hb'
 exact ⟨x, h1, h2.mono (fun n hn => h n (.inl hn)) (fun _ h => h) (fun _ _ h => h) (fun n hn => h n (.inr ⟨b, k, x, hb', h1, hn⟩)), fun n hn => ⟨Nat.lt_of_lt_of_le (h3 n hn).1 hs, (h3 n hn).2⟩⟩
theorem zke (w : World) (a : Addr) (v : Value) {n : Nat} (h : n ≠ a.block) : (w.setCell a v).heap[n]? = w.heap[n]? := by
 simp only [World.setCell, Array.getElem?_modify]
 rw [if_neg (fun e => h e.symm)]
theorem zq5 {σ σ' : Names} {I I' : Nat → Prop} {w w' : World} {m m' : Mem} {x v : Value} {T : TypeId} (hrm : RM σ I w m) (hib : ∀ n, I n → n < w.heap.size) (hp : Post σ I (w.alloc (.cells #[x] T)) m 64 σ' I' w' m') :
  Post σ I w m 64 σ' I' (w'.setCell ⟨w.heap.size, 0, none⟩ v) m' ∧ w'.cell? ⟨w.heap.size, 0, none⟩ = some x ∧ w'.frozen? ⟨w.heap.size, 0, none⟩ = false := by
 have hsz : (w.alloc (.cells #[x] T)).heap.size = w.heap.size + 1 := by simp
 have own : ¬ Owns σ m w.heap.size := by
  rintro ⟨b, k, y, h1, h2, h3⟩
  obtain ⟨y', h4, _, h5⟩ := hrm.blk b k h1
  rw [h2] at h4; cases h4
  have := (h5 _ h3).1; omega
 have hI : ¬ I' w.heap.size := fun h => by
  rcases hp.inew _ h with h | h | h
  ·have := hib _ h; omega
  ·omega
  ·exact own h
 have own' : ¬ Owns σ' m' w.heap.size := fun h => by
  rcases hp.mine _ h with h | h
  ·exact own h
  ·omega
 have hh : w'.heap[w.heap.size]? = some (.cells #[x] T (0, 0)) := by
  rw [hp.frame _ (by omega) own]; exact heap_alloc_new w _
 have s1 : (w'.setCell ⟨w.heap.size, 0, none⟩ v).heap.size = w'.heap.size := by simp [World.setCell]
 have s2 := hp.size
 refine ⟨⟨hp.os, hp.tape, ⟨hp.output.eq, hp.output.drawn⟩, by omega, hp.names, hp.new, hp.imono, fun n h => by rw [s1]; exact hp.ib n h, fun n h => ?_, fun n h1 h2 => ?_, ?_, hp.dom, fun n h => ?_⟩, by simp [World.cell?, hh], by simp [World.frozen?, hh]⟩
 ·rcases hp.inew n h with h | h | h
  ·exact .inl h
  ·exact .inr (.inl (by omega))
  ·exact .inr (.inr h)
 ·rw [zke _ _ _ (by show n ≠ w.heap.size; omega), hp.frame n (by omega) h2]
  exact heap_alloc_old w _ h1
 ·refine hp.mem.moved (by omega) fun n h => zke _ _ _ ?_
  rintro rfl
  rcases h with h | h
  ·exact hI h
  ·exact own' h
 ·rcases hp.mine n h with h | h
  ·exact .inl h
  ·exact .inr (by omega)
end Go.AI
end
section
namespace Go.AI
theorem nT {b : Bool} : ((!b) = true) = (b = false) := by cases b <;> simp
theorem nF {b : Bool} : ((!b) = false) = (b = true) := by cases b <;> simp
theorem dT {p : Prop} [Decidable p] : (decide p = true) = p := decide_eq_true_eq
theorem dF {p : Prop} [Decidable p] : (decide p = false) = ¬p := propext decide_eq_false_iff_not
theorem inL {α : Type} {l : List α} {k : Nat} (h : k < l.length) : ∃ x, l[k] = x ∧ l[k]? = some x ∧ x ∈ l ∧ l.take (k + 1) = l.take k ++ [x] ∧ l.drop k = x :: l.drop (k + 1) :=
 ⟨_, rfl, List.getElem?_eq_getElem h, List.getElem_mem h, by rw [List.take_add_one, List.getElem?_eq_getElem h]; rfl, List.drop_eq_getElem_cons h⟩
theorem wr {k : Nat} (h : (k : Int) + 1 ≤ 9223372036854775807) : IntKind.wrap .i64 ((k : Int) + 1) = k + 1 := zae (by omega) h
abbrev Up {α : Type} (l : List α) : Type := {k : Nat // k ≤ l.length}
section
variable {P : Program} {nt : Nat} {R : Exit → X → Prop} {ops : Array Oper} {o : Oper} {rest : List Oper} {i : Nat} {ft : List (List Nat × List Nat)} {d : Bool} {k : List It} {x : X} {c : Call} {fo : Operand} {f : FuncId} {fs cap args : List AV} {mr m m' : List (Nat × Blk)} {res kf : AV} {fn : Func} {cd : Code}
theorem Ct.B (hf : P.funcs[f]? = some fn) (hm : P.follows .mixedOrders = true) (st n : Nat) (h : AI.run P fn.ntmps (retC P fn (mr ++ m) res (mr ++ m')) st n [.code cd] ⟨zi4 0 args, (mr ++ m).map (fun p => (p.1, some p.2)), 64⟩) (hb : fn.body = some cd := by rfl) (hn : args.length ≤ fn.ntmps := by simp) : Ct P f args mr m res m' :=
 .of_body hf hb hm hn (.run st n rfl h)
theorem CtJ.B {G : (Nat → Prop) → World → Prop} (hG : zyn G) (hf : P.funcs[f]? = some fn) (hm : P.follows .mixedOrders = true) (st n : Nat) (h : AI.runI none 0 (JG G) P fn.ntmps (retC P fn (mr ++ m) res (mr ++ m')) st n [.code cd] ⟨zi4 0 args, (mr ++ m).map (fun p => (p.1, some p.2)), 64⟩) (hb : fn.body = some cd := by rfl) (hn : args.length ≤ fn.ntmps := by simp) : CtJ G P f args mr m res m' :=
 .of_body hG hf hb hm hn (.run st n rfl h)
theorem CW.p (hct : Ct P f args [] [] res []) (hen : zbu P f) (st : Nat) (h : AI.run P nt R st 400 (.ops ops rest (i + 1) (ft ++ [([], [])]) d :: k) ⟨putT o.dst (res.ren (renL [] (x.nx + 64 * i))) x.tm, x.mm, x.nx⟩)
  (ho : o.op = .call c := by rfl) (hc : c.callee = .value fo := by rfl) (hd : zbb nt o.dst = true := by rfl) (hg : o.guard = none ∨ ∃ g wa, o.guard = some (g, wa) ∧ zcm ops g (zad x.tm) = some wa := by first | exact .inl rfl | exact .inr ⟨_, _, rfl, by simp⟩ | exact .inr ⟨_, _, rfl, by simp [*]⟩)
  (hf : zbc (ev (zad x.tm) fo) = some (f, fs, cap) := by rfl) (ha : leA.leL (fs ++ c.args.toList.map (ev (zad x.tm)) ++ cap) (args.map (AV.ren (renL [] (x.nx + 64 * i)))) := by simp) (hk : zag k = true := by rfl)
  (h1 : inA.inL (fun b => decide (b < 0)) args = true := by rfl) (h2 : inA (nmOk 0) res = true := by rfl) : CW P nt R (.ops ops (o :: rest) i ft d :: k) x :=
 .callP hct hen ho hc hd hg hf ha h1 h2 (.runOps st 400 hk h)
theorem CW.cc (bn : List Nat) (hct : Ct P f args mr m res m') (hen : zbu P f) (st : Nat) (h : AI.run P nt R st 400 (.ops ops rest (i + 1) (ft ++ [(zbn bn (x.nx + 64 * i) mr m res m').foot]) d :: k) (x.app o.dst (zbn bn (x.nx + 64 * i) mr m res m')))
  (ho : o.op = .call c := by rfl) (hc : c.callee = .value fo := by rfl) (hd : zbb nt o.dst = true := by rfl) (hg : o.guard = none ∨ ∃ g wa, o.guard = some (g, wa) ∧ zcm ops g (zad x.tm) = some wa := by first | exact .inl rfl | exact .inr ⟨_, _, rfl, by simp⟩ | exact .inr ⟨_, _, rfl, by simp [*]⟩)
  (hf : zbc (ev (zad x.tm) fo) = some (f, fs, cap) := by rfl) (ha : leA.leL (fs ++ c.args.toList.map (ev (zad x.tm)) ++ cap) (args.map (AV.ren (renL bn (x.nx + 64 * i)))) := by simp) (hn : CallNames bn args mr m res m' := by constructor <;> simp [nmOk])
  (hk : ∀ p ∈ mr ++ m, zaf x.mm (renL bn (x.nx + 64 * i) p.1) = some (p.2.ren (renL bn (x.nx + 64 * i))) := by simp) (hl : zag k = true := by rfl) : CW P nt R (.ops ops (o :: rest) i ft d :: k) x :=
 .callC bn hct hen ho hc hd hg hf ha hn hk (.runOps st 400 hl h)
theorem CW.g (gv bn : List Nat) (hct : Ct P f args mr m res m') (hen : zbu P f) (st : Nat) (h : AI.run P nt R st 400 (.ops ops rest (i + 1) (ft ++ [(zg2 (zbn bn (x.nx + 64 * i) mr m res m') gv).foot]) d :: k) (x.app o.dst (zg2 (zbn bn (x.nx + 64 * i) mr m res m') gv)))
  (ho : o.op = .call c := by rfl) (hc : c.callee = .value fo := by rfl) (hd : zbb nt o.dst = true := by rfl) (hg : o.guard = none ∨ ∃ g wa, o.guard = some (g, wa) ∧ zcm ops g (zad x.tm) = some wa := by first | exact .inl rfl | exact .inr ⟨_, _, rfl, by simp⟩ | exact .inr ⟨_, _, rfl, by simp [*]⟩)
  (hf : zbc (ev (zgb gv x) fo) = some (f, fs, cap) := by rfl) (ha : leA.leL (fs ++ c.args.toList.map (ev (zgb gv x)) ++ cap) (args.map (AV.ren (renL bn (x.nx + 64 * i)))) := by simp [zgb]) (hn : CallNames bn args mr m res m' := by constructor <;> simp [nmOk])
  (hk : ∀ p ∈ mr ++ m, gvB gv (zaf x.mm) (renL bn (x.nx + 64 * i) p.1) = some (p.2.ren (renL bn (x.nx + 64 * i))) := by simp [gvB]) (hv : ∀ b, b ∈ gv → (zaf x.mm b).isSome = true := by simp) (hl : zag k = true := by rfl) : CW P nt R (.ops ops (o :: rest) i ft d :: k) x :=
 .callG gv bn hct hen ho hc hd hg hf ha hn hk hv (.runOps st 400 hl h)
theorem CW.ff (h0 : FnOk P kf args res) (ho : o.op = .call c) (hc : c.callee = .value fo) (hf : ev (zad x.tm) fo = kf) (st : Nat) (h : AI.run P nt R st 400 (.ops ops rest (i + 1) (ft ++ [([], [])]) d :: k) ⟨putT o.dst (res.ren (renL [] (x.nx + 64 * i))) x.tm, x.mm, x.nx⟩)
  (hd : zbb nt o.dst = true := by rfl) (hg : o.guard = none ∨ ∃ g wa, o.guard = some (g, wa) ∧ zcm ops g (zad x.tm) = some wa := by first | exact .inl rfl | exact .inr ⟨_, _, rfl, by simp⟩ | exact .inr ⟨_, _, rfl, by simp [*]⟩)
  (ha : leA.leL (c.args.toList.map (ev (zad x.tm))) args := by simp) (hk : zag k = true := by rfl) : CW P nt R (.ops ops (o :: rest) i ft d :: k) x :=
 .callF h0 ho hc hd hg hf ha (.runOps st 400 hk h)
theorem CW.s {tm : List (Nat × AV)} {mm : List (Nat × Blk)} {nx : Nat} (g : List (Nat × Nat)) (gv : List Nat) (hs : SubOk x tm mm nx g gv) (h : CW P nt R k ⟨tm, mm.map (fun p => (p.1, some p.2)), nx⟩) (hk : zag k = true := by rfl) : CW P nt R k x := .sub g gv hk hs h
theorem sB {st n : Nat} {t : Bool} {a b : Code} (h1 : t = true → AI.run P nt R st n (.br (.d (.v (.bool true))) a b :: k) x) (h2 : t = false → AI.run P nt R st n (.br (.d (.v (.bool false))) a b :: k) x) : AI.run P nt R st n (.br (.d (.v (.bool t))) a b :: k) x := zqu h1 h2
theorem sG {st n : Nat} {t wa : Bool} (h1 : t = true → AI.run P nt R st n (.gd (.d (.v (.bool true))) wa ops o rest i ft d :: k) x) (h2 : t = false → AI.run P nt R st n (.gd (.d (.v (.bool false))) wa ops o rest i ft d :: k) x) : AI.run P nt R st n (.gd (.d (.v (.bool t))) wa ops o rest i ft d :: k) x := zqs h1 h2
theorem LoopW.U (hm : P.follows .mixedOrders = true) {α : Type} (l : List α) (tm : Up l → List (Nat × AV)) (mm : Up l → List (Nat × Blk)) (nx : Nat) (gv : List Nat) (h0 : Sub x (tm ⟨0, Nat.zero_le _⟩) (mm ⟨0, Nat.zero_le _⟩) nx gv) {r : AV} {ma mb : List (Nat × Blk)}
  (step : ∀ i (B : X → Prop), (∀ x j gv, Sub x (tm j) (mm j) nx gv → l.length - j.1 < l.length - i.1 → B x) → CW P nt (retC P fn ma r mb) (.code cd :: .stop B :: k) ⟨tm i, (mm i).map (fun p => (p.1, some p.2)), nx⟩) (hk : zag k = true := by rfl) : LoopW P nt (retC P fn ma r mb) cd k x :=
 .inv hm (Plain.retC _ _ _ _ _) hk tm mm nx (fun i => l.length - i.1) _ gv h0 step
theorem LoopI.U {ro : Option Nat} {dp : Nat} {J : Names → (Nat → Prop) → World → Prop} (hm : P.follows .mixedOrders = true) {α : Type} (l : List α) (tm : Up l → List (Nat × AV)) (mm : Up l → List (Nat × Blk)) (nx : Nat) (gv : List Nat) (h0 : Sub x (tm ⟨0, Nat.zero_le _⟩) (mm ⟨0, Nat.zero_le _⟩) nx gv)
  (step : ∀ i (B : X → Prop), (∀ x j gv, Sub x (tm j) (mm j) nx gv → l.length - j.1 < l.length - i.1 → B x) → CI ro dp J P nt R (.code cd :: .stop B :: k) ⟨tm i, (mm i).map (fun p => (p.1, some p.2)), nx⟩) (hk : zag k = true := by rfl) : LoopI ro dp J P nt R cd k x :=
 .inv hm hk tm mm nx (fun i => l.length - i.1) _ gv h0 step
section
variable {ro : Option Nat} {dp : Nat} {J : Names → (Nat → Prop) → World → Prop}
theorem CI.p (hct : Ct P f args [] [] res []) (hen : zbu P f) (st : Nat) (h : AI.runI ro dp J P nt R st 400 (.ops ops rest (i + 1) (ft ++ [([], [])]) d :: k) ⟨putT o.dst (res.ren (renL [] (x.nx + 64 * i))) x.tm, x.mm, x.nx⟩)
  (ho : o.op = .call c := by rfl) (hc : c.callee = .value fo := by rfl) (hd : zbb nt o.dst = true := by rfl) (hg : o.guard = none ∨ ∃ g wa, o.guard = some (g, wa) ∧ zcm ops g (zad x.tm) = some wa := by first | exact .inl rfl | exact .inr ⟨_, _, rfl, by simp⟩ | exact .inr ⟨_, _, rfl, by simp [*]⟩)
  (hf : zbc (ev (zad x.tm) fo) = some (f, fs, cap) := by rfl) (ha : leA.leL (fs ++ c.args.toList.map (ev (zad x.tm)) ++ cap) (args.map (AV.ren (renL [] (x.nx + 64 * i)))) := by simp) (hk : zag k = true := by rfl)
  (h1 : inA.inL (fun b => decide (b < 0)) args = true := by rfl) (h2 : inA (nmOk 0) res = true := by rfl) : CI ro dp J P nt R (.ops ops (o :: rest) i ft d :: k) x :=
 .callP hct hen ho hc hd hg hf ha h1 h2 (.runOps st 400 hk h)
theorem CI.cc (bn : List Nat) (hct : Ct P f args mr m res m') (hen : zbu P f) (st : Nat) (h : AI.runI ro dp J P nt R st 400 (.ops ops rest (i + 1) (ft ++ [(zbn bn (x.nx + 64 * i) mr m res m').foot]) d :: k) (x.app o.dst (zbn bn (x.nx + 64 * i) mr m res m')))
  (ho : o.op = .call c := by rfl) (hc : c.callee = .value fo := by rfl) (hd : zbb nt o.dst = true := by rfl) (hg : o.guard = none ∨ ∃ g wa, o.guard = some (g, wa) ∧ zcm ops g (zad x.tm) = some wa := by first | exact .inl rfl | exact .inr ⟨_, _, rfl, by simp⟩ | exact .inr ⟨_, _, rfl, by simp [*]⟩)
  (hf : zbc (ev (zad x.tm) fo) = some (f, fs, cap) := by rfl) (ha : leA.leL (fs ++ c.args.toList.map (ev (zad x.tm)) ++ cap) (args.map (AV.ren (renL bn (x.nx + 64 * i)))) := by simp) (hn : CallNames bn args mr m res m' := by constructor <;> simp [nmOk])
  (hk : ∀ p ∈ mr ++ m, zaf x.mm (renL bn (x.nx + 64 * i) p.1) = some (p.2.ren (renL bn (x.nx + 64 * i))) := by simp) (hl : zag k = true := by rfl) : CI ro dp J P nt R (.ops ops (o :: rest) i ft d :: k) x :=
 .callC bn hct hen ho hc hd hg hf ha hn hk (.runOps st 400 hl h)
theorem CI.g (gv bn : List Nat) (hct : Ct P f args mr m res m') (hen : zbu P f) (st : Nat) (h : AI.runI ro dp J P nt R st 400 (.ops ops rest (i + 1) (ft ++ [(zg2 (zbn bn (x.nx + 64 * i) mr m res m') gv).foot]) d :: k) (x.app o.dst (zg2 (zbn bn (x.nx + 64 * i) mr m res m') gv)))
  (ho : o.op = .call c := by rfl) (hc : c.callee = .value fo := by rfl) (hd : zbb nt o.dst = true := by rfl) (hg : o.guard = none ∨ ∃ g wa, o.guard = some (g, wa) ∧ zcm ops g (zad x.tm) = some wa := by first | exact .inl rfl | exact .inr ⟨_, _, rfl, by simp⟩ | exact .inr ⟨_, _, rfl, by simp [*]⟩)
  (hf : zbc (ev (zgb gv x) fo) = some (f, fs, cap) := by rfl) (ha : leA.leL (fs ++ c.args.toList.map (ev (zgb gv x)) ++ cap) (args.map (AV.ren (renL bn (x.nx + 64 * i)))) := by simp [zgb]) (hn : CallNames bn args mr m res m' := by constructor <;> simp [nmOk])
  (hk : ∀ p ∈ mr ++ m, gvB gv (zaf x.mm) (renL bn (x.nx + 64 * i) p.1) = some (p.2.ren (renL bn (x.nx + 64 * i))) := by simp [gvB]) (hv : ∀ b, b ∈ gv → (zaf x.mm b).isSome = true := by simp) (hl : zag k = true := by rfl) : CI ro dp J P nt R (.ops ops (o :: rest) i ft d :: k) x :=
 .callG gv bn hct hen ho hc hd hg hf ha hn hk hv (.runOps st 400 hl h)
theorem CI.ff (h0 : FnOk P kf args res) (ho : o.op = .call c) (hc : c.callee = .value fo) (hf : ev (zad x.tm) fo = kf) (st : Nat) (h : AI.runI ro dp J P nt R st 400 (.ops ops rest (i + 1) (ft ++ [([], [])]) d :: k) ⟨putT o.dst (res.ren (renL [] (x.nx + 64 * i))) x.tm, x.mm, x.nx⟩)
  (hd : zbb nt o.dst = true := by rfl) (hg : o.guard = none ∨ ∃ g wa, o.guard = some (g, wa) ∧ zcm ops g (zad x.tm) = some wa := by first | exact .inl rfl | exact .inr ⟨_, _, rfl, by simp⟩ | exact .inr ⟨_, _, rfl, by simp [*]⟩)
  (ha : leA.leL (c.args.toList.map (ev (zad x.tm))) args := by simp) (hk : zag k = true := by rfl) : CI ro dp J P nt R (.ops ops (o :: rest) i ft d :: k) x :=
 .callF h0 ho hc hd hg hf ha (.runOps st 400 hk h)
theorem CI.s {tm : List (Nat × AV)} {mm : List (Nat × Blk)} {nx : Nat} (g : List (Nat × Nat)) (gv : List Nat) (hs : SubOk x tm mm nx g gv) (h : CI ro dp J P nt R k ⟨tm, mm.map (fun p => (p.1, some p.2)), nx⟩) (hk : zag k = true := by rfl) : CI ro dp J P nt R k x := .sub g gv hk hs h
theorem sBI {st n : Nat} {t : Bool} {a b : Code} (h1 : t = true → AI.runI ro dp J P nt R st n (.br (.d (.v (.bool true))) a b :: k) x) (h2 : t = false → AI.runI ro dp J P nt R st n (.br (.d (.v (.bool false))) a b :: k) x) : AI.runI ro dp J P nt R st n (.br (.d (.v (.bool t))) a b :: k) x := zoq h1 h2
theorem sGI {st n : Nat} {t wa : Bool} (h1 : t = true → AI.runI ro dp J P nt R st n (.gd (.d (.v (.bool true))) wa ops o rest i ft d :: k) x) (h2 : t = false → AI.runI ro dp J P nt R st n (.gd (.d (.v (.bool false))) wa ops o rest i ft d :: k) x) : AI.runI ro dp J P nt R st n (.gd (.d (.v (.bool t))) wa ops o rest i ft d :: k) x := zop h1 h2
variable {G : (Nat → Prop) → World → Prop}
theorem CI.j (bn : List Nat) (hct : CtJ G P f args mr m res m') (hen : zbu P f) (st : Nat) (h : AI.runI none dp (JG G) P nt R st 400 (.ops ops rest (i + 1) (ft ++ [(zbn bn (x.nx + 64 * i) mr m res m').foot]) d :: k) (x.app o.dst (zbn bn (x.nx + 64 * i) mr m res m')))
  (ho : o.op = .call c := by rfl) (hc : c.callee = .value fo := by rfl) (hd : zbb nt o.dst = true := by rfl) (hg : o.guard = none ∨ ∃ g wa, o.guard = some (g, wa) ∧ zcm ops g (zad x.tm) = some wa := by first | exact .inl rfl | exact .inr ⟨_, _, rfl, by simp⟩ | exact .inr ⟨_, _, rfl, by simp [*]⟩)
  (hf : zbc (ev (zad x.tm) fo) = some (f, fs, cap) := by rfl) (ha : leA.leL (fs ++ c.args.toList.map (ev (zad x.tm)) ++ cap) (args.map (AV.ren (renL bn (x.nx + 64 * i)))) := by simp) (hn : CallNames bn args mr m res m' := by constructor <;> simp [nmOk])
  (hk : ∀ p ∈ mr ++ m, zaf x.mm (renL bn (x.nx + 64 * i) p.1) = some (p.2.ren (renL bn (x.nx + 64 * i))) := by simp) (hl : zag k = true := by rfl) : CI none dp (JG G) P nt R (.ops ops (o :: rest) i ft d :: k) x :=
 .callJ bn hct hen ho hc hd hg hf ha hn hk (.runOps st 400 hl h)
theorem CI.jg (hG : zyn G) (gv bn : List Nat) (hct : CtJ G P f args mr m res m') (hen : zbu P f) (st : Nat) (h : AI.runI none dp (JG G) P nt R st 400 (.ops ops rest (i + 1) (ft ++ [(zg2 (zbn bn (x.nx + 64 * i) mr m res m') gv).foot]) d :: k) (x.app o.dst (zg2 (zbn bn (x.nx + 64 * i) mr m res m') gv)))
  (ho : o.op = .call c := by rfl) (hc : c.callee = .value fo := by rfl) (hd : zbb nt o.dst = true := by rfl) (hg : o.guard = none ∨ ∃ g wa, o.guard = some (g, wa) ∧ zcm ops g (zad x.tm) = some wa := by first | exact .inl rfl | exact .inr ⟨_, _, rfl, by simp⟩ | exact .inr ⟨_, _, rfl, by simp [*]⟩)
  (hf : zbc (ev (zgb gv x) fo) = some (f, fs, cap) := by rfl) (ha : leA.leL (fs ++ c.args.toList.map (ev (zgb gv x)) ++ cap) (args.map (AV.ren (renL bn (x.nx + 64 * i)))) := by simp [zgb]) (hn : CallNames bn args mr m res m' := by constructor <;> simp [nmOk])
  (hk : ∀ p ∈ mr ++ m, gvB gv (zaf x.mm) (renL bn (x.nx + 64 * i) p.1) = some (p.2.ren (renL bn (x.nx + 64 * i))) := by simp [gvB]) (hv : ∀ b, b ∈ gv → (zaf x.mm b).isSome = true := by simp) (hl : zag k = true := by rfl) : CI none dp (JG G) P nt R (.ops ops (o :: rest) i ft d :: k) x :=
 .callJG hG gv bn hct hen ho hc hd hg hf ha hn hk hv (.runOps st 400 hl h)
end
end
end Go.AI
end
section
namespace Go.AI
theorem arrK {P : Program} {t : TypeId} {ti : TI} {n E : Nat} (h : tiOf P t = some ti) (hk : ti.k = .arr n E) : P.underlying t = some (.array n E) := by
 obtain ⟨i, d, z, hi, hd, hz, rfl⟩ := zaj h
 rw [hd]; simp only at hk
 cases d <;> simp [kOf] at hk
 obtain ⟨rfl, rfl⟩ := hk
 rfl
theorem qji {P : Program} {o : Oper} {T E : TypeId} {xo : Operand} {n : Nat} {ti te : TI} (ho : o.op = .slice T xo none none none) (hT : tiOf P T = some ti) (hk : ti.k = .arr n E) (hE : tiOf P E = some te) (hs : te.sz = 1) {tm : Nat → AV} {m : Mem} {nm : Nat} {cs : List D}
  (hx : ev tm xo = .d (.pro cs)) (h0 : 0 < n) (hn : n ≤ cs.length) (hm : n ≤ 1000) : OpOk P o tm m nm (.d (.ro true ((cs.take n).map fun c => [c]))) m := by
 refine OpOk.pure fun a w σ I h _ => ?_
 have hv := zav (σ := σ) (I := I) (w := w) (tm := tm) (a := a) (x := xo) fun s e => h s (by simp [ho, Op.operands, e])
 rw [hx] at hv
 have hu := arrK hT hk
 have hl : ((cs.take n).map fun c => [c]).length = n := by rw [List.length_map, List.length_take]; omega
 generalize hy : a.eval xo = y at hv
 cases hv with
 | d hd => cases hd with
   | @pro _ blk off val hI hc hr h1 =>
     have hb := zbi (P := P) (w := w) (isS := false) (len := n) (cap := n) (lo := none) (hi := none) (mx := none) (.inl ⟨rfl, rfl⟩) (.inl ⟨rfl, rfl⟩) (.inl ⟨rfl, rfl⟩) ⟨by simp, by simp, by simp, trivial⟩ (fun h => absurd rfl h) (Nat.le_refl _)
     have hn0 : ¬ n = 0 := by omega
     refine ⟨.slice (some ⟨blk, off, none⟩) n n, ?_, .d ?_⟩
     ·simp only [mxN, Option.getD_none, Int.toNat_zero, Int.toNat_natCast] at hb
      simp [execOp, ho, hy, Instr.sliceAt, run_underlying hu, zao hE, Instr.sureAddr, hb, hn0, zbp]
     ·have hg : ∀ (i : Nat) e (j : Nat) c, ((cs.take n).map fun c => [c])[i]? = some e → e[j]? = some c → j = 0 ∧ cs[i]? = some c := by
       intro i e j c h1 h2
       rw [List.getElem?_map, List.getElem?_take] at h1
       split at h1
       ·obtain ⟨c', h3, rfl⟩ := Option.map_eq_some_iff.1 h1
        cases j with
        | zero => simp at h2; subst h2; exact ⟨rfl, h3⟩
        | succ j => simp at h2
       ·simp at h1
      have := RD.ro (I := I) (w := w) (sz := 1) (fc := true) (es := (cs.take n).map fun c => [c]) (blk := blk) (off := off) (cap := n) (fun i j => val (i + j)) hI (fun e he => by obtain ⟨c, _, rfl⟩ := List.mem_map.1 he; rfl) (by omega) (by simp [maxLen]; omega) (fun _ => hl.symm)
       (fun i e j c he hcc => by obtain ⟨rfl, h3⟩ := hg i e j c he hcc; simpa using hc i c h3)
       (fun i e j c he hcc => by obtain ⟨rfl, h3⟩ := hg i e j c he hcc; simpa using hr i c h3)
       (fun i e j c he hcc => by obtain ⟨rfl, h3⟩ := hg i e j c he hcc; simpa using h1 i c h3)
      rwa [hl] at this
theorem CW.arr {P : Program} {nt : Nat} {R : Exit → X → Prop} {ops : Array Oper} {o : Oper} {rest : List Oper} {i : Nat} {ft : List (List Nat × List Nat)} {d : Bool} {k : List It} {x : X} {T E : TypeId} {xo : Operand} {n : Nat} {ti te : TI} {cs : List D} (hT : tiOf P T = some ti) (hE : tiOf P E = some te) (st : Nat)
  (h : AI.run P nt R st 400 (.ops ops rest (i + 1) (ft ++ [([], [])]) d :: k) ⟨putT o.dst (.d (.ro true ((cs.take n).map fun c => [c]))) x.tm, x.mm, x.nx⟩)
  (ho : o.op = .slice T xo none none none := by rfl) (hk : ti.k = .arr n E := by rfl) (hs : te.sz = 1 := by rfl) (hx : ev (zad x.tm) xo = .d (.pro cs) := by rfl) (h0 : 0 < n := by decide) (hn : n ≤ cs.length := by simp) (hm : n ≤ 1000 := by decide) (hd : zbb nt o.dst = true := by rfl)
  (hg : o.guard = none ∨ ∃ g wa, o.guard = some (g, wa) ∧ zcm ops g (zad x.tm) = some wa := by first | exact .inl rfl | exact .inr ⟨_, _, rfl, by simp⟩ | exact .inr ⟨_, _, rfl, by simp [*]⟩) (hc : zag k = true := by rfl) : CW P nt R (.ops ops (o :: rest) i ft d :: k) x :=
 .op ⟨_, [], []⟩ hd hg (qji ho hT hk hE hs hx h0 hn hm) (.runOps st 400 hc h)
end Go.AI
end
