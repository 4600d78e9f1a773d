/-
  A FRAMEWORK OF MY OWN (3): loops, and the rules by which the evaluator is rewritten.
-/
import Derived.Test.YtipkcdjpaneimaaAi1
set_option linter.unusedSimpArgs false
set_option linter.unusedVariables false
namespace Go.AI

theorem exitTo_length {id : Nat} : ∀ {k k' : List Item}, exitTo id k = some k' → k'.length < k.length
  | [], _, h => by cases h
  | x :: k, k', h => by
    cases x <;> simp only [exitTo] at h <;> first
      | (have := exitTo_length h; simp; omega)
      | (split at h
         · cases h; simp
         · have := exitTo_length h; simp; omega)

theorem steps_swap {P : Program} {m0 m0' m1 m : Machine} (h0 : step P m0 = .next m1) (h0' : step P m0' = .next m1) (hne : m ≠ m0) (h : Steps P m0 m) : Steps P m0' m := by
  obtain ⟨n, hn⟩ := h
  cases n with
  | zero => simp only [runN] at hn; cases hn; exact absurd rfl hne
  | succ n => simp only [runN, h0] at hn; exact .head h0' ⟨n, hn⟩

theorem lone_todo {b b' : Frame} {a a' : Act} {k k' : List Item} {cs cs' : List Frame} {w w' : World} (h : lone (b.at a k) cs w = lone (b'.at a' k') cs' w') : k = k' := by
  have h1 := congrArg Machine.gs h
  simp [lone, Frame.at] at h1
  exact h1.1.2.2.1

theorem wp_loop_unroll {P : Program} {Q : Fin} (hg : ∀ l a w, ¬ Q (.goto l) a w) (ho : ∀ a w, ¬ Q .outgrown a w) {c : Code} {a : Act} {w : World} (h : c.wp P (Exit.then ((Code.loop c).wp P Q) Q) a w) : (Code.loop c).wp P Q a w := by
  intro b k cs
  obtain ⟨e, a₁, w₁, hq, harr⟩ := h b (.inLoop c :: k) cs
  cases e with
  | normal =>
    obtain ⟨e₂, a₂, w₂, hq₂, harr₂⟩ := hq b k cs
    refine ⟨e₂, a₂, w₂, hq₂, ?_⟩
    refine .of_steps (Steps.head step_loop harr) ?_
    have s1 := step_loop (P := P) (b := b) (a := a₁) (k := k) (cs := cs) (w := w₁) (c := c)
    have s2 := step_inLoop (P := P) (b := b) (a := a₁) (k := k) (cs := cs) (w := w₁) (c := c)
    cases e₂ with
    | normal => exact steps_swap s1 s2 (fun e => by have := congrArg List.length (lone_todo e); simp at this) harr₂
    | exit id => exact fun k' hk => steps_swap s1 s2 (fun e => by have := congrArg List.length (lone_todo e); have := exitTo_length hk; simp at *; omega) (harr₂ k' hk)
    | goto l => exact absurd hq₂ (hg l a₂ w₂)
    | ret =>
      obtain ⟨todo, hs⟩ := harr₂
      exact ⟨todo, steps_swap s1 s2 (fun e => by have h1 := congrArg Machine.gs e; simp [lone, Frame.at] at h1) hs⟩
    | panic ch =>
      obtain ⟨todo, hs⟩ := harr₂
      exact ⟨todo, steps_swap s1 s2 (fun e => by have h1 := congrArg Machine.gs e; simp [lone, Frame.at] at h1) hs⟩
    | outgrown => exact absurd hq₂ (ho a₂ w₂)
  | exit id => exact ⟨_, a₁, w₁, hq, .of_steps (.one step_loop) (.pass (x := .inLoop c) rfl (fun _ _ => .inl (by simp)) harr)⟩
  | goto l => exact ⟨_, a₁, w₁, hq, .of_steps (.one step_loop) (.pass (x := .inLoop c) rfl (fun _ _ => .inl (by simp)) harr)⟩
  | ret => exact ⟨_, a₁, w₁, hq, .of_steps (.one step_loop) (.pass (x := .inLoop c) rfl (fun _ _ => .inl (by simp)) harr)⟩
  | panic ch => exact ⟨_, a₁, w₁, hq, .of_steps (.one step_loop) (.pass (x := .inLoop c) rfl (fun _ _ => .inl (by simp)) harr)⟩
  | outgrown => exact ⟨_, a₁, w₁, hq, .of_steps (.one step_loop) (.pass (x := .inLoop c) rfl (fun _ _ => .inl (by simp)) harr)⟩

/-- No jump, no way out for want of memory. -/
def Plain (R : Exit → X → Prop) : Prop := (∀ l x, ¬ R (.goto l) x) ∧ ∀ x, ¬ R .outgrown x

theorem Plain.ret (P : Program) (fn : Func) (res : AV) : Plain (retR P fn res) :=
  ⟨(fun l x h => by rcases h.1 with h | h <;> cases h), (fun x h => by rcases h.1 with h | h <;> cases h)⟩

theorem aft_goto {E : Ctx} {R : Exit → X → Prop} (hp : Plain R) {l : Nat} {a : Act} {w : World} : ∀ k, ¬ aft E k (finOf E R) (.goto l) a w
  | [] => fun ⟨x, _, h⟩ => hp.1 l x h
  | .code _ :: k => by simp only [aft]; exact aft_goto hp k
  | .blk _ :: k => by simp only [aft]; exact aft_goto hp k
  | .stop _ :: k => by simp only [aft]; exact aft_goto hp k
  | .ops _ _ _ _ _ :: k => by simp only [aft]; exact aft_goto hp k
  | .br _ _ _ :: k => by simp only [aft]; exact aft_goto hp k
  | .gd _ _ _ _ _ _ _ _ :: k => by simp only [aft]; exact aft_goto hp k
  | .eff _ _ _ _ _ _ _ :: k => by simp only [aft]; exact aft_goto hp k

theorem aft_outgrown {E : Ctx} {R : Exit → X → Prop} (hp : Plain R) {a : Act} {w : World} : ∀ k, ¬ aft E k (finOf E R) .outgrown a w
  | [] => fun ⟨x, _, h⟩ => hp.2 x h
  | .code _ :: k => by simp only [aft]; exact aft_outgrown hp k
  | .blk _ :: k => by simp only [aft]; exact aft_outgrown hp k
  | .stop _ :: k => by simp only [aft]; exact aft_outgrown hp k
  | .ops _ _ _ _ _ :: k => by simp only [aft]; exact aft_outgrown hp k
  | .br _ _ _ :: k => by simp only [aft]; exact aft_outgrown hp k
  | .gd _ _ _ _ _ _ _ _ :: k => by simp only [aft]; exact aft_outgrown hp k
  | .eff _ _ _ _ _ _ _ :: k => by simp only [aft]; exact aft_outgrown hp k

theorem LoopW.unroll {P : Program} {nt : Nat} {R : Exit → X → Prop} (hm : P.follows .mixedOrders = true) (hp : Plain R) {c : Code} {k : List It} {x : X} (hk : clean k = true)
    (h : CW P nt R (.code c :: .code (.loop c) :: k) x) : LoopW P nt R c k x := by
  intro E hP hn a w hr
  have := (CW_sound hm h E hP hn).1 (by simpa [clean, isOps] using hk) a w hr
  simp only [aft] at this
  subst hP
  refine wp_loop_unroll (fun l a w => aft_goto hp k) (fun a w => aft_outgrown hp k) (wp_mono this (fun e a w h => ?_))
  cases e <;> simp only [aft, Exit.then] at h ⊢ <;> exact h

/-- A LOOP, BY A FAMILY OF STATES AND A MEASURE. -/
theorem LoopW.of {P : Program} {nt : Nat} {R : Exit → X → Prop} (hm : P.follows .mixedOrders = true) (hp : Plain R) {c : Code} {k : List It} (hk : clean k = true) {ι : Type} (S : ι → X) (μ : ι → Nat)
    (h : ∀ i (B : X → Prop), (∀ x j, (∀ (E : Ctx) a w, Rel E x.den a w → Rel E (S j).den a w) → μ j < μ i → B x) → CW P nt R (.code c :: .stop B :: k) (S i))
    {x : X} (i : ι) (hx : ∀ (E : Ctx) a w, Rel E x.den a w → Rel E (S i).den a w) : LoopW P nt R c k x := by
  intro E hP hn a w hr
  subst hP
  have main : ∀ n i a w, μ i = n → Rel E (S i).den a w → (Code.loop c).wp E.P (aft E k (finOf E R)) a w := by
    intro n
    induction n using Nat.strongRecOn with
    | _ n ih =>
      intro i a w hn' hr
      let B : X → Prop := fun x => ∃ j, (∀ (E : Ctx) a w, Rel E x.den a w → Rel E (S j).den a w) ∧ μ j < μ i
      have := (CW_sound hm (h i B (fun x j h1 h2 => ⟨j, h1, h2⟩)) E rfl hn).1 (by simpa [clean, isOps] using hk) a w hr
      simp only [aft] at this
      refine wp_loop_unroll (fun l a w => aft_goto hp k) (fun a w => aft_outgrown hp k) (wp_mono this (fun e a' w' hq => ?_))
      cases e with
      | normal =>
        simp only [aft, Exit.then] at hq ⊢
        obtain ⟨x, hx, j, hj, hlt⟩ := hq
        exact ih (μ j) (by omega) j a' w' rfl (hj E a' w' hx)
      | _ => simpa only [aft, Exit.then] using hq
  exact main _ i a w rfl (hx E a w hr)

/-- One state says less than another: some slots are forgotten, some names. -/
theorem Rel.weak {E : Ctx} {x y : X} (ht : ∀ t, lookT y.tm t = .any ∨ lookT y.tm t = lookT x.tm t) (hm : ∀ b k, lookM y.mm b = some k → lookM x.mm b = some k) (hx : x.nx ≤ y.nx) {a : Act} {w : World} (h : Rel E x.den a w) : Rel E y.den a w := by
  obtain ⟨σ, I, h⟩ := h
  refine ⟨σ, I, h.size, h.dfs, fun t => ?_, h.mm.sub hm, fun b hb => h.free b (Nat.le_trans hx hb), h.ib, h.i0, h.inew, fun n hn => ?_, h.os, h.tape, h.output, h.hs, h.frame⟩
  · rcases ht t with e | e
    · show RV σ I w (lookT y.tm t) _
      rw [e]; exact .any _
    · show RV σ I w (lookT y.tm t) _
      rw [e]; exact h.tm t
  · obtain ⟨b, k, v, h1, h2, h3⟩ := hn
    exact h.mine n ⟨b, k, v, hm b k h1, h2, h3⟩

end Go.AI
namespace Go.AI
attribute [simp] lookT lookM absOp ev avOf X.app putT dstOk initT gval gbool popTo loadE loadA storeE cellsOf lay oneA toD toDs binA intA strA unA faA fieldOff iaA minA maxA lenE TI.agg aggL eqLA cellEqA wrote retR RetA outA resA calleeA nfA nfA.nfL isOps clean Value.oneCell' buildA fillA nilcA mkiA indexArrA indexStrA knownFs knownK concK

@[simp] theorem pickA_true (x y : AV) : pickA true x y = x := by unfold pickA; split <;> rfl
@[simp] theorem pickA_false (x y : AV) : pickA false x y = y := by unfold pickA; split <;> rfl
@[simp] theorem pickA_bool (t x y : Bool) : pickA t (.d (.v (.bool x))) (.d (.v (.bool y))) = .d (.v (.bool (bif t then x else y))) := rfl

@[simp] theorem foot_mk (r : AV) (rd : List Nat) (wr : List (Nat × Option Blk)) : (Eff.mk r rd wr).foot = (rd, wr.map (·.1)) := rfl

section
variable {P : Program} {nt : Nat} {R : Exit → X → Prop} {n : Nat} {k : List It} {x : X}
@[simp] theorem run_nil : run P nt R (n + 1) [] x = R .normal x := propext Iff.rfl
@[simp] theorem run_stop {B : X → Prop} : run P nt R (n + 1) (.stop B :: k) x = B x := propext Iff.rfl
@[simp] theorem run_blk {id : Nat} : run P nt R (n + 1) (.blk id :: k) x = run P nt R n k x := propext Iff.rfl
@[simp] theorem run_br_true {a b : Code} : run P nt R (n + 1) (.br (.d (.v (.bool true))) a b :: k) x = run P nt R n (.code a :: k) x := propext Iff.rfl
@[simp] theorem run_br_false {a b : Code} : run P nt R (n + 1) (.br (.d (.v (.bool false))) a b :: k) x = run P nt R n (.code b :: k) x := propext Iff.rfl
@[simp] theorem run_ops_nil {ops : Array Oper} {i : Nat} {ft : List (List Nat × List Nat)} : run P nt R (n + 1) (.ops ops [] i ft false :: k) x = run P nt R n k ⟨x.tm, x.mm, x.nx + 64 * i⟩ := propext Iff.rfl
@[simp] theorem run_ops_nil_draw {ops : Array Oper} {i : Nat} {ft : List (List Nat × List Nat)} : run P nt R (n + 1) (.ops ops [] i ft true :: k) x = (DrawSide ops ft ∧ run P nt R n k ⟨x.tm, x.mm, x.nx + 64 * i⟩) := propext Iff.rfl
@[simp] theorem run_ops_cons {ops : Array Oper} {dst : Option Tmp} {op : Op} {ty : TypeId} {pos : String} {aft : Array Edge} {rest : List Oper} {i : Nat} {ft : List (List Nat × List Nat)} {d : Bool} :
    run P nt R (n + 1) (.ops ops (⟨dst, op, ty, pos, aft, none⟩ :: rest) i ft d :: k) x = run P nt R n (.eff (absOp P ⟨dst, op, ty, pos, aft, none⟩ (lookT x.tm) (lookM x.mm) (x.nx + 64 * i)) ops ⟨dst, op, ty, pos, aft, none⟩ rest i ft d :: k) x := propext Iff.rfl
@[simp] theorem run_ops_guard {ops : Array Oper} {dst : Option Tmp} {op : Op} {ty : TypeId} {pos : String} {aft : Array Edge} {g : Nat} {wa : Bool} {rest : List Oper} {i : Nat} {ft : List (List Nat × List Nat)} {d : Bool} :
    run P nt R (n + 1) (.ops ops (⟨dst, op, ty, pos, aft, some (g, wa)⟩ :: rest) i ft d :: k) x = run P nt R n (.gd (gval ops g (lookT x.tm)) wa ops ⟨dst, op, ty, pos, aft, some (g, wa)⟩ rest i ft d :: k) x := propext Iff.rfl
@[simp] theorem run_gd_tt {ops : Array Oper} {o : Oper} {rest : List Oper} {i : Nat} {ft : List (List Nat × List Nat)} {d : Bool} :
    run P nt R (n + 1) (.gd (.d (.v (.bool true))) true ops o rest i ft d :: k) x = run P nt R n (.eff (absOp P o (lookT x.tm) (lookM x.mm) (x.nx + 64 * i)) ops o rest i ft d :: k) x := propext Iff.rfl
@[simp] theorem run_gd_ff {ops : Array Oper} {o : Oper} {rest : List Oper} {i : Nat} {ft : List (List Nat × List Nat)} {d : Bool} :
    run P nt R (n + 1) (.gd (.d (.v (.bool false))) false ops o rest i ft d :: k) x = run P nt R n (.eff (absOp P o (lookT x.tm) (lookM x.mm) (x.nx + 64 * i)) ops o rest i ft d :: k) x := propext Iff.rfl
@[simp] theorem run_gd_tf {ops : Array Oper} {o : Oper} {rest : List Oper} {i : Nat} {ft : List (List Nat × List Nat)} {d : Bool} :
    run P nt R (n + 1) (.gd (.d (.v (.bool true))) false ops o rest i ft d :: k) x = (dstOk nt o.dst = true ∧ run P nt R n (.ops ops rest (i + 1) (ft ++ [([], [])]) d :: k) (x.app o.dst ⟨.d (.v undef), [], []⟩)) := propext Iff.rfl
@[simp] theorem run_gd_ft {ops : Array Oper} {o : Oper} {rest : List Oper} {i : Nat} {ft : List (List Nat × List Nat)} {d : Bool} :
    run P nt R (n + 1) (.gd (.d (.v (.bool false))) true ops o rest i ft d :: k) x = (dstOk nt o.dst = true ∧ run P nt R n (.ops ops rest (i + 1) (ft ++ [([], [])]) d :: k) (x.app o.dst ⟨.d (.v undef), [], []⟩)) := propext Iff.rfl
@[simp] theorem run_gd_un {ops : Array Oper} {o : Oper} {rest : List Oper} {i : Nat} {ft : List (List Nat × List Nat)} {d wa : Bool} :
    run P nt R (n + 1) (.gd (.d (.v undef)) wa ops o rest i ft d :: k) x = (dstOk nt o.dst = true ∧ run P nt R n (.ops ops rest (i + 1) (ft ++ [([], [])]) d :: k) (x.app o.dst ⟨.d (.v undef), [], []⟩)) := propext Iff.rfl
@[simp] theorem run_eff_some {ops : Array Oper} {o : Oper} {rest : List Oper} {i : Nat} {ft : List (List Nat × List Nat)} {d : Bool} {e : Eff} :
    run P nt R (n + 1) (.eff (some e) ops o rest i ft d :: k) x = (dstOk nt o.dst = true ∧ run P nt R n (.ops ops rest (i + 1) (ft ++ [e.foot]) d :: k) (x.app o.dst e)) := propext Iff.rfl
@[simp] theorem run_eff_none {ops : Array Oper} {o : Oper} {rest : List Oper} {i : Nat} {ft : List (List Nat × List Nat)} {d : Bool} :
    run P nt R (n + 1) (.eff none ops o rest i ft d :: k) x = CW P nt R (.ops ops (o :: rest) i ft d :: k) x := propext Iff.rfl
@[simp] theorem run_skip : run P nt R (n + 1) (.code .skip :: k) x = run P nt R n k x := propext Iff.rfl
@[simp] theorem run_label {l : Nat} : run P nt R (n + 1) (.code (.label l) :: k) x = run P nt R n k x := propext Iff.rfl
@[simp] theorem run_seq {a b : Code} : run P nt R (n + 1) (.code (.seq a b) :: k) x = run P nt R n (.code a :: .code b :: k) x := propext Iff.rfl
@[simp] theorem run_block {id : Nat} {a : Code} : run P nt R (n + 1) (.code (.block id a) :: k) x = run P nt R n (.code a :: .blk id :: k) x := propext Iff.rfl
@[simp] theorem run_cond {o : Operand} {a b : Code} : run P nt R (n + 1) (.code (.cond o a b) :: k) x = run P nt R n (.br (ev (lookT x.tm) o) a b :: k) x := propext Iff.rfl
@[simp] theorem run_region {id : Nat} {ops : Array Oper} {d : Bool} : run P nt R (n + 1) (.code (.region id ops d) :: k) x = run P nt R n (.ops ops ops.toList 0 [] d :: k) x := propext Iff.rfl
@[simp] theorem run_ret : run P nt R (n + 1) (.code .ret :: k) x = R .ret x := propext Iff.rfl
@[simp] theorem run_exit {id : Nat} : run P nt R (n + 1) (.code (.exit id) :: k) x = (match popTo id k with
      | some k' => run P nt R n k' x
      | none => False) := propext Iff.rfl
@[simp] theorem run_loop {a : Code} : run P nt R (n + 1) (.code (.loop a) :: k) x = LoopW P nt R a k x := propext Iff.rfl
end

/-- A guard, a test, that is not decided. -/
theorem run_gd_split {P : Program} {nt : Nat} {R : Exit → X → Prop} {n : Nat} {k : List It} {x : X} {ops : Array Oper} {o : Oper} {rest : List Oper} {i : Nat} {ft : List (List Nat × List Nat)} {d : Bool} {t wa : Bool}
    (h1 : t = true → run P nt R n (.gd (.d (.v (.bool true))) wa ops o rest i ft d :: k) x) (h2 : t = false → run P nt R n (.gd (.d (.v (.bool false))) wa ops o rest i ft d :: k) x) :
    run P nt R n (.gd (.d (.v (.bool t))) wa ops o rest i ft d :: k) x := by
  cases t
  · exact h2 rfl
  · exact h1 rfl

theorem run_br_split {P : Program} {nt : Nat} {R : Exit → X → Prop} {n : Nat} {t : Bool} {a b : Code} {k : List It} {x : X} (h1 : t = true → run P nt R n (.br (.d (.v (.bool true))) a b :: k) x)
    (h2 : t = false → run P nt R n (.br (.d (.v (.bool false))) a b :: k) x) : run P nt R n (.br (.d (.v (.bool t))) a b :: k) x := by
  cases t
  · exact h2 rfl
  · exact h1 rfl

theorem wrap_i64 {n : Int} (h1 : -9223372036854775808 ≤ n) (h2 : n ≤ 9223372036854775807) : IntKind.wrap .i64 n = n := IntWalk.i64_in n ⟨h1, h2⟩
attribute [simp] wrap_i64

theorem and3 (r : Int) : andK .i64 r 3 = 0 ∨ andK .i64 r 3 = 1 ∨ andK .i64 r 3 = 2 ∨ andK .i64 r 3 = 3 := by
  have h : (BitVec.ofInt (IntKind.bits .i64) r &&& BitVec.ofInt (IntKind.bits .i64) 3).toNat ≤ 3 := by
    rw [BitVec.toNat_and]
    exact Nat.le_trans Nat.and_le_right (by decide)
  simp only [andK]
  generalize (BitVec.ofInt (IntKind.bits .i64) r &&& BitVec.ofInt (IntKind.bits .i64) 3).toNat = q at h
  rw [wrap_i64 (by omega) (by omega)]
  omega
end Go.AI
