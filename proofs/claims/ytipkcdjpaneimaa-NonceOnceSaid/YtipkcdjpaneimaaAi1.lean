/-
  A FRAMEWORK OF MY OWN (2): an evaluator over abstract states, and that what it says of a function's body holds of every run.
-/
import Derived.Test.YtipkcdjpaneimaaAi0
set_option linter.unusedSimpArgs false
set_option linter.unusedVariables false
namespace Go.AI

theorem wrote_isSome (l : List (Nat × Option Blk)) (b : Nat) : (wrote l b).isSome = true ↔ b ∈ l.map (·.1) := by
  induction l with
  | nil => simp [wrote]
  | cons p l ih =>
    obtain ⟨c, k⟩ := p
    simp only [wrote, List.map_cons, List.mem_cons]
    by_cases h : c = b
    · simp [h]
    · simp [h, ih, Ne.symm h]

theorem disj_spec {a b : List Nat} (h : disj a b = true) {x : Nat} (hx : x ∈ a) : x ∉ b := by
  simp only [disj, List.all_eq_true] at h
  have := h x hx
  simpa using this

theorem mem_opTemps {o : Oper} {t : Nat} (h : Operand.tmp t ∈ o.op.operands) : t ∈ opTemps o := by
  simp only [opTemps, List.mem_filterMap]
  exact ⟨.tmp t, by simpa using h, rfl⟩

theorem looks_mem {ops : Array Oper} {o : Oper} {t : Nat} (h : looks ops o t) : t ∈ lookList ops o := by
  rcases h with h | ⟨g, wa, p, h1, h2, h3⟩
  · exact List.mem_append.2 (.inl (mem_opTemps h))
  · refine List.mem_append.2 (.inr ?_)
    simp [h1, h2, h3]

theorem not_meets {ops : Array Oper} {x y : Oper} (h : meets ops x y = false) :
    (∀ d, x.dst = some d → y.dst ≠ some d ∧ ¬ looks ops y d) ∧ (∀ d, y.dst = some d → ¬ looks ops x d) := by
  simp only [meets, Bool.or_eq_false_iff] at h
  obtain ⟨h1, h2⟩ := h
  refine ⟨fun d hd => ?_, fun d hd hl => ?_⟩
  · simp only [hd, Bool.or_eq_false_iff] at h1
    refine ⟨fun e => ?_, fun hl => ?_⟩
    · simp [e] at h1
    · have := looks_mem hl
      simp [this] at h1
  · simp only [hd] at h2
    have := looks_mem hl
    simp [this] at h2

theorem drawOk_preOk {ops : Array Oper} {pre : List (List Nat)} (h : drawOk ops pre = true) : preOk ops (fun j => pre.getD j []) := by
  intro j o ho
  have hj : j < ops.size := (Array.getElem?_eq_some_iff.1 ho).1
  simp only [drawOk, List.all_eq_true, List.mem_range] at h
  have := h j hj
  simp only [ho, Bool.and_eq_true, List.all_eq_true, decide_eq_true_eq, List.any_eq_true] at this
  obtain ⟨⟨h1, h2⟩, _⟩ := this
  have medge : ∀ e, e ∈ edgesOf o ↔ ∃ ed ∈ o.after, Region.binds .any ed = true ∧ ed.on = e := by
    intro e
    simp only [edgesOf, List.mem_filterMap]
    constructor
    · rintro ⟨ed, hed, he⟩
      split at he
      · rename_i hb; cases he; exact ⟨ed, by simpa using hed, hb, rfl⟩
      · cases he
    · rintro ⟨ed, hed, hb, rfl⟩
      exact ⟨ed, by simpa using hed, by simp [hb]⟩
  refine ⟨fun e he hb => h1 e.on ((medge _).2 ⟨e, he, hb, rfl⟩), fun i hi => ?_⟩
  obtain ⟨e, he, hor⟩ := h2 i hi
  obtain ⟨ed, hed, hb, rfl⟩ := (medge e).1 he
  refine ⟨ed, hed, hb, ?_⟩
  simpa using hor

theorem draw_apart {ops : Array Oper} {pre : List (List Nat)} (h : drawOk ops pre = true) {tr : List Eff} (hl : tr.length = ops.size) (hf : footOk pre (tr.map Eff.foot) = true) :
    ∀ i j, i < j → j < ops.size → i ∈ (fun j => pre.getD j []) j ∨ Apart ops (fun i => tr.getD i ⟨.any, [], []⟩) i j := by
  intro i j hij hj
  simp only [drawOk, List.all_eq_true, List.mem_range] at h
  have h1 := h j hj
  simp only [footOk, List.all_eq_true, List.mem_range, List.length_map, hl] at hf
  have h2 := hf j hj i hij
  have hoj : ops[j]? = some ops[j] := Array.getElem?_eq_getElem hj
  have hoi : ops[i]? = some ops[i] := Array.getElem?_eq_getElem (by omega)
  simp only [hoj, Bool.and_eq_true, List.all_eq_true, List.mem_range] at h1
  have h3 := h1.2 i hij
  simp only [hoi, Bool.or_eq_true, List.contains_iff_mem] at h3
  simp only [Bool.or_eq_true, List.contains_iff_mem, Bool.and_eq_true] at h2
  rcases h3 with h3 | h3
  · exact .inl h3
  rcases h2 with h2 | h2
  · exact .inl h2
  refine .inr ?_
  have hn := not_meets (ops := ops) (x := ops[i]) (y := ops[j]) (by simpa using h3)
  have ei : (tr.map Eff.foot).getD i ([], []) = (tr.getD i ⟨.any, [], []⟩).foot := by
    simp [List.getD, List.getElem?_map, List.getElem?_eq_getElem (show i < tr.length by omega)]
  have ej : (tr.map Eff.foot).getD j ([], []) = (tr.getD j ⟨.any, [], []⟩).foot := by
    simp [List.getD, List.getElem?_map, List.getElem?_eq_getElem (show j < tr.length by omega)]
  rw [ei, ej] at h2
  obtain ⟨⟨q1, q2⟩, q3⟩ := h2
  refine ⟨fun d hd => ?_, fun d hd o ho => ?_, fun b hb => ?_, fun b hb => ?_⟩
  · simp only [hoi, Option.bind_some] at hd
    refine ⟨by simpa [hoj] using (hn.1 d hd).1, fun o ho => ?_⟩
    rw [hoj] at ho; cases ho
    exact (hn.1 d hd).2
  · simp only [hoj, Option.bind_some] at hd
    rw [hoi] at ho; cases ho
    exact hn.2 d hd
  · have := (wrote_isSome _ _).1 hb
    refine ⟨?_, disj_spec q1 this⟩
    have hnot := disj_spec q2 this
    cases hw : wrote (tr.getD j ⟨.any, [], []⟩).wr b with
    | none => rfl
    | some k => exact absurd ((wrote_isSome _ _).1 (by rw [hw]; rfl)) hnot
  · exact disj_spec q3 ((wrote_isSome _ _).1 hb)

-- THE PROGRAM THAT WALKS
/-- An operation's effect, as far as it is worked out by program. -/
def absOp (P : Program) (o : Oper) (tm : Nat → AV) (mem : Mem) (nm : Nat) : Option Eff :=
  match o.op with
  | .move x => some ⟨ev tm x, [], []⟩
  | .assign x => some ⟨ev tm x, [], []⟩
  | .pick c x y => match ev tm c with
    | .d (.v (.bool t)) => some ⟨pickA t (ev tm x) (ev tm y), [], []⟩
    | _ => none
  | .alloc T => match tiOf P T with
    | some ti => some ⟨.ptr nm 0, [], [(nm, some (.cells (ti.zero.map fun v => .d (.v v)) T))]⟩
    | none => none
  | .box T x => match cellsOf (ev tm x) with
    | some cs => some ⟨.ptr nm 0, [], [(nm, some (.cells cs T))]⟩
    | none => none
  | .load T x => match tiOf P T with
    | some ti => loadE ti.agg ti.sz mem (ev tm x)
    | none => none
  | .store T a x => match tiOf P T with
    | some ti => storeE ti.sz mem (ev tm x) (ev tm a)
    | none => none
  | .binOp op T x y _ => match tiOf P T with
    | some ti => match binA op ti (ev tm x) (ev tm y) with
      | some r => some ⟨r, [], []⟩
      | none => none
    | none => none
  | .unOp op _ x => match unA op (ev tm x) with
    | some r => some ⟨r, [], []⟩
    | none => none
  | .fieldAddr T x f => match tiOf P T with
    | some ti => match fieldOff P ti f with
      | some off => match faA off (ev tm x) with
        | some r => some ⟨r, [], []⟩
        | none => none
      | none => none
    | none => none
  | .field T x f => match tiOf P T with
    | some ti => match ti.k with
      | .strct fs => match fs[f]? with
        | some (off, t, _) => match tiOf P t, aggL (ev tm x) with
          | some tf, some cs => match loadA tf.agg tf.sz off cs with
            | some r => some ⟨r, [], []⟩
            | none => none
          | _, _ => none
        | none => none
      | _ => none
    | none => none
  | .indexAddr T x i => match tiOf P T with
    | some ti => match ti.k with
      | .arr n E => match tiOf P E with
        | some te => iaA (.arr n E) te.sz mem (ev tm x) (ev tm i)
        | none => none
      | .slc E => match tiOf P E with
        | some te => iaA (.slc E) te.sz mem (ev tm x) (ev tm i)
        | none => none
      | _ => none
    | none => none
  | .index T x i => match tiOf P T with
    | some ti => match ti.k with
      | .arr n E => match tiOf P E with
        | some te => match indexArrA n te.agg te.sz (ev tm x) (ev tm i) with
          | some r => some ⟨r, [], []⟩
          | none => none
        | none => none
      | .str => match indexStrA (ev tm x) (ev tm i) with
        | some r => some ⟨r, [], []⟩
        | none => none
      | _ => none
    | none => none
  | .extract x i => match ev tm x with
    | .tup vs => match vs[i]? with
      | some r => some ⟨r, [], []⟩
      | none => none
    | _ => none
  | .build T parts => match tiOf P T with
    | some ti => if knownK P ti.k = true then match buildA P ti (parts.toList.map fun p => (p.1, ev tm p.2)) with
        | some r => some ⟨r, [], []⟩
        | none => none
      else none
    | none => none
  | .nilCheck x => if nilcA (ev tm x) = true then some ⟨ev tm x, [], []⟩ else none
  | .makeInterface T x => match tiOf P T with
    | some ti => if concK ti.k = true then some ⟨mkiA T (ev tm x), [], []⟩ else none
    | none => none
  | .makeFunc f first captured => some ⟨.fn f (first.toList.map (ev tm)) (captured.toList.map (ev tm)), [], []⟩
  | .call c => match c.callee with
    | .builtin .min => match minA (c.args.toList.map (ev tm)) with
      | some r => some ⟨r, [], []⟩
      | none => none
    | .builtin .max => match maxA (c.args.toList.map (ev tm)) with
      | some r => some ⟨r, [], []⟩
      | none => none
    | .builtin .len => match c.argTypes[0]?, c.args[0]? with
      | some T, some x => match tiOf P T with
        | some ti => lenE ti.k mem (ev tm x)
        | none => none
      | _, _ => none
    | _ => none
  | _ => none

theorem Eff.pure_mem {r : AV} {m : Mem} : (Eff.mk r [] []).mr m = (fun _ => none) ∧ (Eff.mk r [] []).mw m = fun _ => none := by
  constructor <;> (funext b; simp [Eff.mr, Eff.mw, wrote])

theorem OpOk.of_pure {P : Program} {o : Oper} {tm : Nat → AV} {mem : Mem} {nm : Nat} {r : AV} (h : OpOk P o tm (fun _ => none) nm r (fun _ => none)) :
    OpOk P o tm ((Eff.mk r [] []).mr mem) nm r ((Eff.mk r [] []).mw mem) := by
  rw [Eff.pure_mem.1, Eff.pure_mem.2]; exact h

theorem absOp_sound {P : Program} {o : Oper} {tm : Nat → AV} {mem : Mem} {nm : Nat} {e : Eff} (h : absOp P o tm mem nm = some e) : OpOk P o tm (e.mr mem) nm e.res (e.mw mem) := by
  unfold absOp at h
  split at h
  · cases h; exact .of_pure (ok_move (.inl ‹_›) tm _ nm)
  · cases h; exact .of_pure (ok_move (.inr ‹_›) tm _ nm)
  · split at h
    · cases h; exact .of_pure (ok_pick ‹_› tm _ nm ‹_›)
    · cases h
  · split at h
    · cases h; exact ok_alloc ‹_› tm mem nm ‹_›
    · cases h
  · split at h
    · cases h; exact ok_box ‹_› tm mem nm ‹_›
    · cases h
  · split at h
    · exact ok_load ‹_› tm mem nm ‹_› h
    · cases h
  · split at h
    · exact ok_store ‹_› tm mem nm ‹_› h
    · cases h
  · split at h
    · split at h
      · cases h; exact .of_pure (ok_bin ‹_› tm _ nm ‹_› ‹_›)
      · cases h
    · cases h
  · split at h
    · cases h; exact .of_pure (ok_un ‹_› tm _ nm ‹_›)
    · cases h
  · split at h
    · split at h
      · split at h
        · cases h; exact .of_pure (ok_fieldAddr ‹_› tm _ nm ‹_› ‹_› ‹_›)
        · cases h
      · cases h
    · cases h
  · split at h
    · split at h
      · split at h
        · split at h
          · split at h
            · cases h; exact .of_pure (ok_field ‹_› tm _ nm ‹_› ‹_› ‹_› ‹_› ‹_› ‹_›)
            · cases h
          · cases h
        · cases h
      · cases h
    · cases h
  · split at h
    · split at h
      · split at h
        · rename_i n E hk _ _ _
          exact ok_indexAddr ‹_› tm mem nm ‹_› (.inl ⟨_, hk⟩) ‹_› (by rw [hk]; exact h)
        · cases h
      · split at h
        · rename_i E hk _ _ _
          exact ok_indexAddr ‹_› tm mem nm ‹_› (.inr hk) ‹_› (by rw [hk]; exact h)
        · cases h
      · cases h
    · cases h
  · split at h
    · split at h
      · split at h
        · split at h
          · cases h; exact .of_pure (ok_indexArr ‹_› tm _ nm ‹_› ‹_› ‹_› ‹_›)
          · cases h
        · cases h
      · split at h
        · cases h; exact .of_pure (ok_indexStr ‹_› tm _ nm ‹_› ‹_› ‹_›)
        · cases h
      · cases h
    · cases h
  · split at h
    · split at h
      · cases h; exact .of_pure (ok_extract ‹_› tm _ nm ‹_› ‹_›)
      · cases h
    · cases h
  · split at h
    · split at h
      · split at h
        · cases h; exact .of_pure (ok_build ‹_› tm _ nm ‹_› ‹_› ‹_›)
        · cases h
      · cases h
    · cases h
  · split at h
    · cases h; exact .of_pure (ok_nilCheck ‹_› tm _ nm ‹_›)
    · cases h
  · split at h
    · split at h
      · cases h; exact .of_pure (ok_makeInterface ‹_› tm _ nm ‹_› ‹_›)
      · cases h
    · cases h
  · cases h; exact .of_pure (ok_makeFunc ‹_› tm _ nm)
  · split at h
    · split at h
      · cases h; exact .of_pure (ok_min ‹_› ‹_› tm _ nm ‹_›)
      · cases h
    · split at h
      · cases h; exact .of_pure (ok_max ‹_› ‹_› tm _ nm ‹_›)
      · cases h
    · split at h
      · split at h
        · exact ok_len ‹_› ‹_› tm mem nm ‹_› ‹_› ‹_› h
        · cases h
      · cases h
    · cases h
  · cases h

end Go.AI
namespace Go.AI

/-- What is still to be run. -/
inductive It where
  | code (c : Code)
  | blk (id : Nat)
  | stop (B : X → Prop)
  | ops (ops : Array Oper) (rest : List Oper) (i : Nat) (ft : List (List Nat × List Nat)) (draw : Bool)
  | br (v : AV) (a b : Code)
  | gd (v : AV) (wa : Bool) (ops : Array Oper) (o : Oper) (rest : List Oper) (i : Nat) (ft : List (List Nat × List Nat)) (draw : Bool)
  | eff (r : Option Eff) (ops : Array Oper) (o : Oper) (rest : List Oper) (i : Nat) (ft : List (List Nat × List Nat)) (draw : Bool)

def gvv (ops : Array Oper) (g : Nat) (tm : Nat → AV) : Option Value :=
  match ops[g]? with
  | some p => match p.dst with
    | some d => match tm d with
      | .d (.v y) => some y
      | _ => none
    | none => none
  | none => none

def gbool (ops : Array Oper) (g : Nat) (tm : Nat → AV) : Option Bool :=
  match ops[g]? with
  | some p => match p.dst with
    | some d => match tm d with
      | .d (.v (.bool b)) => some b
      | _ => none
    | none => none
  | none => none

def dstOk (nt : Nat) : Option Nat → Bool
  | some d => decide (d < nt)
  | none => true

def popTo (id : Nat) : List It → Option (List It)
  | [] => none
  | .blk i :: k => if i = id then some k else popTo id k
  | _ :: k => popTo id k

def isOps : It → Bool
  | .ops _ _ _ _ _ => true
  | .br _ _ _ => true
  | .gd _ _ _ _ _ _ _ _ => true
  | .eff _ _ _ _ _ _ _ => true
  | _ => false

def clean (k : List It) : Bool := k.all fun i => !isOps i

theorem clean_popTo {id : Nat} : ∀ {k k' : List It}, clean k = true → popTo id k = some k' → clean k' = true
  | [], _, _, h => by cases h
  | .blk i :: k, k', hc, h => by
    simp only [popTo] at h
    simp only [clean, List.all_cons, Bool.and_eq_true] at hc
    split at h
    · cases h; exact hc.2
    · exact clean_popTo hc.2 h
  | .code c :: k, k', hc, h => by simp only [clean, List.all_cons, Bool.and_eq_true] at hc; exact clean_popTo hc.2 h
  | .stop c :: k, k', hc, h => by simp only [clean, List.all_cons, Bool.and_eq_true] at hc; exact clean_popTo hc.2 h
  | .ops _ _ _ _ _ :: k, k', hc, h => by simp only [clean, List.all_cons, Bool.and_eq_true] at hc; exact clean_popTo hc.2 h
  | .br _ _ _ :: k, k', hc, h => by simp only [clean, List.all_cons, Bool.and_eq_true] at hc; exact clean_popTo hc.2 h
  | .gd _ _ _ _ _ _ _ _ :: k, k', hc, h => by simp only [clean, List.all_cons, Bool.and_eq_true] at hc; exact clean_popTo hc.2 h
  | .eff _ _ _ _ _ _ _ :: k, k', hc, h => by simp only [clean, List.all_cons, Bool.and_eq_true] at hc; exact clean_popTo hc.2 h

abbrev Fin := Exit → Act → World → Prop

/-- What the things that are still to be run do with an exit. -/
def aft (E : Ctx) : List It → Fin → Fin
  | [], Q, e, a, w => Q e a w
  | .code c :: k, Q, .normal, a, w => c.wp E.P (aft E k Q) a w
  | .code _ :: k, Q, e, a, w => aft E k Q e a w
  | .blk id :: k, Q, .exit i, a, w => if i = id then aft E k Q .normal a w else aft E k Q (.exit i) a w
  | .blk _ :: k, Q, e, a, w => aft E k Q e a w
  | .stop B :: _, _, .normal, a, w => ∃ x, Rel E x.den a w ∧ B x
  | .stop _ :: k, Q, e, a, w => aft E k Q e a w
  | .ops _ _ _ _ _ :: k, Q, e, a, w => aft E k Q e a w
  | .br _ _ _ :: k, Q, e, a, w => aft E k Q e a w
  | .gd _ _ _ _ _ _ _ _ :: k, Q, e, a, w => aft E k Q e a w
  | .eff _ _ _ _ _ _ _ :: k, Q, e, a, w => aft E k Q e a w

def finOf (E : Ctx) (R : Exit → X → Prop) : Fin := fun e a w => ∃ x, Rel E x.den a w ∧ R e x

/-- What the body of a loop must do. -/
def LoopW (P : Program) (nt : Nat) (R : Exit → X → Prop) (body : Code) (k : List It) (x : X) : Prop :=
  ∀ E : Ctx, E.P = P → E.nt = nt → ∀ a w, Rel E x.den a w → (Code.loop body).wp P (aft E k (finOf E R)) a w

/-- WHERE A CALL, OR WHAT IS NOT WORKED OUT BY PROGRAM, STANDS NEXT: an effect is wanted. -/
inductive CW (P : Program) (nt : Nat) (R : Exit → X → Prop) : List It → X → Prop
  | fin {x : X} (h : R .normal x) : CW P nt R [] x
  | stop {B : X → Prop} {k : List It} {x : X} (h : B x) : CW P nt R (.stop B :: k) x
  | blk {id : Nat} {k : List It} {x : X} (h : CW P nt R k x) : CW P nt R (.blk id :: k) x
  | skip {k : List It} {x : X} (h : CW P nt R k x) : CW P nt R (.code .skip :: k) x
  | label {l : Nat} {k : List It} {x : X} (h : CW P nt R k x) : CW P nt R (.code (.label l) :: k) x
  | seq {c d : Code} {k : List It} {x : X} (h : CW P nt R (.code c :: .code d :: k) x) : CW P nt R (.code (.seq c d) :: k) x
  | block {id : Nat} {c : Code} {k : List It} {x : X} (h : CW P nt R (.code c :: .blk id :: k) x) : CW P nt R (.code (.block id c) :: k) x
  | cond {o : Operand} {c d : Code} {k : List It} {x : X} {t : Bool} (ho : ev (lookT x.tm) o = .d (.v (.bool t)))
      (h1 : t = true → CW P nt R (.code c :: k) x) (h2 : t = false → CW P nt R (.code d :: k) x) : CW P nt R (.code (.cond o c d) :: k) x
  | exit {id : Nat} {k k' : List It} {x : X} (hp : popTo id k = some k') (h : CW P nt R k' x) : CW P nt R (.code (.exit id) :: k) x
  | ret {k : List It} {x : X} (h : R .ret x) : CW P nt R (.code .ret :: k) x
  | loop {c : Code} {k : List It} {x : X} (h : LoopW P nt R c k x) : CW P nt R (.code (.loop c) :: k) x
  | region {id : Nat} {ops : Array Oper} {draw : Bool} {k : List It} {x : X} (h : CW P nt R (.ops ops ops.toList 0 [] draw :: k) x) : CW P nt R (.code (.region id ops draw) :: k) x
  | opEnd {ops : Array Oper} {i : Nat} {ft : List (List Nat × List Nat)} {draw : Bool} {k : List It} {x : X} (hd : draw = true → ∃ pre, drawOk ops pre = true ∧ footOk pre ft = true)
      (h : CW P nt R k ⟨x.tm, x.mm, x.nx + 64 * i⟩) : CW P nt R (.ops ops [] i ft draw :: k) x
  | op {ops : Array Oper} {o : Oper} {rest : List Oper} {i : Nat} {ft : List (List Nat × List Nat)} {draw : Bool} {k : List It} {x : X} (e : Eff) (hdst : dstOk nt o.dst = true)
      (hg : o.guard = none ∨ ∃ g wa, o.guard = some (g, wa) ∧ gbool ops g (lookT x.tm) = some wa)
      (he : OpOk P o (lookT x.tm) (e.mr (lookM x.mm)) (x.nx + 64 * i) e.res (e.mw (lookM x.mm)))
      (h : CW P nt R (.ops ops rest (i + 1) (ft ++ [e.foot]) draw :: k) (x.app o.dst e)) : CW P nt R (.ops ops (o :: rest) i ft draw :: k) x
  | opSkip {ops : Array Oper} {o : Oper} {rest : List Oper} {i : Nat} {ft : List (List Nat × List Nat)} {draw : Bool} {k : List It} {x : X} {g : Nat} {wa : Bool} {y : Value} (hdst : dstOk nt o.dst = true)
      (hg : o.guard = some (g, wa)) (hb : gvv ops g (lookT x.tm) = some y) (hne : yb y ≠ some wa)
      (h : CW P nt R (.ops ops rest (i + 1) (ft ++ [([], [])]) draw :: k) (x.app o.dst ⟨.d (.v undef), [], []⟩)) : CW P nt R (.ops ops (o :: rest) i ft draw :: k) x
  | weak {k : List It} {x y : X} (hk : clean k = true) (hs : ∀ (E : Ctx) a w, Rel E x.den a w → Rel E y.den a w) (h : CW P nt R k y) : CW P nt R k x
  | cut {k : List It} {x : X} (hk : clean k = true) (h : ∀ E : Ctx, E.P = P → E.nt = nt → ∀ a w, Rel E x.den a w → aft E k (finOf E R) .normal a w) : CW P nt R k x

theorem aft_popTo {E : Ctx} {Q : Fin} {id : Nat} {a : Act} {w : World} : ∀ {k k' : List It}, popTo id k = some k' → aft E k' Q .normal a w → aft E k Q (.exit id) a w
  | [], _, h, _ => by cases h
  | .blk i :: k, k', h, hq => by
    simp only [popTo] at h
    split at h
    · rename_i e; cases h; subst e; simp [aft]; exact hq
    · rename_i e
      have : id ≠ i := fun x => e x.symm
      simp only [aft, if_neg this]
      exact aft_popTo h hq
  | .code c :: k, k', h, hq => by simp only [popTo] at h; simp only [aft]; exact aft_popTo h hq
  | .stop c :: k, k', h, hq => by simp only [popTo] at h; simp only [aft]; exact aft_popTo h hq
  | .ops _ _ _ _ _ :: k, k', h, hq => by simp only [popTo] at h; simp only [aft]; exact aft_popTo h hq
  | .br _ _ _ :: k, k', h, hq => by simp only [popTo] at h; simp only [aft]; exact aft_popTo h hq
  | .gd _ _ _ _ _ _ _ _ :: k, k', h, hq => by simp only [popTo] at h; simp only [aft]; exact aft_popTo h hq
  | .eff _ _ _ _ _ _ _ :: k, k', h, hq => by simp only [popTo] at h; simp only [aft]; exact aft_popTo h hq

theorem wp_mono' {P : Program} {c : Code} {Q Q' : Fin} {a : Act} {w : World} (h : c.wp P Q a w) (hq : ∀ e a w, Q e a w → Q' e a w) : c.wp P Q' a w := wp_mono h hq

theorem aft_ret {E : Ctx} {Q : Fin} {a : Act} {w : World} : ∀ (k : List It), Q .ret a w → aft E k Q .ret a w
  | [], h => h
  | .code _ :: k, h => by simp only [aft]; exact aft_ret k h
  | .blk _ :: k, h => by simp only [aft]; exact aft_ret k h
  | .stop _ :: k, h => by simp only [aft]; exact aft_ret k h
  | .ops _ _ _ _ _ :: k, h => by simp only [aft]; exact aft_ret k h
  | .br _ _ _ :: k, h => by simp only [aft]; exact aft_ret k h
  | .gd _ _ _ _ _ _ _ _ :: k, h => by simp only [aft]; exact aft_ret k h
  | .eff _ _ _ _ _ _ _ :: k, h => by simp only [aft]; exact aft_ret k h

theorem gvv_spec {ops : Array Oper} {g : Nat} {tm : Nat → AV} {y : Value} (h : gvv ops g tm = some y) : ∃ p d, ops[g]? = some p ∧ p.dst = some d ∧ tm d = .d (.v y) := by
  unfold gvv at h
  split at h
  · rename_i p hp
    split at h
    · rename_i d hd
      split at h
      · rename_i z hz
        cases h
        exact ⟨p, d, hp, hd, hz⟩
      · cases h
    · cases h
  · cases h

theorem gbool_spec {ops : Array Oper} {g : Nat} {tm : Nat → AV} {b : Bool} (h : gbool ops g tm = some b) : ∃ p d, ops[g]? = some p ∧ p.dst = some d ∧ tm d = .d (.v (.bool b)) := by
  unfold gbool at h
  split at h
  · split at h
    · split at h
      · cases h; exact ⟨_, _, ‹_›, ‹_›, ‹_›⟩
      · cases h
    · cases h
  · cases h

theorem Rel.fr {E : Ctx} {s s' : S} {a : Act} {w : World} (h : Rel E s a w) (h1 : s'.tm = s.tm) (h2 : s'.mm = s.mm) (h3 : ∀ b, s'.fr b → s.fr b) : Rel E s' a w := by
  obtain ⟨σ, I, h⟩ := h
  refine ⟨σ, I, h.size, h.dfs, by rw [h1]; exact h.tm, by rw [h2]; exact h.mm, fun b hb => h.free b (h3 b hb), h.ib, h.i0, h.inew, by rw [h2]; exact h.mine, h.os, h.tape, h.output, h.hs, h.frame⟩

/-- The run of a region, as far as it has come. -/
def regSt (E : Ctx) (ops : Array Oper) (s0 : S) (nx : Nat) (tr : List Eff) (i : Nat) (x : X) : Prop :=
  tr.length = i ∧ x.nx = nx ∧ x.den.tm = (after ops (fun j => tr.getD j ⟨.any, [], []⟩) nx s0 (fun _ => true) i).tm ∧
    x.den.mm = (after ops (fun j => tr.getD j ⟨.any, [], []⟩) nx s0 (fun _ => true) i).mm ∧
    ∀ j o, j < i → ops[j]? = some o → OkAt E ops o (after ops (fun j => tr.getD j ⟨.any, [], []⟩) nx s0 (fun _ => true) j) (nx + 64 * j) (tr.getD j ⟨.any, [], []⟩)

theorem after_tr {ops : Array Oper} {nx : Nat} {s0 : S} {tr tr' : List Eff} : ∀ (i : Nat), (∀ j, j < i → tr.getD j ⟨.any, [], []⟩ = tr'.getD j ⟨.any, [], []⟩) →
    after ops (fun j => tr.getD j ⟨.any, [], []⟩) nx s0 (fun _ => true) i = after ops (fun j => tr'.getD j ⟨.any, [], []⟩) nx s0 (fun _ => true) i
  | 0, _ => rfl
  | i + 1, h => by
    simp only [after, if_true, h i (by omega)]
    rw [after_tr i (fun j hj => h j (by omega))]

theorem regSt.next {E : Ctx} {ops : Array Oper} {s0 : S} {nx : Nat} {tr : List Eff} {i : Nat} {x : X} (h : regSt E ops s0 nx tr i x) {o : Oper} (ho : ops[i]? = some o) {e : Eff}
    (hok : OkAt E ops o (after ops (fun j => tr.getD j ⟨.any, [], []⟩) nx s0 (fun _ => true) i) (nx + 64 * i) e) : regSt E ops s0 nx (tr ++ [e]) (i + 1) (x.app o.dst e) := by
  obtain ⟨h1, h2, h3, h4, h5⟩ := h
  have hold : ∀ j, j < i → (tr ++ [e]).getD j ⟨.any, [], []⟩ = tr.getD j ⟨.any, [], []⟩ := fun j hj => by
    simp [List.getD, List.getElem?_append_left (show j < tr.length by omega)]
  have hnew : (tr ++ [e]).getD i ⟨.any, [], []⟩ = e := by
    simp [List.getD, ← h1]
  have ha : ∀ j, j ≤ i → after ops (fun j => (tr ++ [e]).getD j ⟨.any, [], []⟩) nx s0 (fun _ => true) j = after ops (fun j => tr.getD j ⟨.any, [], []⟩) nx s0 (fun _ => true) j :=
    fun j hj => after_tr j (fun q hq => hold q (by omega))
  refine ⟨by simp [h1], h2, ?_, ?_, fun j o' hj hj' => ?_⟩
  · rw [(X.den_app x o.dst e).1]
    simp only [after, if_true, ha i (Nat.le_refl _), ho, Option.bind_some, S.app, hnew, h3]
  · rw [(X.den_app x o.dst e).2]
    simp only [after, if_true, ha i (Nat.le_refl _), ho, Option.bind_some, S.app, hnew, h4]
  · rw [ha j (by omega)]
    by_cases e' : j = i
    · subst e'
      rw [ho] at hj'; cases hj'
      rw [hnew]; exact hok
    · rw [hold j (by omega)]
      exact h5 j o' (by omega) hj'

theorem CW_sound {P : Program} {nt : Nat} {R : Exit → X → Prop} (hm : P.follows .mixedOrders = true) {k : List It} {x : X} (h : CW P nt R k x) :
    ∀ E : Ctx, E.P = P → E.nt = nt →
      ((clean k = true → ∀ a w, Rel E x.den a w → aft E k (finOf E R) .normal a w) ∧
       ∀ ops rest i ft draw k', k = .ops ops rest i ft draw :: k' → clean k' = true → ∀ tr s0 nx, tr.map Eff.foot = ft → ops.toList.drop i = rest → i ≤ ops.size → regSt E ops s0 nx tr i x → (∀ b, nx ≤ b → s0.fr b) →
         ∀ a w id, Rel E s0 a w → (Code.region id ops draw).wp P (aft E k' (finOf E R)) a w) := by
  induction h with
  | fin h => exact fun E hP hn => ⟨fun _ a w hr => ⟨_, hr, h⟩, fun _ _ _ _ _ _ h => by cases h⟩
  | stop h => exact fun E hP hn => ⟨fun _ a w hr => ⟨_, hr, h⟩, fun _ _ _ _ _ _ h => by cases h⟩
  | blk h ih => exact fun E hP hn => ⟨fun hc a w hr => (ih E hP hn).1 (by simpa [clean, isOps] using hc) a w hr, fun _ _ _ _ _ _ h => by cases h⟩
  | skip h ih => exact fun E hP hn => ⟨fun hc a w hr => wp_skip ((ih E hP hn).1 (by simpa [clean, isOps] using hc) a w hr), fun _ _ _ _ _ _ h => by cases h⟩
  | label h ih => exact fun E hP hn => ⟨fun hc a w hr => wp_label ((ih E hP hn).1 (by simpa [clean, isOps] using hc) a w hr), fun _ _ _ _ _ _ h => by cases h⟩
  | @seq c d k x h ih =>
    refine fun E hP hn => ⟨fun hc a w hr => wp_seq ?_, fun _ _ _ _ _ _ h => by cases h⟩
    have := (ih E hP hn).1 (by simpa [clean, isOps] using hc) a w hr
    simp only [aft] at this
    refine wp_mono this (fun e a w h => ?_)
    cases e <;> simp only [aft, Exit.then] at h ⊢ <;> exact h
  | @block id c k x h ih =>
    refine fun E hP hn => ⟨fun hc a w hr => wp_block ?_, fun _ _ _ _ _ _ h => by cases h⟩
    have := (ih E hP hn).1 (by simpa [clean, isOps] using hc) a w hr
    simp only [aft] at this
    refine wp_mono this (fun e a w h => ?_)
    cases e <;> simp only [aft, Exit.inBlock] at h ⊢ <;> exact h
  | @cond o c d k x t ho h1 h2 ih1 ih2 =>
    refine fun E hP hn => ⟨fun hc a w hr => ?_, fun _ _ _ _ _ _ h => by cases h⟩
    have hv : a.eval o = .bool t := by
      obtain ⟨σ, I, hr⟩ := hr
      exact RV_bool (ho ▸ RV_ev (tm := x.den.tm) fun s e => hr.tm s)
    cases t with
    | true => exact wp_cond_true hv ((ih1 rfl E hP hn).1 (by simpa [clean, isOps] using hc) a w hr)
    | false => exact wp_cond_false hv ((ih2 rfl E hP hn).1 (by simpa [clean, isOps] using hc) a w hr)
  | exit hp h ih => exact fun E hP hn => ⟨fun hc a w hr => wp_exit (aft_popTo hp ((ih E hP hn).1 (clean_popTo (by simpa [clean, isOps] using hc) hp) a w hr)), fun _ _ _ _ _ _ h => by cases h⟩
  | ret h => exact fun E hP hn => ⟨fun _ a w hr => wp_ret (by exact aft_ret _ ⟨_, hr, h⟩), fun _ _ _ _ _ _ h => by cases h⟩
  | loop h => exact fun E hP hn => ⟨fun _ a w hr => by subst hP; exact h E rfl hn a w hr, fun _ _ _ _ _ _ h => by cases h⟩
  | @region id ops draw k x h ih =>
    refine fun E hP hn => ⟨fun hc a w hr => ?_, fun _ _ _ _ _ _ h => by cases h⟩
    have := (ih E hP hn).2 ops ops.toList 0 [] draw k rfl (by simpa [clean, isOps] using hc) [] x.den x.nx rfl rfl (Nat.zero_le _) ⟨rfl, rfl, rfl, rfl, fun j o hj => by omega⟩ (fun b hb => hb) a w id hr
    subst hP
    exact this
  | @opEnd ops i ft draw k x hd h ih =>
    refine fun E hP hn => ⟨fun hc => by simp [clean, isOps] at hc, fun ops' rest' i' ft' draw' k' he hc tr s0 nx hft hdrop hle hst hfr a w id hr => ?_⟩
    cases he; subst hft
    have hi : i = ops.size := by
      have := congrArg List.length hdrop
      simp at this; omega
    subst hi
    obtain ⟨g1, g2, g3, g4, g5⟩ := hst
    subst hP
    have hok : ∀ j o, ops[j]? = some o → OkAt E ops o (after ops (fun j => tr.getD j ⟨.any, [], []⟩) nx s0 (fun _ => true) j) (nx + 64 * j) (tr.getD j ⟨.any, [], []⟩) :=
      fun j o hj => g5 j o (Array.getElem?_eq_some_iff.1 hj).1 hj
    have hQ : ∀ a w, Rel E (after ops (fun j => tr.getD j ⟨.any, [], []⟩) nx s0 (fun _ => true) ops.size) a w → aft E k (finOf E R) .normal a w := by
      intro a w hr'
      refine (ih E rfl hn).1 hc a w (hr'.fr g3 g4 (fun b hb => ?_))
      rw [after_fr]
      have hb' : x.nx + 64 * ops.size ≤ b := hb
      rw [g2] at hb'
      exact ⟨hfr b (by omega), fun j hj _ hf => by have := hf.2; omega⟩
    cases draw with
    | false => exact region_seq hok hfr hr hQ
    | true =>
      obtain ⟨pre, q1, q2⟩ := hd rfl
      exact region_any hm _ (drawOk_preOk q1) (draw_apart q1 g1 q2) hok hfr hr hQ
  | @op ops o rest i ft draw k x e hdst hg he h ih =>
    refine fun E hP hn => ⟨fun hc => by simp [clean, isOps] at hc, fun ops' rest' i' ft' draw' k' hee hc tr s0 nx hft hdrop hle hst hfr a w id hr => ?_⟩
    cases hee; subst hft
    have hlt : i < ops.size := by
      have := congrArg List.length hdrop
      simp at this; omega
    have ho : ops[i]? = some o := by
      have : (ops.toList.drop i)[0]? = some o := by rw [hdrop]; rfl
      simpa using this
    have hdrop' : ops.toList.drop (i + 1) = rest := by
      have := congrArg List.tail hdrop
      simpa [List.tail_drop] using this
    refine (ih E hP hn).2 ops rest (i + 1) _ draw k rfl hc (tr ++ [e]) s0 nx (by simp) hdrop' hlt (hst.next ho ?_) hfr a w id hr
    subst hP; subst hn
    obtain ⟨g1, g2, g3, g4, g5⟩ := hst
    refine ⟨fun d hd => by simpa [dstOk, hd] using hdst, ?_⟩
    rw [← g3, ← g4, ← g2]
    rcases hg with hg | ⟨g, wa, hg, hb⟩
    · exact .inl ⟨hg, he⟩
    · obtain ⟨p, d, p1, p2, p3⟩ := gbool_spec hb
      exact .inr ⟨g, wa, p, d, .bool wa, hg, p1, p2, p3, .inl ⟨rfl, he⟩⟩
  | @opSkip ops o rest i ft draw k x g wa y hdst hg hb hne h ih =>
    refine fun E hP hn => ⟨fun hc => by simp [clean, isOps] at hc, fun ops' rest' i' ft' draw' k' hee hc tr s0 nx hft hdrop hle hst hfr a w id hr => ?_⟩
    cases hee; subst hft
    have hlt : i < ops.size := by
      have := congrArg List.length hdrop
      simp at this; omega
    have ho : ops[i]? = some o := by
      have : (ops.toList.drop i)[0]? = some o := by rw [hdrop]; rfl
      simpa using this
    have hdrop' : ops.toList.drop (i + 1) = rest := by
      have := congrArg List.tail hdrop
      simpa [List.tail_drop] using this
    refine (ih E hP hn).2 ops rest (i + 1) _ draw k rfl hc (tr ++ [⟨.d (.v undef), [], []⟩]) s0 nx (by simp [Eff.foot]) hdrop' hlt (hst.next ho ?_) hfr a w id hr
    subst hP; subst hn
    obtain ⟨g1, g2, g3, g4, g5⟩ := hst
    refine ⟨fun d hd => by simpa [dstOk, hd] using hdst, ?_⟩
    obtain ⟨p, d, p1, p2, p3⟩ := gvv_spec hb
    refine .inr ⟨g, wa, p, d, y, hg, p1, p2, ?_, .inr ⟨hne, rfl⟩⟩
    rw [← g3]; exact p3
  | weak hk hs h ih =>
    refine fun E hP hn => ⟨fun hc a w hr => (ih E hP hn).1 hc a w (hs E a w hr), fun ops' rest' i' tr' draw' k' hee => ?_⟩
    subst hee; simp [clean, isOps] at hk
  | cut hk h =>
    refine fun E hP hn => ⟨fun hc a w hr => h E hP hn a w hr, fun ops' rest' i' tr' draw' k' hee => ?_⟩
    subst hee; simp [clean, isOps] at hk

end Go.AI
namespace Go.AI

/-- What is asked of a region that draws, by program. -/
def DrawSide (ops : Array Oper) (ft : List (List Nat × List Nat)) : Prop := drawOk ops (preL ops.toList) = true ∧ footOk (preL ops.toList) ft = true

instance (ops : Array Oper) (ft : List (List Nat × List Nat)) : Decidable (DrawSide ops ft) := inferInstanceAs (Decidable (_ ∧ _))

def gval (ops : Array Oper) (g : Nat) (tm : Nat → AV) : AV :=
  match ops[g]? with
  | some p => match p.dst with
    | some d => tm d
    | none => .any
  | none => .any

/-- THE WALK: as far as it goes by program. -/
def run (P : Program) (nt : Nat) (R : Exit → X → Prop) : Nat → List It → X → Prop
  | 0, _, _ => False
  | _ + 1, [], x => R .normal x
  | _ + 1, .stop B :: _, x => B x
  | n + 1, .blk _ :: k, x => run P nt R n k x
  | n + 1, .br v a b :: k, x => match v with
    | .d (.v (.bool true)) => run P nt R n (.code a :: k) x
    | .d (.v (.bool false)) => run P nt R n (.code b :: k) x
    | _ => False
  | n + 1, .ops ops rest i ft d :: k, x => match rest with
    | [] => if d then (DrawSide ops ft ∧ run P nt R n k ⟨x.tm, x.mm, x.nx + 64 * i⟩) else run P nt R n k ⟨x.tm, x.mm, x.nx + 64 * i⟩
    | o :: rest => match o.guard with
      | none => run P nt R n (.eff (absOp P o (lookT x.tm) (lookM x.mm) (x.nx + 64 * i)) ops o rest i ft d :: k) x
      | some (g, wa) => run P nt R n (.gd (gval ops g (lookT x.tm)) wa ops o rest i ft d :: k) x
  | n + 1, .gd v wa ops o rest i ft d :: k, x => match v with
    | .d (.v (.bool true)) => if wa then run P nt R n (.eff (absOp P o (lookT x.tm) (lookM x.mm) (x.nx + 64 * i)) ops o rest i ft d :: k) x
      else (dstOk nt o.dst = true ∧ run P nt R n (.ops ops rest (i + 1) (ft ++ [([], [])]) d :: k) (x.app o.dst ⟨.d (.v undef), [], []⟩))
    | .d (.v (.bool false)) => if wa then (dstOk nt o.dst = true ∧ run P nt R n (.ops ops rest (i + 1) (ft ++ [([], [])]) d :: k) (x.app o.dst ⟨.d (.v undef), [], []⟩))
      else run P nt R n (.eff (absOp P o (lookT x.tm) (lookM x.mm) (x.nx + 64 * i)) ops o rest i ft d :: k) x
    | .d (.v (.tuple _)) => dstOk nt o.dst = true ∧ run P nt R n (.ops ops rest (i + 1) (ft ++ [([], [])]) d :: k) (x.app o.dst ⟨.d (.v undef), [], []⟩)
    | _ => False
  | n + 1, .eff r ops o rest i ft d :: k, x => match r with
    | some e => dstOk nt o.dst = true ∧ run P nt R n (.ops ops rest (i + 1) (ft ++ [e.foot]) d :: k) (x.app o.dst e)
    | none => CW P nt R (.ops ops (o :: rest) i ft d :: k) x
  | n + 1, .code c :: k, x => match c with
    | .skip => run P nt R n k x
    | .label _ => run P nt R n k x
    | .seq a b => run P nt R n (.code a :: .code b :: k) x
    | .block id a => run P nt R n (.code a :: .blk id :: k) x
    | .cond o a b => run P nt R n (.br (ev (lookT x.tm) o) a b :: k) x
    | .region _ ops d => run P nt R n (.ops ops ops.toList 0 [] d :: k) x
    | .ret => R .ret x
    | .exit id => match popTo id k with
      | some k' => run P nt R n k' x
      | none => False
    | .loop a => LoopW P nt R a k x
    | _ => False

/-- What a head of a list stands for. -/
def headOk (P : Program) (nt : Nat) (R : Exit → X → Prop) (x : X) : List It → Prop
  | .br v a b :: k => ∀ o, ev (lookT x.tm) o = v → CW P nt R (.code (.cond o a b) :: k) x
  | .gd v wa ops o rest i ft d :: k => ∀ g, o.guard = some (g, wa) → gval ops g (lookT x.tm) = v → CW P nt R (.ops ops (o :: rest) i ft d :: k) x
  | .eff r ops o rest i ft d :: k => (o.guard = none ∨ ∃ g wa, o.guard = some (g, wa) ∧ gbool ops g (lookT x.tm) = some wa) → absOp P o (lookT x.tm) (lookM x.mm) (x.nx + 64 * i) = r → CW P nt R (.ops ops (o :: rest) i ft d :: k) x
  | k => CW P nt R k x

theorem gvv_of_gval {ops : Array Oper} {g : Nat} {tm : Nat → AV} {y : Value} (h : gval ops g tm = .d (.v y)) : gvv ops g tm = some y := by
  unfold gval at h
  unfold gvv
  split at h
  · split at h
    · rw [h]
    · cases h
  · cases h

theorem gbool_of_gval {ops : Array Oper} {g : Nat} {tm : Nat → AV} {b : Bool} (h : gval ops g tm = .d (.v (.bool b))) : gbool ops g tm = some b := by
  unfold gval at h
  unfold gbool
  split at h
  · split at h
    · simp [*]
    · cases h
  · cases h

def good : List It → Bool
  | [] => true
  | _ :: k => clean k

theorem good_of_clean : ∀ {k : List It}, clean k = true → good k = true
  | [], _ => rfl
  | _ :: k, h => by simp only [clean, List.all_cons, Bool.and_eq_true] at h; exact h.2

theorem CW_of_head {P : Program} {nt : Nat} {R : Exit → X → Prop} {x : X} : ∀ {k : List It}, clean k = true → headOk P nt R x k → CW P nt R k x
  | [], _, h => h
  | .stop _ :: _, _, h => h
  | .blk _ :: _, _, h => h
  | .code _ :: _, _, h => h
  | .ops _ _ _ _ _ :: _, _, h => h
  | .br _ _ _ :: _, h, _ => by simp [clean, isOps] at h
  | .gd _ _ _ _ _ _ _ _ :: _, h, _ => by simp [clean, isOps] at h
  | .eff _ _ _ _ _ _ _ :: _, h, _ => by simp [clean, isOps] at h

theorem run_sound {P : Program} {nt : Nat} {R : Exit → X → Prop} : ∀ (n : Nat) (k : List It) (x : X), good k = true → run P nt R n k x → headOk P nt R x k := by
  intro n
  induction n with
  | zero => intro k x _ h; exact h.elim
  | succ n ih =>
    intro k x hg h
    match k, hg, h with
    | [], _, h => exact .fin h
    | .stop B :: k, _, h => exact .stop h
    | .blk id :: k, hg, h => exact .blk (CW_of_head hg (ih k x (good_of_clean hg) h))
    | .br v a b :: k, hg, h =>
      intro o ho
      simp only [run] at h
      split at h
      · exact .cond ho (fun _ => ih _ x (by exact hg) h) (fun e => by cases e)
      · exact .cond ho (fun e => by cases e) (fun _ => ih _ x (by exact hg) h)
      · exact h.elim
    | .ops ops rest i ft d :: k, hg, h =>
      simp only [run] at h
      split at h
      · split at h
        · exact .opEnd (fun _ => ⟨_, h.1.1, h.1.2⟩) (CW_of_head hg (ih k _ (good_of_clean hg) h.2))
        · rename_i hd
          exact .opEnd (fun e => absurd e (by simpa using hd)) (CW_of_head hg (ih k _ (good_of_clean hg) h))
      · split at h
        · exact ih _ x (by exact hg) h (.inl ‹_›) rfl
        · exact ih _ x (by exact hg) h _ ‹_› rfl
    | .gd v wa ops o rest i ft d :: k, hg, h =>
      intro g hgd hv
      simp only [run] at h
      split at h
      · split at h
        · rename_i hwa
          exact ih _ x (by exact hg) h (.inr ⟨g, wa, hgd, by rw [gbool_of_gval hv, hwa]⟩) rfl
        · rename_i hwa
          exact .opSkip h.1 hgd (gvv_of_gval hv) (by intro e; simp only [yb, Option.some.injEq] at e; exact hwa e.symm) (ih _ _ (by exact hg) h.2)
      · split at h
        · rename_i hwa
          exact .opSkip h.1 hgd (gvv_of_gval hv) (by intro e; rw [hwa] at e; cases e) (ih _ _ (by exact hg) h.2)
        · rename_i hwa
          refine ih _ x (by exact hg) h (.inr ⟨g, wa, hgd, ?_⟩) rfl
          rw [gbool_of_gval hv]
          cases wa
          · rfl
          · exact absurd rfl hwa
      · exact .opSkip h.1 hgd (gvv_of_gval hv) (by intro e; cases e) (ih _ _ (by exact hg) h.2)
      · exact h.elim
    | .eff r ops o rest i ft d :: k, hg, h =>
      intro hgd hr
      simp only [run] at h
      split at h
      · exact .op _ h.1 hgd (absOp_sound hr) (ih _ _ (by exact hg) h.2)
      · exact h
    | .code c :: k, hg, h =>
      have hck : ∀ c', clean (.code c' :: k) = true := fun c' => by simp only [clean, List.all_cons, isOps, Bool.not_false, Bool.true_and]; exact hg
      simp only [run] at h
      split at h
      · exact .skip (CW_of_head hg (ih k x (good_of_clean hg) h))
      · exact .label (CW_of_head hg (ih k x (good_of_clean hg) h))
      · exact .seq (ih _ x (by exact hck _) h)
      · exact .block (ih _ x (by simp only [good, clean, List.all_cons, isOps, Bool.not_false, Bool.true_and]; exact hg) h)
      · rename_i o a b
        exact ih _ x (by exact hg) h o rfl
      · exact .region (ih _ x (by exact hg) h)
      · exact .ret h
      · split at h
        · rename_i k' hp
          exact .exit hp (CW_of_head (clean_popTo hg hp) (ih _ x (good_of_clean (clean_popTo hg hp)) h))
        · exact h.elim
      · exact .loop h
      · exact h.elim

theorem CW.run {P : Program} {nt : Nat} {R : Exit → X → Prop} (n : Nat) {k : List It} {x : X} (hc : clean k = true) (h : AI.run P nt R n k x) : CW P nt R k x :=
  CW_of_head hc (run_sound n k x (good_of_clean hc) h)

theorem CW.runOps {P : Program} {nt : Nat} {R : Exit → X → Prop} (n : Nat) {ops : Array Oper} {rest : List Oper} {i : Nat} {ft : List (List Nat × List Nat)} {d : Bool} {k : List It} {x : X} (hc : clean k = true)
    (h : AI.run P nt R n (.ops ops rest i ft d :: k) x) : CW P nt R (.ops ops rest i ft d :: k) x :=
  run_sound n _ x (by exact hc) h

/-- A test that is not decided. -/
theorem run_br {P : Program} {nt : Nat} {R : Exit → X → Prop} {n : Nat} {t : Bool} {a b : Code} {k : List It} {x : X} (h1 : t = true → run P nt R n (.code a :: k) x) (h2 : t = false → run P nt R n (.code b :: k) x) :
    run P nt R (n + 1) (.br (.d (.v (.bool t))) a b :: k) x := by
  cases t
  · exact h2 rfl
  · exact h1 rfl

-- CONTRACTS
def nfA : AV → Bool
  | .d _ => true
  | .any => true
  | .agg cs => nfL cs
  | .tup cs => nfL cs
  | .fn _ a b => nfL a && nfL b
  | .ifc _ x => nfA x
  | _ => false
where nfL : List AV → Bool
  | [] => true
  | x :: r => nfA x && nfL r

theorem nfL_get : ∀ {l : List AV}, nfA.nfL l = true → ∀ (i : Nat) c, l[i]? = some c → nfA c = true
  | [], _, i, c, h => by simp at h
  | x :: r, hn, i, c, h => by
    simp only [nfA.nfL, Bool.and_eq_true] at hn
    cases i with
    | zero => simp at h; rw [← h]; exact hn.1
    | succ i => exact nfL_get hn.2 i c (by simpa using h)

abbrev noN : Names := fun _ => none
abbrev noM : Mem := fun _ => none

theorem RV_nf {σ σ' : Names} {I : Nat → Prop} {w : World} {x : AV} {v : Value} (h : RV σ I w x v) (hn : nfA x = true) : RV σ' I w x v := by
  induction h with
  | d h => exact .d h
  | any y => exact .any y
  | ptr _ => cases hn
  | own _ _ => cases hn
  | prow _ => cases hn
  | sl _ _ _ => cases hn
  | agg hl _ ih =>
    simp only [nfA] at hn
    exact .agg hl (fun i c x h1 h2 => ih i c x h1 h2 (nfL_get hn i c h1))
  | tup hl _ ih =>
    simp only [nfA] at hn
    exact .tup hl (fun i c x h1 h2 => ih i c x h1 h2 (nfL_get hn i c h1))
  | fn hx hy _ _ i1 i2 =>
    simp only [nfA, Bool.and_eq_true] at hn
    exact .fn hx hy (fun i c x h1 h2 => i1 i c x h1 h2 (nfL_get hn.1 i c h1)) (fun i c x h1 h2 => i2 i c x h1 h2 (nfL_get hn.2 i c h1))
  | ifc _ ih =>
    simp only [nfA] at hn
    exact .ifc (ih hn)

/-- What is so of one is so of the other, and the other needs no names. -/
def Sub (a b : AV) : Prop := ∀ (σ : Names) (I : Nat → Prop) (w : World) (v : Value), RV σ I w a v → RV noN I w b v

theorem Sub.refl {a : AV} (h : nfA a = true) : Sub a a := fun _ _ _ _ hv => RV_nf hv h

theorem Sub.of_eq {a b : AV} (h : a = b) (hb : nfA b = true) : Sub a b := by subst h; exact Sub.refl hb

/-- A FUNCTION THAT CHANGES NOTHING THAT WAS THERE: of values without names it makes a value without names. -/
def CtP (P : Program) (f : FuncId) (args : List AV) (res : AV) : Prop :=
  ∀ (I : Nat → Prop) (w : World) (vs : List Value), (∀ n, I n → n < w.heap.size) → vs.length = args.length →
    (∀ (i : Nat) c x, args[i]? = some c → vs[i]? = some x → RV noN I w c x) →
    Calls P f vs.toArray w fun e w' => ∃ v I', e = .returned v ∧ Post noN I w noM 0 noN I' w' noM ∧ RV noN I' w' res v

def resA (P : Program) (x : X) : List ResultVar → Option (List AV)
  | [] => some []
  | .tmp t :: r => (resA P x r).map fun l => lookT x.tm t :: l
  | .cell a T :: r => match tiOf P T with
    | some ti => match loadE ti.agg ti.sz (lookM x.mm) (lookT x.tm a), resA P x r with
      | some e, some l => some (e.res :: l)
      | _, _ => none
    | none => none

def outA (P : Program) (fn : Func) (x : X) : Option AV :=
  match resA P x fn.results.toList with
  | some [r] => some r
  | some l => some (.tup l)
  | none => none

def initT : Nat → List AV → List (Nat × AV)
  | _, [] => []
  | i, a :: r => (i, a) :: initT (i + 1) r

theorem lookT_initT : ∀ (l : List AV) (i t : Nat), lookT (initT i l) t = if i ≤ t then (l[t - i]?).getD .any else .any
  | [], i, t => by simp [initT, lookT]
  | a :: r, i, t => by
    simp only [initT, lookT, lookT_initT r (i + 1) t]
    by_cases e : i = t
    · subst e; simp
    · by_cases h : i ≤ t
      · have : t - i = (t - (i + 1)) + 1 := by omega
        simp [e, h, show i + 1 ≤ t by omega, this]
      · simp [e, h, show ¬ i + 1 ≤ t by omega]

def RetA (res : AV) : Option AV → Prop
  | some r => Sub r res
  | none => False

def retR (P : Program) (fn : Func) (res : AV) : Exit → X → Prop := fun e x => (e = .normal ∨ e = .ret) ∧ RetA res (outA P fn x)

theorem RM.sub {σ : Names} {I : Nat → Prop} {w : World} {m m' : Mem} (hm : RM σ I w m) (h : ∀ b k, m' b = some k → m b = some k) : RM σ I w m' :=
  ⟨fun b k hb => hm.blk b k (h b k hb), fun b b' k k' x x' n h1 h2 h3 h4 h5 h6 => hm.apart b b' k k' x x' n (h b k h1) (h b' k' h2) h3 h4 h5 h6⟩

theorem Eff.mr_sub {e : Eff} {m : Mem} : ∀ b k, e.mr m b = some k → m b = some k := by
  intro b k hb
  simp only [Eff.mr] at hb
  split at hb
  · exact hb
  · cases hb

def resSem (tmps : Array Value) : ResultVar → Sem Value
  | .tmp t => pure (tmps.getD t undef)
  | .cell a t => do loadVar t (← asAddr (tmps.getD a undef))

theorem run_resA {E : Ctx} {x : X} {σ : Names} {I : Nat → Prop} {a : Act} {w : World} (hr : RelAt E x.den σ I a w) : ∀ (rs : List ResultVar) (l : List AV), resA E.P x rs = some l →
    ∃ vs : List Value, (rs.mapM (resSem a.tmps)).run E.P w = .ok vs w ∧ vs.length = l.length ∧ ∀ (i : Nat) c v, l[i]? = some c → vs[i]? = some v → RV σ I w c v
  | [], l, h => by cases h; exact ⟨[], by rw [List.mapM_nil]; rfl, rfl, fun i c v h => by simp at h⟩
  | .tmp t :: rs, l, h => by
    simp only [resA] at h
    cases hl : resA E.P x rs with
    | none => simp [hl] at h
    | some l' =>
      simp [hl] at h; subst h
      obtain ⟨vs, h1, h2, h3⟩ := run_resA hr rs l' hl
      refine ⟨a.tmps.getD t undef :: vs, ?_, by simp [h2], fun i c v hc hv => ?_⟩
      · rw [List.mapM_cons]
        simp only [resSem, Sem.run_bind, Sem.run_pure, Result.andThen_ok, h1]
      · cases i with
        | zero =>
          rw [List.getElem?_cons_zero] at hc hv
          cases hc; cases hv
          exact hr.tm t
        | succ i => exact h3 i c v (by simpa using hc) (by simpa using hv)
  | .cell ad T :: rs, l, h => by
    simp only [resA] at h
    split at h
    · rename_i ti hT
      split at h
      · rename_i e l' he hl
        cases h
        obtain ⟨vs, h1, h2, h3⟩ := run_resA hr rs l' hl
        obtain ⟨q, u, e1, e2, e3⟩ := load_core hT he (hr.tm ad) (hr.mm.sub Eff.mr_sub)
        refine ⟨u :: vs, ?_, by simp [h2], fun i c v hc hv => ?_⟩
        · rw [List.mapM_cons]
          simp only [resSem, Sem.run_bind, e1, asAddr, Sem.run_pure, Result.andThen_ok, e2, h1]
        · cases i with
          | zero =>
            rw [List.getElem?_cons_zero] at hc hv
            cases hc; cases hv
            exact e3
          | succ i => exact h3 i c v (by simpa using hc) (by simpa using hv)
      · cases h
    · cases h

theorem run_results {P : Program} {fn : Func} {tmps : Array Value} {w : World} {vs : List Value} (h : (fn.results.toList.mapM (resSem tmps)).run P w = .ok vs w) :
    (results fn tmps).run P w = .ok (if h : vs.toArray.size = 1 then vs.toArray[0] else .tuple vs.toArray) w := by
  have e : results fn tmps = (do
      let us ← fn.results.mapM (resSem tmps)
      pure (if h : us.size = 1 then us[0] else .tuple us)) := by
    unfold results
    congr 1
  have e2 : fn.results.mapM (resSem tmps) = List.toArray <$> fn.results.toList.mapM (resSem tmps) := by
    rw [← List.mapM_toArray]
  rw [e, e2, map_eq_pure_bind]
  simp only [Sem.run_bind, h, Result.andThen_ok, Sem.run_pure]

theorem run_outA {E : Ctx} {x : X} {σ : Names} {I : Nat → Prop} {a : Act} {w : World} (hr : RelAt E x.den σ I a w) {fn : Func} {r : AV} (h : outA E.P fn x = some r) :
    ∃ v, (results fn a.tmps).run E.P w = .ok v w ∧ RV σ I w r v := by
  unfold outA at h
  split at h
  · rename_i r' hl
    cases h
    obtain ⟨vs, h1, h2, h3⟩ := run_resA hr _ _ hl
    match vs, h2, h1, h3 with
    | [v], _, h1, h3 => exact ⟨v, by rw [run_results h1]; rfl, h3 0 r v rfl rfl⟩
  · rename_i l hne hl
    cases h
    obtain ⟨vs, h1, h2, h3⟩ := run_resA hr _ _ hl
    refine ⟨.tuple vs.toArray, ?_, .tup h2 h3⟩
    rw [run_results h1, dif_neg]
    intro h1'
    simp at h1'
    rw [h1'] at h2
    match l, h2 with
    | [r'], _ => exact hne r' rfl
  · cases h

/-- A FUNCTION BY ITS BODY. -/
theorem CtP.of_body {P : Program} {f : FuncId} {fn : Func} {c : Code} {args : List AV} {res : AV} (hf : P.funcs[f]? = some fn) (hb : fn.body = some c) (hm : P.follows .mixedOrders = true) (hn : args.length ≤ fn.ntmps)
    (h : CW P fn.ntmps (retR P fn res) [.code c] ⟨initT 0 args, [], 0⟩) : CtP P f args res := by
  intro I w vs hib hl hv
  refine calls_of_wp hf hb ?_
  let E : Ctx := { P := P, w0 := w, bor := fun _ => False, I0 := I, nt := fn.ntmps }
  have hrel : Rel E (X.den ⟨initT 0 args, [], 0⟩) { tmps := vs.toArray ++ Array.replicate (fn.ntmps - vs.toArray.size) undef, defers := [] } w := by
    refine ⟨noN, I, ?_, rfl, fun t => ?_, ⟨fun b k h => ?_, fun b b' k k' x x' n h => ?_⟩, fun _ _ => rfl, hib, fun _ h => h, fun n h => .inl h, fun n h => ?_, rfl, rfl, rfl, Nat.le_refl _, fun _ _ _ => rfl⟩
    · simp; show _ = fn.ntmps; omega
    · simp only [X.den, lookT_initT, Nat.zero_le, if_true, Nat.sub_zero]
      cases ha : args[t]? with
      | none => exact .any _
      | some c =>
        have hlt : t < vs.length := by have := (List.getElem?_eq_some_iff.1 ha).1; omega
        have e1 : (vs.toArray ++ Array.replicate (fn.ntmps - vs.toArray.size) undef).getD t undef = vs[t] := by
          simp [Array.getElem?_append, hlt]
        rw [e1]
        exact hv t c _ ha (List.getElem?_eq_getElem hlt)
    · simp [X.den, lookM] at h
    · simp [X.den, lookM] at h
    · obtain ⟨b, k, x, h, _⟩ := h; simp [X.den, lookM] at h
  have hw := (CW_sound hm h E rfl rfl).1 rfl _ w hrel
  refine wp_mono hw (fun e a w' hq => ?_)
  obtain ⟨x, ⟨σ, I', hr⟩, he, hret⟩ : finOf E (retR P fn res) e a w' := by
    cases e <;> simpa [aft] using hq
  obtain ⟨r, ho, hs⟩ : ∃ r, outA P fn x = some r ∧ Sub r res := by
    cases ho : outA P fn x with
    | none => rw [ho] at hret; exact hret.elim
    | some r => rw [ho] at hret; exact ⟨r, rfl, hret⟩
  obtain ⟨v, h1, h2⟩ := run_outA hr ho
  have hpost : a.defers = [] ∧ ∃ v, (results fn a.tmps).run P w' = .ok v w' ∧ ∃ u I', Ending.returned v = .returned u ∧ Post noN I w noM 0 noN I' w' noM ∧ RV noN I' w' res u := by
    refine ⟨hr.dfs, v, h1, v, I', rfl, ?_, hs σ I' w' v h2⟩
    refine ⟨hr.os, hr.tape, hr.output, hr.hs, (fun _ _ h => by cases h), (fun _ _ h => absurd rfl h), hr.i0, hr.ib, (fun n h => ?_), (fun n hn _ => hr.frame n hn (fun h => h)), ⟨(fun b k h => by cases h), (fun b b' k k' x x' n h => by cases h)⟩, (fun b k h => by cases h), (fun n h => ?_)⟩
    · rcases hr.inew n h with g | g | g
      · exact .inl g
      · exact g.elim
      · exact .inr (.inl g)
    · obtain ⟨b, k, x, h, _⟩ := h; cases h
  rcases he with rfl | rfl
  · exact hpost
  · exact hpost

/-- A CALL, BY ITS CONTRACT. -/
def calleeA : AV → Option (FuncId × List AV × List AV)
  | .d (.v (.func (.func f) first captured)) => some (f, first.toList.map fun v => .d (.v v), captured.toList.map fun v => .d (.v v))
  | .fn (.func f) first captured => some (f, first, captured)
  | .d (.fn (.func f) first captured) => some (f, first.map .d, captured.map .d)
  | _ => none

theorem calleeA_spec {σ : Names} {I : Nat → Prop} {w : World} {x : AV} {v : Value} {f : FuncId} {first captured : List AV} (h : calleeA x = some (f, first, captured)) (hv : RV σ I w x v) :
    ∃ xs ys : List Value, v = .func (.func f) xs.toArray ys.toArray ∧ xs.length = first.length ∧ ys.length = captured.length ∧
      (∀ (i : Nat) c y, first[i]? = some c → xs[i]? = some y → RV σ I w c y) ∧ ∀ (i : Nat) c y, captured[i]? = some c → ys[i]? = some y → RV σ I w c y := by
  unfold calleeA at h
  split at h
  · rename_i fst cap
    cases h
    refine ⟨fst.toList, cap.toList, by rw [RV_v hv], by simp, by simp, fun i c y h1 h2 => ?_, fun i c y h1 h2 => ?_⟩ <;>
    · simp at h1 h2
      obtain ⟨z, hz, rfl⟩ := h1
      rw [h2] at hz; cases hz
      exact .d (.v _)
  · cases h
    cases hv with
    | fn hx hy h1 h2 => exact ⟨_, _, rfl, hx, hy, h1, h2⟩
  · cases h
    cases hv with
    | d hv =>
      cases hv with
      | fn hx hy h1 h2 =>
        refine ⟨_, _, rfl, by simpa using hx, by simpa using hy, fun i c y k1 k2 => ?_, fun i c y k1 k2 => ?_⟩
        · simp at k1
          obtain ⟨z, hz, rfl⟩ := k1
          exact .d (h1 i z y hz k2)
        · simp at k1
          obtain ⟨z, hz, rfl⟩ := k1
          exact .d (h2 i z y hz k2)
  · cases h

/-- A function that is entered when it is called. -/
def Enters (P : Program) (f : FuncId) : Prop := ∀ (args : Array Value) (w : World), (callFunc f args).run P w = .ok (.enter f args) w

theorem ok_call {P : Program} {o : Oper} {c : Call} {fo : Operand} (ho : o.op = .call c) (hc : c.callee = .value fo) (tm : Nat → AV) (mem : Mem) (nm : Nat) {f : FuncId} {first captured : List AV}
    (hf : calleeA (ev tm fo) = some (f, first, captured)) (hen : Enters P f) {args : List AV} (ha : first ++ c.args.toList.map (ev tm) ++ captured = args) (hnf : nfA.nfL args = true) {res : AV} (hct : CtP P f args res) :
    OpOk P o tm ((Eff.mk res [] []).mr mem) nm res ((Eff.mk res [] []).mw mem) := by
  refine OpOk.of_pure ?_
  intro a w σ I h1 h2 h3 h4 next Q hn
  obtain ⟨xs, ys, e1, lx, ly, rx, ry⟩ := calleeA_spec hf (RV_ev (σ := σ) (I := I) (w := w) (a := a) (x := fo) fun s e => h2 s (by subst e; simp [ho, Op.operands, Call.operands, hc]))
  have harg : ∀ x ∈ c.args.toList, RV σ I w (ev tm x) (a.eval x) := fun x hx => RV_ev fun s e => h2 s (by subst e; simp [ho, Op.operands, Call.operands, hc]; exact .inr (by simpa using hx))
  have hrun : (execOp a.eval o).run P w = .ok (.enter f (xs ++ c.args.toList.map a.eval ++ ys).toArray) w := by
    have e3 : (xs ++ c.args.toList.map a.eval ++ ys).toArray = xs.toArray ++ c.args.map a.eval ++ ys.toArray := by
      apply Array.ext'; simp
    have e4 := hen (xs.toArray ++ c.args.map a.eval ++ ys.toArray) w
    rw [← e3] at e4
    rw [← e4, e3]
    simp [execOp, ho, resolve, hc, e1, Deferred.ofValue, invoke]
  simp only [Oper.wp, hrun, Oper.upon]
  subst ha
  have hcall := hct I w (xs ++ c.args.toList.map a.eval ++ ys) h1 (by simp [lx, ly]) (fun i q v hq hv => ?_)
  · refine hcall.mono (fun e w' he => ?_)
    obtain ⟨v, I', rfl, hp, hrv⟩ := he
    refine hn v σ I' w' ?_ (hrv.mono (fun _ _ => rfl) (fun _ h => h) (fun _ _ h => by cases h))
    have hno : ∀ n, ¬ Owns σ noM n := by rintro n ⟨b, k, x, h, _⟩; cases h
    have hno' : ∀ n, ¬ Owns noN noM n := by rintro n ⟨b, k, x, h, _⟩; cases h
    refine ⟨hp.os, hp.tape, hp.output, hp.size, (fun _ _ h => h), (fun _ h1 h2 => absurd h1 h2), hp.imono, hp.ib, (fun n hn => ?_), (fun n hn _ => hp.frame n hn (hno' n)), ⟨(fun b k h => by cases h), (fun b b' k k' x x' n h => by cases h)⟩, (fun b k h => by cases h), (fun n h => absurd h (hno n))⟩
    rcases hp.inew n hn with g | g | g
    · exact .inl g
    · exact .inr (.inl g)
    · exact absurd g (hno' n)
  · refine RV_nf (σ := σ) ?_ (nfL_get hnf i q hq)
    rw [List.append_assoc] at hq hv
    by_cases hi : i < first.length
    · rw [List.getElem?_append_left hi] at hq
      rw [List.getElem?_append_left (by omega)] at hv
      exact rx i q v hq hv
    · rw [List.getElem?_append_right (by omega)] at hq
      rw [List.getElem?_append_right (by omega), lx] at hv
      by_cases hj : i - first.length < c.args.size
      · rw [List.getElem?_append_left (by simpa using hj)] at hq
        rw [List.getElem?_append_left (by simpa using hj)] at hv
        simp only [List.getElem?_map] at hq hv
        cases hx : c.args.toList[i - first.length]? with
        | none => simp [hx] at hq
        | some x =>
          rw [hx] at hq hv
          simp only [Option.map_some, Option.some.injEq] at hq hv
          subst hq; subst hv
          exact harg x (List.mem_of_getElem? hx)
      · rw [List.getElem?_append_right (by simpa using hj)] at hq
        rw [List.getElem?_append_right (by simpa using hj)] at hv
        simp only [List.length_map] at hq hv
        exact ry _ q v hq hv

/-- The call that stands next. -/
theorem CW.call {P : Program} {nt : Nat} {R : Exit → X → Prop} {ops : Array Oper} {o : Oper} {rest : List Oper} {i : Nat} {ft : List (List Nat × List Nat)} {draw : Bool} {k : List It} {x : X} {c : Call} {fo : Operand} {f : FuncId} {first captured : List AV} {args : List AV} {res : AV}
    (hct : CtP P f args res) (hen : Enters P f) (ho : o.op = .call c) (hc : c.callee = .value fo) (hdst : dstOk nt o.dst = true) (hg : o.guard = none ∨ ∃ g wa, o.guard = some (g, wa) ∧ gbool ops g (lookT x.tm) = some wa)
    (hf : calleeA (ev (lookT x.tm) fo) = some (f, first, captured)) (ha : first ++ c.args.toList.map (ev (lookT x.tm)) ++ captured = args) (hnf : nfA.nfL args = true)
    (h : CW P nt R (.ops ops rest (i + 1) (ft ++ [([], [])]) draw :: k) ⟨putT o.dst res x.tm, x.mm, x.nx⟩) : CW P nt R (.ops ops (o :: rest) i ft draw :: k) x :=
  .op ⟨res, [], []⟩ hdst hg (ok_call ho hc _ _ _ hf hen ha hnf hct) h

end Go.AI
