/-
  A FRAMEWORK OF MY OWN (4): the walk once more, in rounds of ranges over functions, and in iterators.
-/
import Derived.Test.YtbmnaehodmgibaaGreatDoorFc
set_option linter.unusedSimpArgs false
set_option linter.unusedVariables false
section
namespace Go.AI
def FW (ro : Option Nat) : Fence := { Fence.wide with round := ro }
def zf5 (o : Oper) : Bool := match o.op with | .defer _ => false | _ => true
theorem zxe {o : Oper} (h : zf5 o = true) : ∀ c, o.op ≠ .defer c := by
 intro c e; simp [zf5, e] at h
theorem zya {ro : Option Nat} {dp : Nat} {P : Program} {f : FuncId} {args : Array Value} {w : World} {R : Ending → World → Prop} (h : Calls P f args w R) : CallsIn (FW ro) dp P f args w R := (callsIn_wide.2 h : CallsIn Fence.wide dp P f args w R)
section
variable {ro : Option Nat} {dp : Nat} {J : Names → (Nat → Prop) → World → Prop}
theorem qio {P : Program} {o : Oper} {a : Act} {w : World} {K : Act → World → Prop} {Q : Exit → Act → World → Prop} (hnd : zf5 o = true) (h : o.wp P a w K Q) : o.wpIn (FW ro) dp P a w K Q := by
 refine ⟨fun _ _ => trivial, ?_⟩
 unfold Oper.wp at h
 rw [Oper.semAt_eq _ _ _ (zxe hnd)]
 generalize (execOp a.eval o).run P w = r at *
 cases r with
 | ok x w' =>
   cases x with
   | enter f args => exact ⟨by simp [FW, Fence.wide], zya h⟩
   | row r args =>
     refine ⟨by simp [FW, Fence.wide], fun c cs _ => ?_⟩
     obtain ⟨v, w2, q, s⟩ := h c cs
     exact ⟨v, w2, q, stepsIn_wide.2 s⟩
   | _ => first | exact h | exact (show False from h).elim
 | halt hh w' =>
   cases hh <;> first | exact h | exact (show False from h).elim
def OpOkI (ro : Option Nat) (dp : Nat) (J : Names → (Nat → Prop) → World → Prop) (P : Program) (o : Oper) (tm : Nat → AV) (mr : Mem) (nm : Nat) (res : AV) (mw : Mem) : Prop :=
 ∀ (a : Act) (w : World) (σ : Names) (I : Nat → Prop), J σ I w → (∀ n, I n → n < w.heap.size) →
  (∀ t, Operand.tmp t ∈ o.op.operands → RV σ I w (tm t) (a.tmps.getD t undef)) → RM σ I w mr → (∀ b, fresh nm b → σ b = none) →
  ∀ (next : Act → World → Prop) (Q : Exit → Act → World → Prop),
   (∀ v σ' I' w', Post σ I w mr nm σ' I' w' mw → RV σ' I' w' res v → next (a.put o.dst v) w') → o.wpIn (FW ro) dp P a w next Q
theorem OpOk.toI {P : Program} {o : Oper} {tm : Nat → AV} {mr mw : Mem} {nm : Nat} {res : AV} (hp : zf5 o = true) (h : OpOk P o tm mr nm res mw) : OpOkI ro dp J P o tm mr nm res mw :=
 fun a w σ I _ h1 h2 h3 h4 next Q hn => qio hp (h a w σ I h1 h2 h3 h4 next Q hn)
def OkAtI (ro : Option Nat) (dp : Nat) (J : Names → (Nat → Prop) → World → Prop) (E : Ctx) (ops : Array Oper) (o : Oper) (s : S) (nm : Nat) (e : Eff) : Prop :=
 (∀ d, o.dst = some d → d < E.nt) ∧
 ((o.guard = none ∧ OpOkI ro dp J E.P o s.tm (e.mr s.mm) nm e.res (e.mw s.mm)) ∨
  ∃ g wa p d y, o.guard = some (g, wa) ∧ ops[g]? = some p ∧ p.dst = some d ∧ s.tm d = .d (.v y) ∧
   ((yb y = some wa ∧ OpOkI ro dp J E.P o s.tm (e.mr s.mm) nm e.res (e.mw s.mm)) ∨ (yb y ≠ some wa ∧ e = ⟨.d (.v undef), [], []⟩)))
theorem OkAtI.congr {E : Ctx} {ops : Array Oper} {o : Oper} {s s' : S} {nm : Nat} {e : Eff} (h : OkAtI ro dp J E ops o s nm e)
  (ht : ∀ t, zrv ops o t → s'.tm t = s.tm t) (hm : ∀ b, (zar e.wr b).isSome ∨ b ∈ e.rd → s'.mm b = s.mm b) : OkAtI ro dp J E ops o s' nm e := by
 have e1 : e.mr s'.mm = e.mr s.mm := by
  funext b; simp only [Eff.mr]; split
  ·rename_i hb; exact hm b hb
  ·rfl
 have e2 : e.mw s'.mm = e.mw s.mm := by
  funext b; simp only [Eff.mw]; split
  ·rfl
  ·split
   ·rename_i hb; exact hm b (.inr hb)
   ·rfl
 have key : OpOkI ro dp J E.P o s.tm (e.mr s.mm) nm e.res (e.mw s.mm) → OpOkI ro dp J E.P o s'.tm (e.mr s'.mm) nm e.res (e.mw s'.mm) := by
  intro hk a w σ I hj h1 h2 h3 h4 next Q hn
  rw [e1] at h3
  refine hk a w σ I hj h1 (fun t htm => ?_) h3 h4 next Q (fun v σ' I' w' hp hv => hn v σ' I' w' ?_ hv)
  ·rw [← ht t (.inl htm)]; exact h2 t htm
  ·rw [e1, e2]; exact hp
 refine ⟨h.1, ?_⟩
 rcases h.2 with ⟨hg, hk⟩ | ⟨g, wa, p, d, b, hg, hp, hd, hb, hk⟩
 ·exact .inl ⟨hg, key hk⟩
 ·refine .inr ⟨g, wa, p, d, b, hg, hp, hd, (ht d (.inr ⟨g, wa, p, hg, hp, hd⟩)).trans hb, ?_⟩
  rcases hk with ⟨q, hk⟩ | q
  ·exact .inl ⟨q, key hk⟩
  ·exact .inr q
theorem zuw {E : Ctx} {ops : Array Oper} {Q : Exit → Act → World → Prop} {K : Act → World → Prop} {i : Nat} {o : Oper} (ho : ops[i]? = some o)
  {s : S} {nm : Nat} {e : Eff} (hok : OkAtI ro dp J E ops o s nm e) (hfr : ∀ b, fresh nm b → s.fr b) {a : Act} {w : World} (hr : Rel E s a w) (hJ : ∀ s σ I a w, RelAt E s σ I a w → J σ I w)
  (hK : ∀ a w, Rel E (s.app o.dst e nm) a w → K a w) : wpOpIn (FW ro) dp E.P ops Q i K a w := by
 obtain ⟨σ, I, hr⟩ := hr
 have hj := hJ _ _ _ _ _ hr
 have go : OpOkI ro dp J E.P o s.tm (e.mr s.mm) nm e.res (e.mw s.mm) → o.wpIn (FW ro) dp E.P a w K Q := by
  intro hk
  have hsub : ∀ b k, e.mr s.mm b = some k → s.mm b = some k := by
   intro b k hb
   simp only [Eff.mr] at hb
   split at hb
   ·exact hb
   ·cases hb
  refine hk a w σ I hj hr.ib (fun t _ => hr.tm t) ?_ (fun b hb => hr.free b (hfr b hb)) K Q (fun v σ' I' w' hp hv => hK _ _ ?_)
  ·exact ⟨fun b k hb => hr.mm.blk b k (hsub b k hb), fun b b' k k' x x' n h1 h2 h3 h4 h5 h6 => hr.mm.apart b b' k k' x x' n (hsub b k h1) (hsub b' k' h2) h3 h4 h5 h6⟩
  ·rw [S.app_eq_step]
   exact ⟨σ', I', hr.step hsub hp hv hok.1⟩
 unfold wpOpIn
 simp only [ho]
 rcases hok.2 with ⟨hg, hk⟩ | ⟨g, wa, p, d, y, hg, hp, hd, hb, hk⟩
 ·have hw : Region.wanted o (yielded ops a.tmps) = true := by simp [Region.wanted, hg]
  simp only [hw, if_true]
  exact go hk
 ·have hy : yielded ops a.tmps g = yb y := by
   have := hr.tm d
   rw [hb] at this
   have hv : a.tmps.getD d undef = y := by
    generalize a.tmps.getD d undef = z at this
    cases this with
    | d h => cases h; rfl
   cases hd' : a.tmps[d]? with
   | some x =>
     have e : x = y := by simpa [hd'] using hv
     subst e
     simp only [yielded, hp, hd, hd', Option.bind_some]
     cases x <;> rfl
   | none =>
     have e : undef = y := by simpa [hd'] using hv
     subst e
     simp [yielded, hp, hd, hd', yb, undef]
  rcases hk with ⟨hyb, hk⟩ | ⟨hne, rfl⟩
  ·have hw : Region.wanted o (yielded ops a.tmps) = true := by simp [Region.wanted, hg, hy, hyb]
   simp only [hw, if_true]
   exact go hk
  ·have hw : Region.wanted o (yielded ops a.tmps) = false := by simp [Region.wanted, hg, hy, hne]
   simp only [hw, Bool.false_eq_true, if_false]
   refine ⟨fun _ _ => trivial, hK _ _ ?_⟩
   rw [S.app_eq_step]
   refine ⟨σ, I, hr.step (fun b k hb => ?_) ?_ (.d (.v undef)) hok.1⟩
   ·simp [Eff.mr, zar] at hb
   ·have e0 : ∀ n, ¬ Owns σ (Eff.mr ⟨.d (.v undef), [], []⟩ s.mm) n := by
     rintro n ⟨b, k, x, h1, _⟩; simp [Eff.mr, zar] at h1
    refine ⟨rfl, rfl, ⟨rfl, Nat.le_refl _⟩, Nat.le_refl _, fun b x h => h, fun b h1 h2 => absurd h1 h2, fun n h => h, hr.ib, fun n h => .inl h, fun n _ _ => rfl, ⟨fun b k h => ?_, fun b b' k k' x x' n h => ?_⟩, fun b k h => ?_, ?_⟩
    ·simp [Eff.mw, zar] at h
    ·simp [Eff.mw, zar] at h
    ·simp [Eff.mw, zar] at h
    ·rintro n ⟨b, k, x, h1, _⟩; simp [Eff.mw, zar] at h1
theorem qcy {E : Ctx} {ops : Array Oper} {Q : Exit → Act → World → Prop} {effs : Nat → Eff} {nx : Nat} {s : S}
  (hok : ∀ i o, ops[i]? = some o → OkAtI ro dp J E ops o (after ops effs nx s (fun _ => true) i) (nx + 64 * i) (effs i)) (hfr : ∀ b, nx ≤ b → s.fr b) (hJ : ∀ s σ I a w, RelAt E s σ I a w → J σ I w)
  (hQ : ∀ a w, Rel E (after ops effs nx s (fun _ => true) ops.size) a w → Q .normal a w) :
  ∀ m i, i + m = ops.size → ∀ a w, Rel E (after ops effs nx s (fun _ => true) i) a w → wpOpsIn (FW ro) dp E.P ops Q (List.range' i m) a w := by
 intro m
 induction m with
 | zero => intro i hi a w hr; simp only [List.range'_zero, wpOpsIn]; exact hQ a w (by rw [← hi]; exact hr)
 | succ m ih =>
   intro i hi a w hr
   have ho : ops[i]? = some ops[i] := Array.getElem?_eq_getElem (by omega)
   rw [List.range'_succ, wpOpsIn_cons]
   refine zuw ho (hok i _ ho) (fun b hb => ?_) hr hJ (fun a' w' hr' => ih (i + 1) (by omega) a' w' ?_)
   ·rw [ze8]
    exact ⟨hfr b (by have := hb.1; omega), fun j hj _ hj' => by have := hb.1; have := hj'.2; omega⟩
   ·simp only [after, if_true, ho]
    exact hr'
theorem ztq {E : Ctx} {id : Nat} {ops : Array Oper} {Q : Exit → Act → World → Prop} {effs : Nat → Eff} {nx : Nat} {s : S} {a : Act} {w : World}
  (hok : ∀ i o, ops[i]? = some o → OkAtI ro dp J E ops o (after ops effs nx s (fun _ => true) i) (nx + 64 * i) (effs i)) (hfr : ∀ b, nx ≤ b → s.fr b) (hJ : ∀ s σ I a w, RelAt E s σ I a w → J σ I w)
  (hr : Rel E s a w) (hQ : ∀ a w, Rel E (after ops effs nx s (fun _ => true) ops.size) a w → Q .normal a w) : (Code.region id ops false).wpIn (FW ro) dp E.P Q a w := by
 refine wpIn_region ?_
 rw [List.range_eq_range']
 exact qcy hok hfr hJ hQ ops.size 0 (by omega) a w hr
theorem ztr {E : Ctx} {id : Nat} {ops : Array Oper} {Q : Exit → Act → World → Prop} {effs : Nat → Eff} {nx : Nat} {s : S} {a : Act} {w : World}
  (hm : E.P.follows .mixedOrders = true) (pre : Nat → List Nat) (hpre : qgp ops pre)
  (hap : ∀ i j, i < j → j < ops.size → i ∈ pre j ∨ zp2 ops effs i j)
  (hok : ∀ i o, ops[i]? = some o → OkAtI ro dp J E ops o (after ops effs nx s (fun _ => true) i) (nx + 64 * i) (effs i)) (hfr : ∀ b, nx ≤ b → s.fr b) (hJ : ∀ s σ I a w, RelAt E s σ I a w → J σ I w)
  (hr : Rel E s a w) (hQ : ∀ a w, Rel E (after ops effs nx s (fun _ => true) ops.size) a w → Q .normal a w) : (Code.region id ops true).wpIn (FW ro) dp E.P Q a w := by
 refine wpIn_region_any hm ?_
 have main : ∀ fuel (listed : Array Bool) a w, listed.size = ops.size → ((List.range ops.size).filter fun i => !listed.getD i true).length ≤ fuel →
   (∀ j, listed.getD j false = true → ∀ i ∈ pre j, listed.getD i false = true) →
   Rel E (after ops effs nx s (fun j => listed.getD j false) ops.size) a w → wpAnyIn (FW ro) dp E.P .any ops Q fuel listed a w := by
  intro fuel
  have full : ∀ (listed : Array Bool), listed.size = ops.size → Region.ready .any ops listed = [] → ∀ j, j < ops.size → listed.getD j false = true := by
   intro listed hsz hrd j
   induction j using Nat.strongRecOn with
   | _ j ih =>
     intro hj
     cases hl : listed.getD j false with
     | true => rfl
     | false =>
       have ho : ops[j]? = some ops[j] := Array.getElem?_eq_getElem hj
       have hmem : j ∈ Region.ready .any ops listed := by
        simp only [Region.ready, List.mem_filter, List.mem_range]
        refine ⟨hj, ?_⟩
        have h1 : listed.getD j true = false := by
         have : j < listed.size := by omega
         simp [this] at hl ⊢; exact hl
        simp only [h1, ho, Option.map_some, Option.getD_some, Bool.not_false, Bool.true_and, Array.all_eq_true_iff_forall_mem]
        intro e he
        by_cases hbd : Region.binds .any e = true
        ·simp [hbd, ih e.on ((hpre j _ ho).1 e he hbd) (by have := (hpre j _ ho).1 e he hbd; omega)]
        ·simp [hbd]
       rw [hrd] at hmem; cases hmem
  have done : ∀ (listed : Array Bool) a w, listed.size = ops.size → Rel E (after ops effs nx s (fun j => listed.getD j false) ops.size) a w →
    Region.ready .any ops listed = [] → Q .normal a w := by
   intro listed a w hsz hr hrd
   refine hQ a w ?_
   rw [← zeu (L := fun j => listed.getD j false) ops.size (fun i hi => full listed hsz hrd i hi)]
   exact hr
  induction fuel with
  | zero =>
    intro listed a w hsz hf _ hr
    have hrd : Region.ready .any ops listed = [] := by
     have h0 : ((List.range ops.size).filter fun i => !listed.getD i true) = [] := List.length_eq_zero_iff.1 (by omega)
     simp only [Region.ready]
     rw [List.filter_eq_nil_iff] at h0 ⊢
     intro i hi hc
     exact h0 i hi (by simp only [Bool.and_eq_true] at hc; exact hc.1)
    exact ⟨hrd, done listed a w hsz hr hrd⟩
  | succ fuel ih =>
    intro listed a w hsz hf hcl hr
    refine ⟨done listed a w hsz hr, fun i hi => ?_⟩
    simp only [Region.ready, List.mem_filter, List.mem_range, Bool.and_eq_true, Bool.not_eq_true'] at hi
    obtain ⟨hin, hil, hpr⟩ := hi
    have ho : ops[i]? = some ops[i] := Array.getElem?_eq_getElem hin
    have hL : listed.getD i false = false := by
     have : i < listed.size := by omega
     simp [this] at hil ⊢; exact hil
    have hpreL : ∀ k ∈ pre i, listed.getD k false = true := by
     intro k hk
     obtain ⟨e, he, hbd, hor⟩ := (hpre i _ ho).2 k hk
     simp only [ho, Option.map_some, Option.getD_some, Array.all_eq_true_iff_forall_mem] at hpr
     have := hpr e he
     simp only [hbd, Bool.not_true, Bool.false_or] at this
     rcases hor with rfl | hor
     ·exact this
     ·exact hcl e.on this k hor
    have ahead : ∀ j, j < i → ¬ zp2 ops effs j i → listed.getD j false = true := fun j hj hn => hpreL j ((hap j i hj hin).resolve_right hn)
    have behind : ∀ j, i < j → j < ops.size → listed.getD j false = true → zp2 ops effs i j := by
     intro j hj hjn hl
     refine (hap i j hj hjn).resolve_left (fun hk => ?_)
     have := hcl j hl i hk
     rw [hL] at this; cases this
    have hst := zs6 (ops := ops) (effs := effs) (nx := nx) (s := s) (L := fun j => listed.getD j false) (i := i) hL (n := ops.size) behind ops.size hin (Nat.le_refl _)
    have hokc : OkAtI ro dp J E ops ops[i] (after ops effs nx s (fun j => listed.getD j false) ops.size) (nx + 64 * i) (effs i) := by
     refine (hok i _ ho).congr (fun t ht => ?_) (fun b hb => ?_)
     ·have := zwl (ops := ops) (effs := effs) (nx := nx) (s := s) (L := fun j => listed.getD j false) (i := i) (t := t) ops.size (fun j hj hd => ?_) ops.size (Nat.le_refl _)
      ·rw [this, show min ops.size i = i by omega]
      ·rcases Nat.lt_trichotomy j i with h | h | h
       ·refine ⟨fun _ => h, fun _ => ahead j h (fun hap' => ((hap'.1 t hd).2 _ ho) ht)⟩
       ·subst h; simp only [hL, Bool.false_eq_true, false_iff]; omega
       ·refine ⟨fun hl => ?_, fun h' => by omega⟩
        exact absurd ht ((behind j h hj hl).2.1 t hd _ ho)
     ·have := zwm (ops := ops) (effs := effs) (nx := nx) (s := s) (L := fun j => listed.getD j false) (i := i) (b := b) ops.size (fun j hj hd => ?_) ops.size (Nat.le_refl _)
      ·rw [this, show min ops.size i = i by omega]
      ·rcases Nat.lt_trichotomy j i with h | h | h
       ·refine ⟨fun _ => h, fun _ => ahead j h (fun hap' => ?_)⟩
        have := hap'.2.2.1 b hd
        rcases hb with hb | hb
        ·rw [this.1] at hb; cases hb
        ·exact this.2 hb
       ·subst h; simp only [hL, Bool.false_eq_true, false_iff]; omega
       ·refine ⟨fun hl => ?_, fun h' => by omega⟩
        have hap' := behind j h hj hl
        rcases hb with hb | hb
        ·rw [(hap'.2.2.1 b hb).1] at hd; cases hd
        ·exact absurd hb (hap'.2.2.2 b hd)
    refine zuw ho hokc (fun b hb => ?_) hr hJ (fun a' w' hr' => ih _ a' w' (by simp [hsz]) ?_ ?_ ?_)
    ·rw [ze8]
     refine ⟨hfr b (by have := hb.1; omega), fun j hj hl hj' => ?_⟩
     have : j ≠ i := fun e => by subst e; rw [hL] at hl; cases hl
     have := hb.1; have := hb.2; have := hj'.1; have := hj'.2
     omega
    ·
     have hlt : ((List.range ops.size).filter fun k => !(listed.setIfInBounds i true).getD k true).length < ((List.range ops.size).filter fun k => !listed.getD k true).length := by
      have hsub : ∀ k, (!(listed.setIfInBounds i true).getD k true) = true → (!listed.getD k true) = true := by
       intro k hk
       by_cases e : i = k
       ·subst e
        have : i < listed.size := by omega
        simp [this] at hk
       ·simpa [Array.getElem?_setIfInBounds_ne e] using hk
      have hmem : i ∈ (List.range ops.size).filter fun k => !listed.getD k true := by simp [hin]; simpa using hil
      have hnot : i ∉ (List.range ops.size).filter fun k => !(listed.setIfInBounds i true).getD k true := by
       have : i < listed.size := by omega
       simp [this]
      rw [← List.countP_eq_length_filter, ← List.countP_eq_length_filter]
      clear hst hokc hr
      have gen : ∀ (l : List Nat) (p q : Nat → Bool), (∀ k, p k = true → q k = true) → i ∈ l → q i = true → p i = false → l.countP p < l.countP q := by
       intro l p q hpq hil hqi hpi
       induction l with
       | nil => cases hil
       | cons x l ihl =>
         rw [List.countP_cons, List.countP_cons]
         by_cases e : x = i
         ·subst e
          have : l.countP p ≤ l.countP q := List.countP_mono_left (fun k _ => hpq k)
          simp [hqi, hpi]; omega
         ·have := ihl (by cases hil with | head => exact absurd rfl e | tail _ h => exact h)
          by_cases hp : p x = true
          ·simp [hp, hpq x hp]; omega
          ·simp [hp]; omega
      refine gen _ _ _ hsub (by simp [hin]) (by simpa using hil) ?_
      have : i < listed.size := by omega
      simp [this]
     omega
    ·intro j hj k hk
     by_cases e : i = j
     ·subst e
      by_cases e' : i = k
      ·subst e'; exact hj
      ·have := hpreL k hk
       simpa [Array.getElem?_setIfInBounds_ne e'] using this
     ·have hj' : listed.getD j false = true := by simpa [Array.getElem?_setIfInBounds_ne e] using hj
      have := hcl j hj' k hk
      by_cases e' : i = k
      ·subst e'; rw [hL] at this; cases this
      ·simpa [Array.getElem?_setIfInBounds_ne e'] using this
    ·simp only [ho] at hst
     have hst' : after ops effs nx s (fun j => (listed.setIfInBounds i true).getD j false) ops.size = (after ops effs nx s (fun j => listed.getD j false) ops.size).app ops[i].dst (effs i) (nx + 64 * i) := by
      rw [← show ((some ops[i]).bind fun x => x.dst) = ops[i].dst from rfl, ← hst]
      refine zeu _ (fun k _ => ?_)
      by_cases e : k = i
      ·subst e
       have : k < listed.size := by omega
       simp [this]
      ·simp [Array.getElem?_setIfInBounds_ne (Ne.symm e), e]
     rw [hst']; exact hr'
 refine main ops.size _ a _ (by simp) ?_ ?_ ?_
 ·exact Nat.le_trans (List.length_filter_le _ _) (by simp)
 ·intro j hj
  by_cases h : j < ops.size <;> simp [h] at hj
 ·have e0 : ∀ k, after ops effs nx s (fun j => (Array.replicate ops.size false).getD j false) k = s := by
   intro k
   induction k with
   | zero => rfl
   | succ k ih =>
     simp only [after, ih]
     by_cases h : k < ops.size <;> simp [h]
  rw [e0]
  exact hr.drawn
def aftI (ro : Option Nat) (dp : Nat) (J : Names → (Nat → Prop) → World → Prop) (E : Ctx) : List It → Fin → Fin
 | [], Q, e, a, w => Q e a w
 | .code c :: k, Q, .normal, a, w => c.wpIn (FW ro) dp E.P (aftI ro dp J E k Q) a w
 | .code _ :: k, Q, e, a, w => aftI ro dp J E k Q e a w
 | .blk id :: k, Q, .exit i, a, w => if i = id then aftI ro dp J E k Q .normal a w else aftI ro dp J E k Q (.exit i) a w
 | .blk _ :: k, Q, e, a, w => aftI ro dp J E k Q e a w
 | .stop B :: _, _, .normal, a, w => ∃ x, Rel E x.den a w ∧ B x
 | .stop _ :: k, Q, e, a, w => aftI ro dp J E k Q e a w
 | .ops _ _ _ _ _ :: k, Q, e, a, w => aftI ro dp J E k Q e a w
 | .br _ _ _ :: k, Q, e, a, w => aftI ro dp J E k Q e a w
 | .gd _ _ _ _ _ _ _ _ :: k, Q, e, a, w => aftI ro dp J E k Q e a w
 | .eff _ _ _ _ _ _ _ :: k, Q, e, a, w => aftI ro dp J E k Q e a w
def LoopI (ro : Option Nat) (dp : Nat) (J : Names → (Nat → Prop) → World → Prop) (P : Program) (nt : Nat) (R : Exit → X → Prop) (body : Code) (k : List It) (x : X) : Prop :=
 ∀ E : Ctx, E.P = P → E.nt = nt → (∀ s σ I a w, RelAt E s σ I a w → J σ I w) → ∀ a w, Rel E x.den a w → (Code.loop body).wpIn (FW ro) dp P (aftI ro dp J E k (zft E R)) a w
inductive CI (ro : Option Nat) (dp : Nat) (J : Names → (Nat → Prop) → World → Prop) (P : Program) (nt : Nat) (R : Exit → X → Prop) : List It → X → Prop
 | fin {x : X} (h : R .normal x) : CI ro dp J P nt R [] x
 | stop {B : X → Prop} {k : List It} {x : X} (h : B x) : CI ro dp J P nt R (.stop B :: k) x
 | blk {id : Nat} {k : List It} {x : X} (h : CI ro dp J P nt R k x) : CI ro dp J P nt R (.blk id :: k) x
 | skip {k : List It} {x : X} (h : CI ro dp J P nt R k x) : CI ro dp J P nt R (.code .skip :: k) x
 | label {l : Nat} {k : List It} {x : X} (h : CI ro dp J P nt R k x) : CI ro dp J P nt R (.code (.label l) :: k) x
 | seq {c d : Code} {k : List It} {x : X} (h : CI ro dp J P nt R (.code c :: .code d :: k) x) : CI ro dp J P nt R (.code (.seq c d) :: k) x
 | block {id : Nat} {c : Code} {k : List It} {x : X} (h : CI ro dp J P nt R (.code c :: .blk id :: k) x) : CI ro dp J P nt R (.code (.block id c) :: k) x
 | cond {o : Operand} {c d : Code} {k : List It} {x : X} {t : Bool} (ho : ev (zad x.tm) o = .d (.v (.bool t)))
    (h1 : t = true → CI ro dp J P nt R (.code c :: k) x) (h2 : t = false → CI ro dp J P nt R (.code d :: k) x) : CI ro dp J P nt R (.code (.cond o c d) :: k) x
 | condAb {o : Operand} {c d : Code} {k : List It} {x : X} (ho : ev (zad x.tm) o = .ab) (h1 : CI ro dp J P nt R (.code c :: k) x) (h2 : CI ro dp J P nt R (.code d :: k) x) : CI ro dp J P nt R (.code (.cond o c d) :: k) x
 | exit {id : Nat} {k k' : List It} {x : X} (hp : zdg id k = some k') (h : CI ro dp J P nt R k' x) : CI ro dp J P nt R (.code (.exit id) :: k) x
 | ret {k : List It} {x : X} (h : R .ret x) : CI ro dp J P nt R (.code .ret :: k) x
 | loop {c : Code} {k : List It} {x : X} (h : LoopI ro dp J P nt R c k x) : CI ro dp J P nt R (.code (.loop c) :: k) x
 | region {id : Nat} {ops : Array Oper} {draw : Bool} {k : List It} {x : X} (h : CI ro dp J P nt R (.ops ops ops.toList 0 [] draw :: k) x) : CI ro dp J P nt R (.code (.region id ops draw) :: k) x
 | opEnd {ops : Array Oper} {i : Nat} {ft : List (List Nat × List Nat)} {draw : Bool} {k : List It} {x : X} (hd : draw = true → ∃ pre, zmv ops pre = true ∧ zsi pre ft = true)
    (h : CI ro dp J P nt R k ⟨x.tm, x.mm, x.nx + 64 * i⟩) : CI ro dp J P nt R (.ops ops [] i ft draw :: k) x
 | op {ops : Array Oper} {o : Oper} {rest : List Oper} {i : Nat} {ft : List (List Nat × List Nat)} {draw : Bool} {k : List It} {x : X} (e : Eff) (hdst : zbb nt o.dst = true)
    (hg : o.guard = none ∨ ∃ g wa, o.guard = some (g, wa) ∧ zcm ops g (zad x.tm) = some wa)
    (he : OpOkI ro dp J P o (zad x.tm) (e.mr (zaf x.mm)) (x.nx + 64 * i) e.res (e.mw (zaf x.mm)))
    (h : CI ro dp J P nt R (.ops ops rest (i + 1) (ft ++ [e.foot]) draw :: k) (x.app o.dst e)) : CI ro dp J P nt R (.ops ops (o :: rest) i ft draw :: k) x
 | opSkip {ops : Array Oper} {o : Oper} {rest : List Oper} {i : Nat} {ft : List (List Nat × List Nat)} {draw : Bool} {k : List It} {x : X} {g : Nat} {wa : Bool} {y : Value} (hdst : zbb nt o.dst = true)
    (hg : o.guard = some (g, wa)) (hb : gvv ops g (zad x.tm) = some y) (hne : yb y ≠ some wa)
    (h : CI ro dp J P nt R (.ops ops rest (i + 1) (ft ++ [([], [])]) draw :: k) (x.app o.dst ⟨.d (.v undef), [], []⟩)) : CI ro dp J P nt R (.ops ops (o :: rest) i ft draw :: k) x
 | weak {k : List It} {x y : X} (hk : zag k = true) (hs : ∀ (E : Ctx) a w, Rel E x.den a w → Rel E y.den a w) (h : CI ro dp J P nt R k y) : CI ro dp J P nt R k x
 | cut {k : List It} {x : X} (hk : zag k = true) (h : ∀ E : Ctx, E.P = P → E.nt = nt → (∀ s σ I a w, RelAt E s σ I a w → J σ I w) → ∀ a w, Rel E x.den a w → aftI ro dp J E k (zft E R) .normal a w) : CI ro dp J P nt R k x
theorem zc3 {E : Ctx} {Q : Fin} {id : Nat} {a : Act} {w : World} : ∀ {k k' : List It}, zdg id k = some k' → aftI ro dp J E k' Q .normal a w → aftI ro dp J E k Q (.exit id) a w
 | [], _, h, _ => by cases h
 | .blk i :: k, k', h, hq => by
   simp only [zdg] at h
   split at h
   ·rename_i e; cases h; subst e; simp [aftI]; exact hq
   ·rename_i e
    have : id ≠ i := fun x => e x.symm
    simp only [aftI, if_neg this]
    exact zc3 h hq
 | .code c :: k, k', h, hq => by simp only [zdg] at h; simp only [aftI]; exact zc3 h hq
 | .stop c :: k, k', h, hq => by simp only [zdg] at h; simp only [aftI]; exact zc3 h hq
 | .ops _ _ _ _ _ :: k, k', h, hq => by simp only [zdg] at h; simp only [aftI]; exact zc3 h hq
 | .br _ _ _ :: k, k', h, hq => by simp only [zdg] at h; simp only [aftI]; exact zc3 h hq
 | .gd _ _ _ _ _ _ _ _ :: k, k', h, hq => by simp only [zdg] at h; simp only [aftI]; exact zc3 h hq
 | .eff _ _ _ _ _ _ _ :: k, k', h, hq => by simp only [zdg] at h; simp only [aftI]; exact zc3 h hq
theorem ze9 {E : Ctx} {Q : Fin} {a : Act} {w : World} : ∀ (k : List It), Q .ret a w → aftI ro dp J E k Q .ret a w
 | [], h => h
 | .code _ :: k, h => by simp only [aftI]; exact ze9 k h
 | .blk _ :: k, h => by simp only [aftI]; exact ze9 k h
 | .stop _ :: k, h => by simp only [aftI]; exact ze9 k h
 | .ops _ _ _ _ _ :: k, h => by simp only [aftI]; exact ze9 k h
 | .br _ _ _ :: k, h => by simp only [aftI]; exact ze9 k h
 | .gd _ _ _ _ _ _ _ _ :: k, h => by simp only [aftI]; exact ze9 k h
 | .eff _ _ _ _ _ _ _ :: k, h => by simp only [aftI]; exact ze9 k h
def regStI (ro : Option Nat) (dp : Nat) (J : Names → (Nat → Prop) → World → Prop) (E : Ctx) (ops : Array Oper) (s0 : S) (nx : Nat) (tr : List Eff) (i : Nat) (x : X) : Prop :=
 tr.length = i ∧ x.nx = nx ∧ x.den.tm = (after ops (fun j => tr.getD j ⟨.any, [], []⟩) nx s0 (fun _ => true) i).tm ∧
  x.den.mm = (after ops (fun j => tr.getD j ⟨.any, [], []⟩) nx s0 (fun _ => true) i).mm ∧
  ∀ j o, j < i → ops[j]? = some o → OkAtI ro dp J E ops o (after ops (fun j => tr.getD j ⟨.any, [], []⟩) nx s0 (fun _ => true) j) (nx + 64 * j) (tr.getD j ⟨.any, [], []⟩)
theorem regStI.next {E : Ctx} {ops : Array Oper} {s0 : S} {nx : Nat} {tr : List Eff} {i : Nat} {x : X} (h : regStI ro dp J E ops s0 nx tr i x) {o : Oper} (ho : ops[i]? = some o) {e : Eff}
  (hok : OkAtI ro dp J E ops o (after ops (fun j => tr.getD j ⟨.any, [], []⟩) nx s0 (fun _ => true) i) (nx + 64 * i) e) : regStI ro dp J E ops s0 nx (tr ++ [e]) (i + 1) (x.app o.dst e) := by
 obtain ⟨h1, h2, h3, h4, h5⟩ := h
 have hold : ∀ j, j < i → (tr ++ [e]).getD j ⟨.any, [], []⟩ = tr.getD j ⟨.any, [], []⟩ := fun j hj => by
  simp [List.getD, List.getElem?_append_left (show j < tr.length by omega)]
 have hnew : (tr ++ [e]).getD i ⟨.any, [], []⟩ = e := by
  simp [List.getD, ← h1]
 have ha : ∀ j, j ≤ i → after ops (fun j => (tr ++ [e]).getD j ⟨.any, [], []⟩) nx s0 (fun _ => true) j = after ops (fun j => tr.getD j ⟨.any, [], []⟩) nx s0 (fun _ => true) j :=
  fun j hj => zp0 j (fun q hq => hold q (by omega))
 refine ⟨by simp [h1], h2, ?_, ?_, fun j o' hj hj' => ?_⟩
 ·rw [(X.den_app x o.dst e).1]
  simp only [after, if_true, ha i (Nat.le_refl _), ho, Option.bind_some, S.app, hnew, h3]
 ·rw [(X.den_app x o.dst e).2]
  simp only [after, if_true, ha i (Nat.le_refl _), ho, Option.bind_some, S.app, hnew, h4]
 ·rw [ha j (by omega)]
  by_cases e' : j = i
  ·subst e'
   rw [ho] at hj'; cases hj'
   rw [hnew]; exact hok
  ·rw [hold j (by omega)]
   exact h5 j o' (by omega) hj'
theorem zhm {P : Program} {nt : Nat} {R : Exit → X → Prop} (hm : P.follows .mixedOrders = true) {k : List It} {x : X} (h : CI ro dp J P nt R k x) :
  ∀ E : Ctx, E.P = P → E.nt = nt → (∀ s σ I a w, RelAt E s σ I a w → J σ I w) →
   ((zag k = true → ∀ a w, Rel E x.den a w → aftI ro dp J E k (zft E R) .normal a w) ∧
    ∀ ops rest i ft draw k', k = .ops ops rest i ft draw :: k' → zag k' = true → ∀ tr s0 nx, tr.map Eff.foot = ft → ops.toList.drop i = rest → i ≤ ops.size → regStI ro dp J E ops s0 nx tr i x → (∀ b, nx ≤ b → s0.fr b) →
     ∀ a w id, Rel E s0 a w → (Code.region id ops draw).wpIn (FW ro) dp P (aftI ro dp J E k' (zft E R)) a w) := by
 induction h with
 | fin h => exact fun E hP hn hJ => ⟨fun _ a w hr => ⟨_, hr, h⟩, fun _ _ _ _ _ _ h => by cases h⟩
 | stop h => exact fun E hP hn hJ => ⟨fun _ a w hr => ⟨_, hr, h⟩, fun _ _ _ _ _ _ h => by cases h⟩
 | blk h ih => exact fun E hP hn hJ => ⟨fun hc a w hr => (ih E hP hn hJ).1 (by simpa [zag, za8] using hc) a w hr, fun _ _ _ _ _ _ h => by cases h⟩
 | skip h ih => exact fun E hP hn hJ => ⟨fun hc a w hr => wpIn_skip ((ih E hP hn hJ).1 (by simpa [zag, za8] using hc) a w hr), fun _ _ _ _ _ _ h => by cases h⟩
 | label h ih => exact fun E hP hn hJ => ⟨fun hc a w hr => wpIn_label ((ih E hP hn hJ).1 (by simpa [zag, za8] using hc) a w hr), fun _ _ _ _ _ _ h => by cases h⟩
 | @seq c d k x h ih =>
   refine fun E hP hn hJ => ⟨fun hc a w hr => wpIn_seq ?_, fun _ _ _ _ _ _ h => by cases h⟩
   have := (ih E hP hn hJ).1 (by simpa [zag, za8] using hc) a w hr
   simp only [aftI] at this
   refine wpIn_mono this (fun e a w h => ?_)
   cases e <;> simp only [aftI, Exit.then] at h ⊢ <;> exact h
 | @block id c k x h ih =>
   refine fun E hP hn hJ => ⟨fun hc a w hr => wpIn_block ?_, fun _ _ _ _ _ _ h => by cases h⟩
   have := (ih E hP hn hJ).1 (by simpa [zag, za8] using hc) a w hr
   simp only [aftI] at this
   refine wpIn_mono this (fun e a w h => ?_)
   cases e <;> simp only [aftI, Exit.inBlock] at h ⊢ <;> exact h
 | @cond o c d k x t ho h1 h2 ih1 ih2 =>
   refine fun E hP hn hJ => ⟨fun hc a w hr => ?_, fun _ _ _ _ _ _ h => by cases h⟩
   have hv : a.eval o = .bool t := by
    obtain ⟨σ, I, hr⟩ := hr
    exact zm2 (ho ▸ zav (tm := x.den.tm) fun s e => hr.tm s)
   cases t with
   | true => exact wpIn_cond_true hv ((ih1 rfl E hP hn hJ).1 (by simpa [zag, za8] using hc) a w hr)
   | false => exact wpIn_cond_false hv ((ih2 rfl E hP hn hJ).1 (by simpa [zag, za8] using hc) a w hr)
 | @condAb o c d k x ho h1 h2 ih1 ih2 =>
   refine fun E hP hn hJ => ⟨fun hc a w hr => ?_, fun _ _ _ _ _ _ h => by cases h⟩
   obtain ⟨t, hv⟩ : ∃ t, a.eval o = .bool t := by
    obtain ⟨σ, I, hr⟩ := hr
    have := zav (σ := σ) (I := I) (w := w) (tm := x.den.tm) (a := a) (x := o) fun s e => hr.tm s
    rw [show ev x.den.tm o = .ab from ho] at this
    generalize a.eval o = u at this
    cases this with
    | ab t => exact ⟨t, rfl⟩
   cases t with
   | true => exact wpIn_cond_true hv ((ih1 E hP hn hJ).1 (by simpa [zag, za8] using hc) a w hr)
   | false => exact wpIn_cond_false hv ((ih2 E hP hn hJ).1 (by simpa [zag, za8] using hc) a w hr)
 | exit hp h ih => exact fun E hP hn hJ => ⟨fun hc a w hr => wpIn_exit (zc3 hp ((ih E hP hn hJ).1 (za7 (by simpa [zag, za8] using hc) hp) a w hr)), fun _ _ _ _ _ _ h => by cases h⟩
 | ret h => exact fun E hP hn hJ => ⟨fun _ a w hr => wpIn_ret (by exact ze9 _ ⟨_, hr, h⟩), fun _ _ _ _ _ _ h => by cases h⟩
 | loop h => exact fun E hP hn hJ => ⟨fun _ a w hr => by subst hP; exact h E rfl hn hJ a w hr, fun _ _ _ _ _ _ h => by cases h⟩
 | @region id ops draw k x h ih =>
   refine fun E hP hn hJ => ⟨fun hc a w hr => ?_, fun _ _ _ _ _ _ h => by cases h⟩
   have := (ih E hP hn hJ).2 ops ops.toList 0 [] draw k rfl (by simpa [zag, za8] using hc) [] x.den x.nx rfl rfl (Nat.zero_le _) ⟨rfl, rfl, rfl, rfl, fun j o hj => by omega⟩ (fun b hb => hb) a w id hr
   subst hP
   exact this
 | @opEnd ops i ft draw k x hd h ih =>
   refine fun E hP hn hJ => ⟨fun hc => by simp [zag, za8] at hc, fun ops' rest' i' ft' draw' k' he hc tr s0 nx hft hdrop hle hst hfr a w id hr => ?_⟩
   cases he; subst hft
   have hi : i = ops.size := by
    have := congrArg List.length hdrop
    simp at this; omega
   subst hi
   obtain ⟨g1, g2, g3, g4, g5⟩ := hst
   subst hP
   have hok : ∀ j o, ops[j]? = some o → OkAtI ro dp J E ops o (after ops (fun j => tr.getD j ⟨.any, [], []⟩) nx s0 (fun _ => true) j) (nx + 64 * j) (tr.getD j ⟨.any, [], []⟩) :=
    fun j o hj => g5 j o (Array.getElem?_eq_some_iff.1 hj).1 hj
   have hQ : ∀ a w, Rel E (after ops (fun j => tr.getD j ⟨.any, [], []⟩) nx s0 (fun _ => true) ops.size) a w → aftI ro dp J E k (zft E R) .normal a w := by
    intro a w hr'
    refine (ih E rfl hn hJ).1 hc a w (hr'.fr g3 g4 (fun b hb => ?_))
    rw [ze8]
    have hb' : x.nx + 64 * ops.size ≤ b := hb
    rw [g2] at hb'
    exact ⟨hfr b (by omega), fun j hj _ hf => by have := hf.2; omega⟩
   cases draw with
   | false => exact ztq hok hfr hJ hr hQ
   | true =>
     obtain ⟨pre, q1, q2⟩ := hd rfl
     exact ztr hm _ (zkq q1) (zn3 q1 g1 q2) hok hfr hJ hr hQ
 | @op ops o rest i ft draw k x e hdst hg he h ih =>
   refine fun E hP hn hJ => ⟨fun hc => by simp [zag, za8] at hc, fun ops' rest' i' ft' draw' k' hee hc tr s0 nx hft hdrop hle hst hfr a w id hr => ?_⟩
   cases hee; subst hft
   have hlt : i < ops.size := by
    have := congrArg List.length hdrop
    simp at this; omega
   have ho : ops[i]? = some o := by
    have : (ops.toList.drop i)[0]? = some o := by rw [hdrop]; rfl
    simpa using this
   have hdrop' : ops.toList.drop (i + 1) = rest := by
    have := congrArg List.tail hdrop
    simpa [List.tail_drop] using this
   refine (ih E hP hn hJ).2 ops rest (i + 1) _ draw k rfl hc (tr ++ [e]) s0 nx (by simp) hdrop' hlt (hst.next ho ?_) hfr a w id hr
   subst hP; subst hn
   obtain ⟨g1, g2, g3, g4, g5⟩ := hst
   refine ⟨fun d hd => by simpa [zbb, hd] using hdst, ?_⟩
   rw [← g3, ← g4, ← g2]
   rcases hg with hg | ⟨g, wa, hg, hb⟩
   ·exact .inl ⟨hg, he⟩
   ·obtain ⟨p, d, p1, p2, p3⟩ := znz hb
    exact .inr ⟨g, wa, p, d, .bool wa, hg, p1, p2, p3, .inl ⟨rfl, he⟩⟩
 | @opSkip ops o rest i ft draw k x g wa y hdst hg hb hne h ih =>
   refine fun E hP hn hJ => ⟨fun hc => by simp [zag, za8] at hc, fun ops' rest' i' ft' draw' k' hee hc tr s0 nx hft hdrop hle hst hfr a w id hr => ?_⟩
   cases hee; subst hft
   have hlt : i < ops.size := by
    have := congrArg List.length hdrop
    simp at this; omega
   have ho : ops[i]? = some o := by
    have : (ops.toList.drop i)[0]? = some o := by rw [hdrop]; rfl
    simpa using this
   have hdrop' : ops.toList.drop (i + 1) = rest := by
    have := congrArg List.tail hdrop
    simpa [List.tail_drop] using this
   refine (ih E hP hn hJ).2 ops rest (i + 1) _ draw k rfl hc (tr ++ [⟨.d (.v undef), [], []⟩]) s0 nx (by simp [Eff.foot]) hdrop' hlt (hst.next ho ?_) hfr a w id hr
   subst hP; subst hn
   obtain ⟨g1, g2, g3, g4, g5⟩ := hst
   refine ⟨fun d hd => by simpa [zbb, hd] using hdst, ?_⟩
   obtain ⟨p, d, p1, p2, p3⟩ := zv1 hb
   refine .inr ⟨g, wa, p, d, y, hg, p1, p2, ?_, .inr ⟨hne, rfl⟩⟩
   rw [← g3]; exact p3
 | weak hk hs h ih =>
   refine fun E hP hn hJ => ⟨fun hc a w hr => (ih E hP hn hJ).1 hc a w (hs E a w hr), fun ops' rest' i' tr' draw' k' hee => ?_⟩
   subst hee; simp [zag, za8] at hk
 | cut hk h =>
   refine fun E hP hn hJ => ⟨fun hc a w hr => h E hP hn hJ a w hr, fun ops' rest' i' tr' draw' k' hee => ?_⟩
   subst hee; simp [zag, za8] at hk
end
section
variable {ro : Option Nat} {dp : Nat} {J : Names → (Nat → Prop) → World → Prop}
noncomputable def runI (ro : Option Nat) (dp : Nat) (J : Names → (Nat → Prop) → World → Prop) (P : Program) (nt : Nat) (R : Exit → X → Prop) (st : Nat) : Nat → List It → X → Prop
 | 0, _, _ => False
 | _ + 1, [], x => R .normal x
 | _ + 1, .stop B :: _, x => B x
 | n + 1, .blk _ :: k, x => runI ro dp J P nt R st n k x
 | n + 1, .br v a b :: k, x => match v with
   | .d (.v (.bool true)) => runI ro dp J P nt R st n (.code a :: k) x
   | .d (.v (.bool false)) => runI ro dp J P nt R st n (.code b :: k) x
   | .ab => runI ro dp J P nt R st n (.code a :: k) x ∧ runI ro dp J P nt R st n (.code b :: k) x
   | _ => False
 | n + 1, .ops ops rest i ft d :: k, x => match rest with
   | [] => if d then (za4 ops ft ∧ runI ro dp J P nt R st n k ⟨x.tm, x.mm, x.nx + 64 * i⟩) else runI ro dp J P nt R st n k ⟨x.tm, x.mm, x.nx + 64 * i⟩
   | o :: rest => match o.guard with
     | none => runI ro dp J P nt R st n (.eff (absC P o (zad x.tm) (zaf x.mm) (x.nx + 64 * i)) ops o rest i ft d :: k) x
     | some (g, wa) => runI ro dp J P nt R st n (.gd (gval ops g (zad x.tm)) wa ops o rest i ft d :: k) x
 | n + 1, .gd v wa ops o rest i ft d :: k, x => match v with
   | .d (.v (.bool true)) => if wa then runI ro dp J P nt R st n (.eff (absC P o (zad x.tm) (zaf x.mm) (x.nx + 64 * i)) ops o rest i ft d :: k) x
     else (zbb nt o.dst = true ∧ runI ro dp J P nt R st n (.ops ops rest (i + 1) (ft ++ [([], [])]) d :: k) (x.app o.dst ⟨.d (.v undef), [], []⟩))
   | .d (.v (.bool false)) => if wa then (zbb nt o.dst = true ∧ runI ro dp J P nt R st n (.ops ops rest (i + 1) (ft ++ [([], [])]) d :: k) (x.app o.dst ⟨.d (.v undef), [], []⟩))
     else runI ro dp J P nt R st n (.eff (absC P o (zad x.tm) (zaf x.mm) (x.nx + 64 * i)) ops o rest i ft d :: k) x
   | .d (.v (.tuple _)) => zbb nt o.dst = true ∧ runI ro dp J P nt R st n (.ops ops rest (i + 1) (ft ++ [([], [])]) d :: k) (x.app o.dst ⟨.d (.v undef), [], []⟩)
   | _ => False
 | n + 1, .eff r ops o rest i ft d :: k, x => match r with
   | some (sc, e) => sc ∧ zbb nt o.dst = true ∧ runI ro dp J P nt R st n (.ops ops rest (i + 1) (ft ++ [e.foot]) d :: k) (x.app o.dst e)
   | none => CI ro dp J P nt R (.ops ops (o :: rest) i ft d :: k) x
 | n + 1, .code c :: k, x => match c with
   | .skip => runI ro dp J P nt R st n k x
   | .label _ => runI ro dp J P nt R st n k x
   | .seq a b => runI ro dp J P nt R st n (.code a :: .code b :: k) x
   | .block id a => runI ro dp J P nt R st n (.code a :: .blk id :: k) x
   | .cond o a b => runI ro dp J P nt R st n (.br (ev (zad x.tm) o) a b :: k) x
   | .region id ops d => if id = st then CI ro dp J P nt R (.code (.region id ops d) :: k) x else runI ro dp J P nt R st n (.ops ops ops.toList 0 [] d :: k) x
   | .ret => R .ret x
   | .exit id => match zdg id k with
     | some k' => runI ro dp J P nt R st n k' x
     | none => False
   | .loop a => LoopI ro dp J P nt R a k x
   | _ => False
def qa5 (ro : Option Nat) (dp : Nat) (J : Names → (Nat → Prop) → World → Prop) (P : Program) (nt : Nat) (R : Exit → X → Prop) (x : X) : List It → Prop
 | .br v a b :: k => ∀ o, ev (zad x.tm) o = v → CI ro dp J P nt R (.code (.cond o a b) :: k) x
 | .gd v wa ops o rest i ft d :: k => ∀ g, o.guard = some (g, wa) → gval ops g (zad x.tm) = v → CI ro dp J P nt R (.ops ops (o :: rest) i ft d :: k) x
 | .eff r ops o rest i ft d :: k => (o.guard = none ∨ ∃ g wa, o.guard = some (g, wa) ∧ zcm ops g (zad x.tm) = some wa) → absC P o (zad x.tm) (zaf x.mm) (x.nx + 64 * i) = r → CI ro dp J P nt R (.ops ops (o :: rest) i ft d :: k) x
 | k => CI ro dp J P nt R k x
theorem zn9 {P : Program} {o : Oper} {tm : Nat → AV} {mem : Mem} {nx : Nat} {r : Prop × Eff} (h : absC P o tm mem nx = some r) : zf5 o = true := by
 unfold zf5
 split
 ·rename_i c hc
  simp [absC, qb7, hc] at h
 ·rfl
theorem zdn {P : Program} {nt : Nat} {R : Exit → X → Prop} {x : X} : ∀ {k : List It}, zag k = true → qa5 ro dp J P nt R x k → CI ro dp J P nt R k x
 | [], _, h => h
 | .stop _ :: _, _, h => h
 | .blk _ :: _, _, h => h
 | .code _ :: _, _, h => h
 | .ops _ _ _ _ _ :: _, _, h => h
 | .br _ _ _ :: _, h, _ => by simp [zag, za8] at h
 | .gd _ _ _ _ _ _ _ _ :: _, h, _ => by simp [zag, za8] at h
 | .eff _ _ _ _ _ _ _ :: _, h, _ => by simp [zag, za8] at h
theorem znl {P : Program} {nt : Nat} {R : Exit → X → Prop} {st : Nat} : ∀ (n : Nat) (k : List It) (x : X), good k = true → runI ro dp J P nt R st n k x → qa5 ro dp J P nt R x k := by
 intro n
 induction n with
 | zero => intro k x _ h; exact h.elim
 | succ n ih =>
   intro k x hg h
   match k, hg, h with
   | [], _, h => exact .fin h
   | .stop B :: k, _, h => exact .stop h
   | .blk id :: k, hg, h => exact .blk (zdn hg (ih k x (zat hg) h))
   | .br v a b :: k, hg, h =>
     intro o ho
     simp only [runI] at h
     split at h
     ·exact .cond ho (fun _ => ih _ x (by exact hg) h) (fun e => by cases e)
     ·exact .cond ho (fun e => by cases e) (fun _ => ih _ x (by exact hg) h)
     ·exact .condAb ho (ih _ x (by exact hg) h.1) (ih _ x (by exact hg) h.2)
     ·exact h.elim
   | .ops ops rest i ft d :: k, hg, h =>
     simp only [runI] at h
     split at h
     ·split at h
      ·exact .opEnd (fun _ => ⟨_, h.1.1, h.1.2⟩) (zdn hg (ih k _ (zat hg) h.2))
      ·rename_i hd
       exact .opEnd (fun e => absurd e (by simpa using hd)) (zdn hg (ih k _ (zat hg) h))
     ·split at h
      ·exact ih _ x (by exact hg) h (.inl ‹_›) rfl
      ·exact ih _ x (by exact hg) h _ ‹_› rfl
   | .gd v wa ops o rest i ft d :: k, hg, h =>
     intro g hgd hv
     simp only [runI] at h
     split at h
     ·split at h
      ·rename_i hwa
       exact ih _ x (by exact hg) h (.inr ⟨g, wa, hgd, by rw [zee hv, hwa]⟩) rfl
      ·rename_i hwa
       exact .opSkip h.1 hgd (zdj hv) (by intro e; simp only [yb, Option.some.injEq] at e; exact hwa e.symm) (ih _ _ (by exact hg) h.2)
     ·split at h
      ·rename_i hwa
       exact .opSkip h.1 hgd (zdj hv) (by intro e; rw [hwa] at e; cases e) (ih _ _ (by exact hg) h.2)
      ·rename_i hwa
       refine ih _ x (by exact hg) h (.inr ⟨g, wa, hgd, ?_⟩) rfl
       rw [zee hv]
       cases wa
       ·rfl
       ·exact absurd rfl hwa
     ·exact .opSkip h.1 hgd (zdj hv) (by intro e; cases e) (ih _ _ (by exact hg) h.2)
     ·exact h.elim
   | .eff r ops o rest i ft d :: k, hg, h =>
     intro hgd hr
     simp only [runI] at h
     split at h
     ·exact .op _ h.2.1 hgd ((zhj hr h.1).toI (zn9 hr)) (ih _ _ (by exact hg) h.2.2)
     ·exact h
   | .code c :: k, hg, h =>
     have hck : ∀ c', zag (.code c' :: k) = true := fun c' => by simp only [zag, List.all_cons, za8, Bool.not_false, Bool.true_and]; exact hg
     simp only [runI] at h
     split at h
     ·exact .skip (zdn hg (ih k x (zat hg) h))
     ·exact .label (zdn hg (ih k x (zat hg) h))
     ·exact .seq (ih _ x (by exact hck _) h)
     ·exact .block (ih _ x (by simp only [good, zag, List.all_cons, za8, Bool.not_false, Bool.true_and]; exact hg) h)
     ·rename_i o a b
      exact ih _ x (by exact hg) h o rfl
     ·split at h
      ·exact h
      ·exact .region (ih _ x (by exact hg) h)
     ·exact .ret h
     ·split at h
      ·rename_i k' hp
       exact .exit hp (zdn (za7 hg hp) (ih _ x (zat (za7 hg hp)) h))
      ·exact h.elim
     ·exact .loop h
     ·exact h.elim
theorem CI.run {P : Program} {nt : Nat} {R : Exit → X → Prop} (st n : Nat) {k : List It} {x : X} (hc : zag k = true) (h : AI.runI ro dp J P nt R st n k x) : CI ro dp J P nt R k x :=
 zdn hc (znl n k x (zat hc) h)
theorem CI.runOps {P : Program} {nt : Nat} {R : Exit → X → Prop} (st n : Nat) {ops : Array Oper} {rest : List Oper} {i : Nat} {ft : List (List Nat × List Nat)} {d : Bool} {k : List It} {x : X} (hc : zag k = true)
  (h : AI.runI ro dp J P nt R st n (.ops ops rest i ft d :: k) x) : CI ro dp J P nt R (.ops ops rest i ft d :: k) x :=
 znl n _ x (by exact hc) h
section
variable {P : Program} {nt : Nat} {R : Exit → X → Prop} {st n : Nat} {k : List It} {x : X}
@[simp] theorem runI_nil : runI ro dp J P nt R st (n + 1) [] x = R .normal x := propext Iff.rfl
@[simp] theorem runI_stop {B : X → Prop} : runI ro dp J P nt R st (n + 1) (.stop B :: k) x = B x := propext Iff.rfl
@[simp] theorem runI_blk {id : Nat} : runI ro dp J P nt R st (n + 1) (.blk id :: k) x = runI ro dp J P nt R st n k x := propext Iff.rfl
@[simp] theorem runI_br_true {a b : Code} : runI ro dp J P nt R st (n + 1) (.br (.d (.v (.bool true))) a b :: k) x = runI ro dp J P nt R st n (.code a :: k) x := propext Iff.rfl
@[simp] theorem runI_br_ab {a b : Code} : runI ro dp J P nt R st (n + 1) (.br .ab a b :: k) x = (runI ro dp J P nt R st n (.code a :: k) x ∧ runI ro dp J P nt R st n (.code b :: k) x) := propext Iff.rfl
@[simp] theorem runI_br_false {a b : Code} : runI ro dp J P nt R st (n + 1) (.br (.d (.v (.bool false))) a b :: k) x = runI ro dp J P nt R st n (.code b :: k) x := propext Iff.rfl
@[simp] theorem runI_ops_nil {ops : Array Oper} {i : Nat} {ft : List (List Nat × List Nat)} : runI ro dp J P nt R st (n + 1) (.ops ops [] i ft false :: k) x = runI ro dp J P nt R st n k ⟨x.tm, x.mm, x.nx + 64 * i⟩ := propext Iff.rfl
@[simp] theorem runI_ops_nil_draw {ops : Array Oper} {i : Nat} {ft : List (List Nat × List Nat)} : runI ro dp J P nt R st (n + 1) (.ops ops [] i ft true :: k) x = (za4 ops ft ∧ runI ro dp J P nt R st n k ⟨x.tm, x.mm, x.nx + 64 * i⟩) := propext Iff.rfl
@[simp] theorem runI_ops_cons {ops : Array Oper} {dst : Option Tmp} {op : Op} {ty : TypeId} {pos : String} {aftI : Array Edge} {rest : List Oper} {i : Nat} {ft : List (List Nat × List Nat)} {d : Bool} :
   runI ro dp J P nt R st (n + 1) (.ops ops (⟨dst, op, ty, pos, aftI, none⟩ :: rest) i ft d :: k) x = runI ro dp J P nt R st n (.eff (absC P ⟨dst, op, ty, pos, aftI, none⟩ (zad x.tm) (zaf x.mm) (x.nx + 64 * i)) ops ⟨dst, op, ty, pos, aftI, none⟩ rest i ft d :: k) x := propext Iff.rfl
@[simp] theorem runI_ops_guard {ops : Array Oper} {dst : Option Tmp} {op : Op} {ty : TypeId} {pos : String} {aftI : Array Edge} {g : Nat} {wa : Bool} {rest : List Oper} {i : Nat} {ft : List (List Nat × List Nat)} {d : Bool} :
   runI ro dp J P nt R st (n + 1) (.ops ops (⟨dst, op, ty, pos, aftI, some (g, wa)⟩ :: rest) i ft d :: k) x = runI ro dp J P nt R st n (.gd (gval ops g (zad x.tm)) wa ops ⟨dst, op, ty, pos, aftI, some (g, wa)⟩ rest i ft d :: k) x := propext Iff.rfl
@[simp] theorem runI_gd_tt {ops : Array Oper} {o : Oper} {rest : List Oper} {i : Nat} {ft : List (List Nat × List Nat)} {d : Bool} :
   runI ro dp J P nt R st (n + 1) (.gd (.d (.v (.bool true))) true ops o rest i ft d :: k) x = runI ro dp J P nt R st n (.eff (absC P o (zad x.tm) (zaf x.mm) (x.nx + 64 * i)) ops o rest i ft d :: k) x := propext Iff.rfl
@[simp] theorem runI_gd_ff {ops : Array Oper} {o : Oper} {rest : List Oper} {i : Nat} {ft : List (List Nat × List Nat)} {d : Bool} :
   runI ro dp J P nt R st (n + 1) (.gd (.d (.v (.bool false))) false ops o rest i ft d :: k) x = runI ro dp J P nt R st n (.eff (absC P o (zad x.tm) (zaf x.mm) (x.nx + 64 * i)) ops o rest i ft d :: k) x := propext Iff.rfl
@[simp] theorem runI_gd_tf {ops : Array Oper} {o : Oper} {rest : List Oper} {i : Nat} {ft : List (List Nat × List Nat)} {d : Bool} :
   runI ro dp J P nt R st (n + 1) (.gd (.d (.v (.bool true))) false ops o rest i ft d :: k) x = (zbb nt o.dst = true ∧ runI ro dp J P nt R st n (.ops ops rest (i + 1) (ft ++ [([], [])]) d :: k) (x.app o.dst ⟨.d (.v undef), [], []⟩)) := propext Iff.rfl
@[simp] theorem runI_gd_ft {ops : Array Oper} {o : Oper} {rest : List Oper} {i : Nat} {ft : List (List Nat × List Nat)} {d : Bool} :
   runI ro dp J P nt R st (n + 1) (.gd (.d (.v (.bool false))) true ops o rest i ft d :: k) x = (zbb nt o.dst = true ∧ runI ro dp J P nt R st n (.ops ops rest (i + 1) (ft ++ [([], [])]) d :: k) (x.app o.dst ⟨.d (.v undef), [], []⟩)) := propext Iff.rfl
@[simp] theorem runI_gd_un {ops : Array Oper} {o : Oper} {rest : List Oper} {i : Nat} {ft : List (List Nat × List Nat)} {d wa : Bool} :
   runI ro dp J P nt R st (n + 1) (.gd (.d (.v undef)) wa ops o rest i ft d :: k) x = (zbb nt o.dst = true ∧ runI ro dp J P nt R st n (.ops ops rest (i + 1) (ft ++ [([], [])]) d :: k) (x.app o.dst ⟨.d (.v undef), [], []⟩)) := propext Iff.rfl
@[simp] theorem runI_eff_some {ops : Array Oper} {o : Oper} {rest : List Oper} {i : Nat} {ft : List (List Nat × List Nat)} {d : Bool} {sc : Prop} {e : Eff} :
   runI ro dp J P nt R st (n + 1) (.eff (some (sc, e)) ops o rest i ft d :: k) x = (sc ∧ zbb nt o.dst = true ∧ runI ro dp J P nt R st n (.ops ops rest (i + 1) (ft ++ [e.foot]) d :: k) (x.app o.dst e)) := propext Iff.rfl
@[simp] theorem runI_eff_none {ops : Array Oper} {o : Oper} {rest : List Oper} {i : Nat} {ft : List (List Nat × List Nat)} {d : Bool} :
   runI ro dp J P nt R st (n + 1) (.eff none ops o rest i ft d :: k) x = CI ro dp J P nt R (.ops ops (o :: rest) i ft d :: k) x := propext Iff.rfl
@[simp] theorem runI_skip : runI ro dp J P nt R st (n + 1) (.code .skip :: k) x = runI ro dp J P nt R st n k x := propext Iff.rfl
@[simp] theorem runI_label {l : Nat} : runI ro dp J P nt R st (n + 1) (.code (.label l) :: k) x = runI ro dp J P nt R st n k x := propext Iff.rfl
@[simp] theorem runI_seq {a b : Code} : runI ro dp J P nt R st (n + 1) (.code (.seq a b) :: k) x = runI ro dp J P nt R st n (.code a :: .code b :: k) x := propext Iff.rfl
@[simp] theorem runI_block {id : Nat} {a : Code} : runI ro dp J P nt R st (n + 1) (.code (.block id a) :: k) x = runI ro dp J P nt R st n (.code a :: .blk id :: k) x := propext Iff.rfl
@[simp] theorem runI_cond {o : Operand} {a b : Code} : runI ro dp J P nt R st (n + 1) (.code (.cond o a b) :: k) x = runI ro dp J P nt R st n (.br (ev (zad x.tm) o) a b :: k) x := propext Iff.rfl
@[simp] theorem runI_region {id : Nat} {ops : Array Oper} {d : Bool} : runI ro dp J P nt R st (n + 1) (.code (.region id ops d) :: k) x = (if id = st then CI ro dp J P nt R (.code (.region id ops d) :: k) x else runI ro dp J P nt R st n (.ops ops ops.toList 0 [] d :: k) x) := propext Iff.rfl
@[simp] theorem runI_ret : runI ro dp J P nt R st (n + 1) (.code .ret :: k) x = R .ret x := propext Iff.rfl
@[simp] theorem runI_exit {id : Nat} : runI ro dp J P nt R st (n + 1) (.code (.exit id) :: k) x = (match zdg id k with
    | some k' => runI ro dp J P nt R st n k' x
    | none => False) := propext Iff.rfl
@[simp] theorem runI_loop {a : Code} : runI ro dp J P nt R st (n + 1) (.code (.loop a) :: k) x = LoopI ro dp J P nt R a k x := propext Iff.rfl
end
end
end Go.AI
end
section
namespace Go.AI
section
variable {ro : Option Nat} {dp : Nat} {J : Names → (Nat → Prop) → World → Prop}
theorem CI.callC {P : Program} {nt : Nat} {R : Exit → X → Prop} {ops : Array Oper} {o : Oper} {rest : List Oper} {i : Nat} {ft : List (List Nat × List Nat)} {draw : Bool} {k : List It} {x : X} {c : Call} {fo : Operand} {f : FuncId} {first captured : List AV} {args : List AV} {mr m m' : List (Nat × Blk)} {res : AV} (bn : List Nat)
  (hct : Ct P f args mr m res m') (hen : zbu P f) (ho : o.op = .call c) (hc : c.callee = .value fo) (hdst : zbb nt o.dst = true) (hg : o.guard = none ∨ ∃ g wa, o.guard = some (g, wa) ∧ zcm ops g (zad x.tm) = some wa)
  (hf : zbc (ev (zad x.tm) fo) = some (f, first, captured)) (ha : leA.leL (first ++ c.args.toList.map (ev (zad x.tm)) ++ captured) (args.map (AV.ren (renL bn (x.nx + 64 * i))))) (hn : CallNames bn args mr m res m')
  (hk : ∀ p ∈ mr ++ m, zaf x.mm (renL bn (x.nx + 64 * i) p.1) = some (p.2.ren (renL bn (x.nx + 64 * i))))
  (h : CI ro dp J P nt R (.ops ops rest (i + 1) (ft ++ [(zbn bn (x.nx + 64 * i) mr m res m').foot]) draw :: k) (x.app o.dst (zbn bn (x.nx + 64 * i) mr m res m'))) : CI ro dp J P nt R (.ops ops (o :: rest) i ft draw :: k) x :=
 .op _ hdst hg ((zk8 ho hc _ _ _ hf hen hct ha hn hk).toI (by simp [zf5, ho])) h
theorem CI.callP {P : Program} {nt : Nat} {R : Exit → X → Prop} {ops : Array Oper} {o : Oper} {rest : List Oper} {i : Nat} {ft : List (List Nat × List Nat)} {draw : Bool} {k : List It} {x : X} {c : Call} {fo : Operand} {f : FuncId} {first captured : List AV} {args : List AV} {res : AV}
  (hct : Ct P f args [] [] res []) (hen : zbu P f) (ho : o.op = .call c) (hc : c.callee = .value fo) (hdst : zbb nt o.dst = true) (hg : o.guard = none ∨ ∃ g wa, o.guard = some (g, wa) ∧ zcm ops g (zad x.tm) = some wa)
  (hf : zbc (ev (zad x.tm) fo) = some (f, first, captured)) (ha : leA.leL (first ++ c.args.toList.map (ev (zad x.tm)) ++ captured) (args.map (AV.ren (renL [] (x.nx + 64 * i))))) (hnA : inA.inL (fun b => decide (b < 0)) args = true) (hnR : inA (nmOk 0) res = true)
  (h : CI ro dp J P nt R (.ops ops rest (i + 1) (ft ++ [([], [])]) draw :: k) ⟨putT o.dst (res.ren (renL [] (x.nx + 64 * i))) x.tm, x.mm, x.nx⟩) : CI ro dp J P nt R (.ops ops (o :: rest) i ft draw :: k) x :=
 .callC [] hct hen ho hc hdst hg hf ha ⟨by simp, by simp, hnA, by simp, by simp, hnR, by simp, by simp⟩ (by simp) h
end
end Go.AI
end
section
namespace Go.AI
theorem zfu {p : Nat → Prop} (h : ∃ n, p n) : ∃ n, p n ∧ ∀ m, p m → n ≤ m := by
 obtain ⟨n, hn⟩ := h
 induction n using Nat.strongRecOn with
 | _ n ih =>
   by_cases h : ∃ m, m < n ∧ p m
   ·obtain ⟨m, h1, h2⟩ := h; exact ih m h1 h2
   ·exact ⟨n, hn, fun m hm => Nat.le_of_not_lt (fun hlt => h ⟨m, hlt, hm⟩)⟩
section
variable {ro : Option Nat} {dp : Nat} {J : Names → (Nat → Prop) → World → Prop}
open Classical in
theorem LoopI.of {P : Program} {nt : Nat} {R : Exit → X → Prop} (hm : P.follows .mixedOrders = true) {c : Code} {k : List It} (hk : zag k = true) {ι : Type} (S : ι → X) (μ : ι → Nat)
  (h : ∀ i (B : X → Prop), (∀ x j, (∀ (E : Ctx) a w, Rel E x.den a w → Rel E (S j).den a w) → μ j < μ i → B x) → CI ro dp J P nt R (.code c :: .stop B :: k) (S i))
  {x : X} (i : ι) (hx : ∀ (E : Ctx) a w, Rel E x.den a w → Rel E (S i).den a w) : LoopI ro dp J P nt R c k x := by
 intro E hP hn hJ a w hr
 subst hP
 let p : Act → World → Nat → Prop := fun a w n => ∃ i, μ i = n ∧ Rel E (S i).den a w
 have hp0 : p a w (μ i) := ⟨i, rfl, hx E a w hr⟩
 let M : Act → World → Nat := fun a w => if h : ∃ n, p a w n then (zfu h).choose else 0
 refine wpIn_loop (fun a w => ∃ n, p a w n) M ⟨_, hp0⟩ ?_
 intro a w hI
 have hM : M a w = (zfu hI).choose := dif_pos hI
 obtain ⟨⟨i, hi, hri⟩, hmin⟩ := (zfu hI).choose_spec
 let B : X → Prop := fun x => ∃ j, (∀ (E : Ctx) a w, Rel E x.den a w → Rel E (S j).den a w) ∧ μ j < μ i
 have := (zhm hm (h i B (fun x j h1 h2 => ⟨j, h1, h2⟩)) E rfl hn hJ).1 (by simpa [zag, za8] using hk) a w hri
 simp only [aftI] at this
 refine wpIn_mono this (fun e a' w' hq => ?_)
 cases e with
 | normal =>
   simp only [aftI, Exit.then] at hq ⊢
   obtain ⟨x, hx, j, hj, hlt⟩ := hq
   have hp : p a' w' (μ j) := ⟨j, rfl, hj E a' w' hx⟩
   refine ⟨⟨_, hp⟩, ?_⟩
   have e1 : M a' w' = (zfu ⟨_, hp⟩).choose := dif_pos ⟨_, hp⟩
   have := (zfu ⟨_, hp⟩).choose_spec.2 _ hp
   omega
 | _ => simpa only [aftI, Exit.then] using hq
theorem CI.sub {P : Program} {nt : Nat} {R : Exit → X → Prop} {k : List It} {x : X} {tm : List (Nat × AV)} {m : List (Nat × Blk)} {nx : Nat} (g : List (Nat × Nat)) (gv : List Nat) (hk : zag k = true) (hs : SubOk x tm m nx g gv) (h : CI ro dp J P nt R k ⟨tm, m.map (fun p => (p.1, some p.2)), nx⟩) : CI ro dp J P nt R k x :=
 .weak hk (fun E a w hr => Rel.sub hs hr) h
abbrev SubW (x : X) (tm : List (Nat × AV)) (m : List (Nat × Blk)) (nx : Nat) (gv : List Nat) : Prop := AI.Sub x tm m nx gv
theorem LoopI.inv {P : Program} {nt : Nat} {R : Exit → X → Prop} {k : List It} {x : X} (hm : P.follows .mixedOrders = true) {c : Code} (hk : zag k = true) {ι : Type} (tm : ι → List (Nat × AV)) (m : ι → List (Nat × Blk)) (nx : Nat) (μ : ι → Nat) (i0 : ι) (gv : List Nat)
  (h0 : SubW x (tm i0) (m i0) nx gv)
  (step : ∀ i (B : X → Prop), (∀ x j gv, SubW x (tm j) (m j) nx gv → μ j < μ i → B x) → CI ro dp J P nt R (.code c :: .stop B :: k) ⟨tm i, (m i).map (fun p => (p.1, some p.2)), nx⟩) : LoopI ro dp J P nt R c k x :=
 LoopI.of hm hk (fun i => ⟨tm i, (m i).map (fun p => (p.1, some p.2)), nx⟩) μ (fun i B hB => step i B (fun x j gv hs hlt => hB x j (fun _ _ _ hr => Rel.sub hs hr) hlt)) i0 (fun _ _ _ hr => Rel.sub h0 hr)
theorem zop {P : Program} {nt : Nat} {R : Exit → X → Prop} {st n : Nat} {k : List It} {x : X} {ops : Array Oper} {o : Oper} {rest : List Oper} {i : Nat} {ft : List (List Nat × List Nat)} {d : Bool} {t wa : Bool}
  (h1 : t = true → runI ro dp J P nt R st n (.gd (.d (.v (.bool true))) wa ops o rest i ft d :: k) x) (h2 : t = false → runI ro dp J P nt R st n (.gd (.d (.v (.bool false))) wa ops o rest i ft d :: k) x) :
  runI ro dp J P nt R st n (.gd (.d (.v (.bool t))) wa ops o rest i ft d :: k) x := by
 cases t
 ·exact h2 rfl
 ·exact h1 rfl
theorem zoq {P : Program} {nt : Nat} {R : Exit → X → Prop} {st n : Nat} {t : Bool} {a b : Code} {k : List It} {x : X} (h1 : t = true → runI ro dp J P nt R st n (.br (.d (.v (.bool true))) a b :: k) x)
  (h2 : t = false → runI ro dp J P nt R st n (.br (.d (.v (.bool false))) a b :: k) x) : runI ro dp J P nt R st n (.br (.d (.v (.bool t))) a b :: k) x := by
 cases t
 ·exact h2 rfl
 ·exact h1 rfl
end
end Go.AI
end
section
namespace Go.AI
theorem RB.not_loop {σ : Names} {I : Nat → Prop} {w : World} {k : Blk} {x : Value} {n : Nat} {r : Loop} (h : RB σ I w k x) (hn : hb x = some n) : w.heap[n]? ≠ some (.loop r) := by
 cases h with
 | cells h1 h2 h3 => simp [hb] at hn; subst hn; rw [h1]; simp
 | none => simp [hb] at hn
 | emp a => simp [hb] at hn
 | @grow sz es T n' cap arr h1 h2 h3 h4 h5 h6 =>
   cases cap with
   | zero => simp [hb] at hn
   | succ cap => simp [hb] at hn; subst hn; rw [h1]; simp
 | map keys vals h1 _ _ _ _ _ => simp [hb] at hn; subst hn; rw [h1]; simp
 | mapO keys vals h1 _ _ _ _ _ _ _ _ => simp [hb] at hn; subst hn; rw [h1]; simp
 | iter h1 h2 => subst h2; simp [hb] at hn; subst hn; rw [h1]; simp
theorem zed {σ : Names} {I : Nat → Prop} {w : World} {m : Mem} (hm : RM σ I w m) {n : Nat} {r : Loop} (hn : w.heap[n]? = some (.loop r)) : ¬ Owns σ m n := by
 rintro ⟨b, k, x, h1, h2, h3⟩
 obtain ⟨x', h4, h5, _⟩ := hm.blk b k h1
 rw [h2] at h4; cases h4
 exact h5.not_loop h3 hn
def retR (m m' : List (Nat × Blk)) : Exit → X → Prop := fun e x => e = .normal ∧ FinOk (zaf x.mm) (.d (.v undef)) m (.d (.v undef)) m' []
theorem qcp {P : Program} {nt L dp : Nat} {r : Loop} {tmA tmB : List (Nat × AV)} {m0 m1 mB : List (Nat × Blk)} {nxB : Nat} (hm : P.follows .mixedOrders = true) (hrs : r.state = .ready) (hrp : r.pending = none)
  (hA : CI (some L) dp (fun _ _ _ => True) P nt (fun e x => e = .normal ∧ AI.Sub x tmB mB nxB []) [.code r.assign] ⟨tmA, m0.map (fun p => (p.1, some p.2)), 64⟩)
  (hB : CI (some L) dp (fun _ _ _ => True) P nt (retR m0 m1) [.code r.body] ⟨tmB, mB.map (fun p => (p.1, some p.2)), nxB⟩)
  {T : Array Value} {w : World} {σ : Names} {I : Nat → Prop} (hib : ∀ n, I n → n < w.heap.size) (hsz : T.size = nt) (htm : ∀ t, RV σ I w (zad tmA t) (T.getD t undef)) (hrm : RM σ I w (zab m0)) (hlow : ∀ b, 64 ≤ b → σ b = none)
  (hL : w.heap[L]? = some (.loop r)) (hI : ¬ I L) :
  RoundIn (FW none) dp P L r.fn T r.assign r.body w (fun e w' => e = .returned (.bool true) ∧ ∃ I', Post σ I w (zab m0) 64 σ I' w' (zab m1)) := by
 refine roundIn_of_wpIn (F := FW none) trivial ?_
 have hLlt : L < w.heap.size := (Array.getElem?_eq_some_iff.1 hL).1
 let E1 : Ctx := { P := P, w0 := w, bor := Owns σ (zab m0), I0 := I, nt := nt, s0 := σ }
 have hlk : zaf (m0.map fun p => (p.1, some p.2)) = zab m0 := zdi _
 have hrel1 : Rel E1 (X.den ⟨tmA, m0.map (fun p => (p.1, some p.2)), 64⟩) { tmps := T, defers := [] } w := by
  refine ⟨σ, I, hsz, rfl, htm, ?_, fun b hb => hlow b hb, hib, fun _ h => h, fun n h => .inl h, fun n h => ?_, rfl, rfl, ⟨rfl, Nat.le_refl _⟩, Nat.le_refl _, fun _ _ _ => rfl, fun _ _ h => h, hlow⟩
  ·show RM σ I w (zaf _); rw [hlk]; exact hrm
  ·have h' : Owns σ (zaf (m0.map fun p => (p.1, some p.2))) n := h
   rw [hlk] at h'; exact .inl h'
 have hw := (zhm hm hA E1 rfl rfl (fun _ _ _ _ _ _ => trivial)).1 rfl _ w hrel1
 simp only [aftI] at hw
 refine wpIn_mono hw (fun e a1 w1 hq => ?_)
 obtain ⟨x, hx, rfl, hsub⟩ : zft E1 (fun e x => e = .normal ∧ AI.Sub x tmB mB nxB []) e a1 w1 := by
  cases e <;> simpa [aftI] using hq
 obtain ⟨σ2, I2, hr2⟩ := Rel.sub hsub hx
 have hnb : ¬ Owns σ (zab m0) L := zed hrm hL
 have hL1 : w1.heap[L]? = some (.loop r) := (hr2.frame L hLlt hnb).trans hL
 have hI2 : ¬ I2 L := fun h => by
  rcases hr2.inew L h with g | g | g
  ·exact hI g
  ·exact hnb g
  ·have g' : w.heap.size ≤ L := g
   omega
 have hlkB : zaf (mB.map fun p => (p.1, some p.2)) = zab mB := zdi _
 have hmB : RM σ2 I2 w1 (zab mB) := by rw [← hlkB]; exact hr2.mm
 have hnB : ¬ Owns σ2 (zab mB) L := zed hmB hL1
 obtain ⟨W, hW⟩ : ∃ W, w1.putObj L (.loop { r with state := .busy }) = W := ⟨_, rfl⟩
 have hLlt1 : L < w1.heap.size := (Array.getElem?_eq_some_iff.1 hL1).1
 have hWo : ∀ n, n ≠ L → W.heap[n]? = w1.heap[n]? := fun n h => by rw [← hW]; exact World.putObj_heap_other h
 have hWL : W.heap[L]? = some (.loop { r with state := .busy }) := by rw [← hW]; exact World.putObj_heap_same hLlt1
 have hWs : W.heap.size = w1.heap.size := by rw [← hW]; simp [World.putObj]
 have hmB' : RM σ2 I2 W (zab mB) := by
  refine ⟨fun b k hb' => ?_, fun b b' k k' x x' n h1 h2 h3 h4 h5 h6 => hmB.apart b b' k k' x x' n h1 h2 h3 h4 h5 h6⟩
  obtain ⟨y, hy, hrb, hn⟩ := hmB.blk b k hb'
  refine ⟨y, hy, hrb.mono (fun n h => hWo n (fun e => hI2 (e ▸ h))) (fun _ h => h) (fun _ _ h => h) (fun n h => hWo n (fun e => ?_)), fun n h => ⟨by rw [hWs]; exact (hn n h).1, (hn n h).2⟩⟩
  subst e
  exact hnB ⟨b, k, y, hb', hy, h⟩
 refine ⟨W, by rw [← hW]; exact run_beginRound hL1 hrs, ?_⟩
 let E2 : Ctx := { P := P, w0 := W, bor := Owns σ2 (zab mB), I0 := I2, nt := nt, s0 := fun b => if b < 64 then σ2 b else none }
 have hrel2 : Rel E2 (X.den ⟨tmB, mB.map (fun p => (p.1, some p.2)), nxB⟩) a1 W := by
  refine ⟨σ2, I2, hr2.size, hr2.dfs, fun t => (hr2.tm t).mono (fun n h => hWo n (fun e => hI2 (e ▸ h))) (fun _ h => h) (fun _ _ h => h), ?_, hr2.free, fun n h => by rw [hWs]; exact hr2.ib n h, fun _ h => h, fun n h => .inl h, fun n h => ?_, rfl, rfl, ⟨rfl, Nat.le_refl _⟩, Nat.le_refl _, fun _ _ _ => rfl, fun b y hy => ?_, fun b hb' => ?_⟩
  ·show RM σ2 I2 W (zaf _); rw [hlkB]; exact hmB'
  ·have h' : Owns σ2 (zaf (mB.map fun p => (p.1, some p.2))) n := h
   rw [hlkB] at h'; exact .inl h'
  ·simp only [E2] at hy
   split at hy
   ·exact hy
   ·cases hy
  ·simp only [E2]; rw [if_neg (by omega)]
 have hwB := (zhm hm hB E2 rfl rfl (fun _ _ _ _ _ _ => trivial)).1 rfl _ W hrel2
 simp only [aftI] at hwB
 refine wpIn_mono hwB (fun e a2 w2 hq2 => ?_)
 obtain ⟨y, ⟨σf, If, hrf⟩, rfl, hfin⟩ : zft E2 (retR m0 m1) e a2 w2 := by
  cases e <;> simpa [aftI] using hq2
 have hL2 : w2.heap[L]? = some (.loop { r with state := .busy }) := (hrf.frame L (by show L < W.heap.size; omega) hnB).trans hWL
 refine ⟨_, _, run_endRound none hL2, ?_⟩
 have hre : ({ { r with state := .busy } with state := if (none : Option Code).isNone then .ready else .done, pending := none } : Loop) = r := by
  cases r; simp at hrs hrp; subst hrs; subst hrp; rfl
 rw [hre]
 obtain ⟨w3, hw3⟩ : ∃ w3, w2.putObj L (.loop r) = w3 := ⟨_, rfl⟩
 have hLlt2 : L < w2.heap.size := (Array.getElem?_eq_some_iff.1 hL2).1
 have h3o : ∀ n, n ≠ L → w3.heap[n]? = w2.heap[n]? := fun n h => by rw [← hw3]; exact World.putObj_heap_other h
 have h3L : w3.heap[L]? = some (.loop r) := by rw [← hw3]; exact World.putObj_heap_same hLlt2
 have h3s : w3.heap.size = w2.heap.size := by rw [← hw3]; simp [World.putObj]
 have h3os : w3.os = w2.os := by rw [← hw3]; rfl
 have h3tape : w3.tape = w2.tape := by rw [← hw3]; rfl
 have h3out : SameOut w3 w2 := by rw [← hw3]; exact ⟨rfl, Nat.le_refl _⟩
 have hWos : W.os = w1.os := by rw [← hW]; rfl
 have hWtape : W.tape = w1.tape := by rw [← hW]; rfl
 have hWout : SameOut W w1 := by rw [← hW]; exact ⟨rfl, Nat.le_refl _⟩
 rw [hw3]
 have hmf : RM σf If w2 (zaf y.mm) := hrf.mm
 have e2hs : W.heap.size ≤ w2.heap.size := hrf.hs
 have e1hs : w.heap.size ≤ w1.heap.size := hr2.hs
 have own2 : ∀ n, Owns σ2 (zab mB) n → Owns σ (zab m0) n ∨ w.heap.size ≤ n := fun n h => hr2.mine n (by
  show Owns σ2 (zaf _) n
  rw [hlkB]; exact h)
 have hIf : ¬ If L := fun h => by
  rcases hrf.inew L h with g | g | g
  ·exact hI2 g
  ·exact hnB g
  ·have g' : W.heap.size ≤ L := g
   omega
 have hnf : ¬ Owns σf (zaf y.mm) L := zed hmf hL2
 have up : ∀ b, b < 64 → ∀ z, σ b = some z → σf b = some z := fun b hb' z hz => by
  have h2 := hr2.keep b z hz
  exact hrf.keep b z (by simp only [E2]; rw [if_pos hb']; exact h2)
 have nm : ∀ b, nmF m0 [] b = true → b < 64 ∧ ∃ k, zab m0 b = some k := fun b hb' => by
  simp [nmF, lookN] at hb'
  exact ⟨hb'.1, Option.isSome_iff_exists.1 hb'.2⟩
 have gid : ∀ b, gf [] b = b := fun b => by simp [gf, lookN]
 have down : ∀ b, nmF m0 [] b = true → ∀ z, σf (gf [] b) = some z → σ b = some z := fun b hb' z hz => by
  obtain ⟨h1, k, hk⟩ := nm b hb'
  obtain ⟨z0, hz0, _⟩ := hrm.blk b k hk
  have := up b h1 z0 hz0
  rw [gid, this] at hz
  rw [hz0]; exact hz
 have hblk : ∀ b k, zab m1 b = some k → ∃ u, σ b = some u ∧ σf b = some u ∧ zaf y.mm b = some (k.ren (gf [])) ∧ RB σ If w3 k u ∧ ∀ n, hb u = some n → n < w3.heap.size ∧ ¬ If n := by
  intro b k hb'
  have hmem := zas hb'
  have hpo := hfin.post _ hmem
  obtain ⟨d1, d2⟩ := hfin.dom _ hmem
  simp only [gid] at hpo
  obtain ⟨u, hu, hrb, hnn⟩ := hmf.blk _ _ hpo
  refine ⟨u, down b d1 u (by rw [gid]; exact hu), hu, hpo, ?_, fun n h => ⟨by rw [h3s]; exact (hnn n h).1, (hnn n h).2⟩⟩
  refine zhl down (hrb.mono (fun n h => h3o n (fun e => hIf (e ▸ h))) (fun _ h => h) (fun _ _ h => h) (fun n h => h3o n (fun e => ?_))) d2
  subst e
  exact hnf ⟨_, _, _, hpo, hu, h⟩
 have ownf : ∀ n, Owns σ (zab m1) n → Owns σf (zaf y.mm) n := by
  rintro n ⟨b, k, u, h1, h2, h3⟩
  obtain ⟨u', g1, g2, g3, _, _⟩ := hblk b k h1
  rw [h2] at g1; cases g1
  exact ⟨b, _, u, g3, g2, h3⟩
 have mine2 : ∀ n, Owns σf (zaf y.mm) n → Owns σ (zab m0) n ∨ w.heap.size ≤ n := fun n h => by
  rcases hrf.mine n h with g | g
  ·exact own2 n g
  ·have g' : W.heap.size ≤ n := g
   exact .inr (by omega)
 refine ⟨rfl, If, ?_⟩
 refine ⟨h3os.trans (hrf.os.trans (hWos.trans hr2.os)), h3tape.trans (hrf.tape.trans (hWtape.trans hr2.tape)), h3out.trans (hrf.output.trans (hWout.trans hr2.output)), by omega, fun _ _ h => h, fun b h1 h2 => absurd h1 h2, fun n h => hrf.i0 n (hr2.i0 n h), fun n h => by rw [h3s]; exact hrf.ib n h, fun n h => ?_, fun n h1 h2 => ?_, ⟨fun b k hb' => ?_, fun b b' k k' u u' n q1 q2 q3 q4 q5 q6 => ?_⟩, fun b k hb' => ?_, fun n h => mine2 n (ownf n h)⟩
 ·rcases hrf.inew n h with g | g | g
  ·rcases hr2.inew n g with g | g | g
   ·exact .inl g
   ·exact .inr (.inr g)
   ·exact .inr (.inl g)
  ·rcases own2 n g with g | g
   ·exact .inr (.inr g)
   ·exact .inr (.inl g)
  ·have g' : W.heap.size ≤ n := g
   exact .inr (.inl (by omega))
 ·by_cases e : n = L
  ·subst e; rw [h3L, hL]
  ·rw [h3o n e, hrf.frame n (by show n < W.heap.size; omega) (fun h => ?_), hWo n e]
   ·exact hr2.frame n h1 h2
   ·rcases own2 n h with g | g
    ·exact h2 g
    ·omega
 ·obtain ⟨u, g1, g2, g3, g4, g5⟩ := hblk b k hb'
  exact ⟨u, g1, g4, g5⟩
 ·obtain ⟨v, g1, g2, g3, g4, g5⟩ := hblk b k q1
  obtain ⟨v', g1', g2', g3', g4', g5'⟩ := hblk b' k' q2
  rw [q3] at g1; cases g1
  rw [q4] at g1'; cases g1'
  exact hmf.apart _ _ _ _ _ _ n g3 g3' g2 g2' q5 q6
 ·obtain ⟨h1, q, hq'⟩ := nm b (hfin.dom _ (zas hb')).1
  left; rw [hq']; simp
end Go.AI
end
section
namespace Go.AI
theorem zq4 {E : Ctx} {w w' : World} {σ σf : Names} {I If : Nat → Prop} {a : Act} {y : X} {m0 m1 : List (Nat × Blk)} (hw0 : E.w0 = w) (hbor : E.bor = Owns σ (zab m0)) (hI0 : E.I0 = I) (hs0 : E.s0 = σ)
  (hrm : RM σ I w (zab m0)) (hrf : RelAt E y.den σf If a w') (hfin : FinOk (zaf y.mm) (.d (.v undef)) m0 (.d (.v undef)) m1 []) : Post σ I w (zab m0) 64 σ If w' (zab m1) := by
 subst hw0 hI0 hs0
 have hmf : RM σf If w' (zaf y.mm) := hrf.mm
 have nm : ∀ b, nmF m0 [] b = true → b < 64 ∧ ∃ k, zab m0 b = some k := fun b hb' => by
  simp [nmF, lookN] at hb'
  exact ⟨hb'.1, Option.isSome_iff_exists.1 hb'.2⟩
 have gid : ∀ b, gf [] b = b := fun b => by simp [gf, lookN]
 have down : ∀ b, nmF m0 [] b = true → ∀ z, σf (gf [] b) = some z → E.s0 b = some z := fun b hb' z hz => by
  obtain ⟨h1, k, hk⟩ := nm b hb'
  obtain ⟨z0, hz0, _⟩ := hrm.blk b k hk
  have := hrf.keep b z0 hz0
  rw [gid, this] at hz
  rw [hz0]; exact hz
 have hblk : ∀ b k, zab m1 b = some k → ∃ u, E.s0 b = some u ∧ σf b = some u ∧ zaf y.mm b = some (k.ren (gf [])) ∧ RB E.s0 If w' k u ∧ ∀ n, hb u = some n → n < w'.heap.size ∧ ¬ If n := by
  intro b k hb'
  have hmem := zas hb'
  have hpo := hfin.post _ hmem
  obtain ⟨d1, d2⟩ := hfin.dom _ hmem
  simp only [gid] at hpo
  obtain ⟨u, hu, hrb, hnn⟩ := hmf.blk _ _ hpo
  exact ⟨u, down b d1 u (by rw [gid]; exact hu), hu, hpo, zhl down hrb d2, hnn⟩
 have mine : ∀ n, Owns σf (zaf y.mm) n → Owns E.s0 (zab m0) n ∨ E.w0.heap.size ≤ n := fun n h => by
  have := hrf.mine n h
  rwa [hbor] at this
 refine ⟨hrf.os, hrf.tape, hrf.output, hrf.hs, fun _ _ h => h, fun b h1 h2 => absurd h1 h2, fun n h => hrf.i0 n h, hrf.ib, fun n h => ?_, fun n h1 h2 => hrf.frame n h1 (by rw [hbor]; exact h2), ⟨fun b k hb' => ?_, fun b b' k k' u u' n q1 q2 q3 q4 q5 q6 => ?_⟩, fun b k hb' => ?_, fun n h => ?_⟩
 ·rcases hrf.inew n h with g | g | g
  ·exact .inl g
  ·rw [hbor] at g; exact .inr (.inr g)
  ·exact .inr (.inl g)
 ·obtain ⟨u, g1, g2, g3, g4, g5⟩ := hblk b k hb'
  exact ⟨u, g1, g4, g5⟩
 ·obtain ⟨v, g1, g2, g3, g4, g5⟩ := hblk b k q1
  obtain ⟨v', g1', g2', g3', g4', g5'⟩ := hblk b' k' q2
  rw [q3] at g1; cases g1
  rw [q4] at g1'; cases g1'
  exact hmf.apart _ _ _ _ _ _ n g3 g3' g2 g2' q5 q6
 ·obtain ⟨h1, q, hq'⟩ := nm b (hfin.dom _ (zas hb')).1
  left; rw [hq']; simp
 ·obtain ⟨b, k, u, h1, h2, h3⟩ := h
  obtain ⟨u', g1, g2, g3, _, _⟩ := hblk b k h1
  rw [h2] at g1; cases g1
  exact mine n ⟨b, _, u, g3, g2, h3⟩
def IterJ (s0 : Names) (L : Nat) (r : Loop) : Names → (Nat → Prop) → World → Prop := fun σ I w => (∀ b x, s0 b = some x → σ b = some x) ∧ w.heap[L]? = some (.loop r) ∧ ¬ I L
theorem IterJ.of_rel {E : Ctx} {s0 : Names} {L : Nat} {r : Loop} {m0 : List (Nat × Blk)} {I0 : Nat → Prop} (hs0 : E.s0 = s0) (hI0 : E.I0 = I0) (hbor : E.bor = Owns s0 (zab m0)) (hrm : RM s0 I0 E.w0 (zab m0)) (hL : E.w0.heap[L]? = some (.loop r)) (hI : ¬ I0 L) :
  ∀ s σ I a w, RelAt E s σ I a w → IterJ s0 L r σ I w := by
 intro s σ I a w hr
 have hlt : L < E.w0.heap.size := (Array.getElem?_eq_some_iff.1 hL).1
 have hnb : ¬ E.bor L := by rw [hbor]; exact zed hrm hL
 refine ⟨fun b x h => hr.keep b x (by rw [hs0]; exact h), (hr.frame L hlt hnb).trans hL, fun h => ?_⟩
 rcases hr.inew L h with g | g | g
 ·rw [hI0] at g; exact hI g
 ·exact hnb g
 ·omega
def zka (m0 m1 : List (Nat × Blk)) : Eff := ⟨.d (.v (.bool true)), [], m0.map fun p => (p.1, zab m1 p.1)⟩
theorem zp3 {m0 : List (Nat × Blk)} {f : Nat → Option Blk} (b : Nat) : zar (m0.map fun p => (p.1, f p.1)) b = if (zab m0 b).isSome then some (f b) else none := by
 induction m0 with
 | nil => simp [zar, zab]
 | cons p m ih =>
   obtain ⟨c, k⟩ := p
   simp only [List.map_cons, zar, zab]
   by_cases h : c = b
   ·subst h; simp
   ·simp only [if_neg h]; exact ih
theorem zwt {m0 m1 : List (Nat × Blk)} {mem : Mem} (hk : ∀ b k, zab m0 b = some k → mem b = some k) : (zka m0 m1).mr mem = zab m0 := by
 funext b
 simp only [Eff.mr, zka, zp3]
 cases h : zab m0 b with
 | none => simp
 | some k => simpa using hk b k h
theorem zyo {m0 m1 : List (Nat × Blk)} {mem : Mem} (hs : ∀ b k, zab m1 b = some k → (zab m0 b).isSome = true) : (zka m0 m1).mw mem = zab m1 := by
 funext b
 simp only [Eff.mw, zka, zp3]
 cases h : zab m0 b with
 | none =>
   simp only [Option.isSome_none, Bool.false_eq_true, if_false, List.not_mem_nil]
   cases h1 : zab m1 b with
   | none => rfl
   | some k => have := hs b k h1; rw [h] at this; cases this
 | some k => simp
theorem Post.of_low {σ : Names} {I I' : Nat → Prop} {w w' : World} {m0 m1 : List (Nat × Blk)} {nm : Nat} (hid : ∀ p ∈ m1, p.2.ren id = p.2) (h0 : ∀ p ∈ m0, p.1 < 64) (h1 : ∀ p ∈ m1, p.1 < 64)
  (hs : ∀ b k, zab m1 b = some k → (zab m0 b).isSome = true)
  (hp : Post (fun b => if b < 64 then σ b else none) I w (zab m0) 64 (fun b => if b < 64 then σ b else none) I' w' (zab m1)) : Post σ I w (zab m0) nm σ I' w' (zab m1) := by
 have low : ∀ b, b < 64 → ∀ x, σ b = some x → (fun b => if b < 64 then σ b else none) b = some x := fun b hb x hx => by simp only [if_pos hb]; exact hx
 have up : ∀ b x, (fun b => if b < 64 then σ b else none) b = some x → σ b = some x := fun b x hx => by
  simp only at hx
  split at hx
  ·exact hx
  ·cases hx
 have own : ∀ (m : List (Nat × Blk)), (∀ p ∈ m, p.1 < 64) → ∀ n, Owns σ (zab m) n ↔ Owns (fun b => if b < 64 then σ b else none) (zab m) n := fun m hm n =>
  ⟨fun ⟨b, k, x, a1, a2, a3⟩ => ⟨b, k, x, a1, low b (hm _ (zas a1)) x a2, a3⟩, fun ⟨b, k, x, a1, a2, a3⟩ => ⟨b, k, x, a1, up b x a2, a3⟩⟩
 refine ⟨hp.os, hp.tape, hp.output, hp.size, fun _ _ h => h, fun b h1 h2 => absurd h1 h2, hp.imono, hp.ib, fun n h => ?_, fun n a1 a2 => hp.frame n a1 (fun h => a2 ((own m0 h0 n).2 h)), ⟨fun b k hb' => ?_, fun b b' k k' u u' n q1 q2 q3 q4 q5 q6 => ?_⟩, fun b k hb' => ?_, fun n h => ?_⟩
 ·rcases hp.inew n h with g | g | g
  ·exact .inl g
  ·exact .inr (.inl g)
  ·exact .inr (.inr ((own m0 h0 n).2 g))
 ·obtain ⟨u, g1, g2, g3⟩ := hp.mem.blk b k hb'
  exact ⟨u, up b u g1, g2.mono (fun _ _ => rfl) (fun _ h => h) up (fun _ _ => rfl), g3⟩
 ·exact hp.mem.apart b b' k k' u u' n q1 q2 (low b (h1 _ (zas q1)) u q3) (low b' (h1 _ (zas q2)) u' q4) q5 q6
 ·left
  intro h
  have := hs b k hb'
  rw [h] at this; cases this
 ·rcases hp.mine n ((own m1 h1 n).1 h) with g | g
  ·exact .inl ((own m0 h0 n).2 g)
  ·exact .inr g
theorem RM.to_low {σ : Names} {I : Nat → Prop} {w : World} {m0 : List (Nat × Blk)} (h0 : ∀ p ∈ m0, p.1 < 64 ∧ inB (fun b => decide (b < 64)) p.2 = true ∧ p.2.ren id = p.2) (h : RM σ I w (zab m0)) : RM (fun b => if b < 64 then σ b else none) I w (zab m0) := by
 have low : ∀ b, b < 64 → ∀ x, σ b = some x → (fun b => if b < 64 then σ b else none) b = some x := fun b hb x hx => by simp only [if_pos hb]; exact hx
 have up : ∀ b x, (fun b => if b < 64 then σ b else none) b = some x → σ b = some x := fun b x hx => by
  simp only at hx
  split at hx
  ·exact hx
  ·cases hx
 refine ⟨fun b k hb => ?_, fun b b' k k' u u' n q1 q2 q3 q4 q5 q6 => h.apart b b' k k' u u' n q1 q2 (up b u q3) (up b' u' q4) q5 q6⟩
 obtain ⟨u, g1, g2, g3⟩ := h.blk b k hb
 obtain ⟨p1, p2, p3⟩ := h0 _ (zas hb)
 refine ⟨u, low b p1 u g1, ?_, g3⟩
 refine zhl (σ := σ) (g := id) (p := fun b => decide (b < 64)) (fun b hb x hx => low b (by simpa using hb) x hx) ?_ p2
 simp only at p3
 rw [p3]; exact g2
theorem CI.yield {P : Program} {nt ntA L dp : Nat} {r : Loop} {tmA tmB : List (Nat × AV)} {m0 m1 mB : List (Nat × Blk)} {nxB : Nat} {s0 : Names} {R : Exit → X → Prop} {ops : Array Oper} {o : Oper} {rest : List Oper} {i : Nat} {ft : List (List Nat × List Nat)} {draw : Bool} {k : List It} {x : X} {c : Call} {q : Nat}
  (hm : P.follows .mixedOrders = true) (hrs : r.state = .ready) (hrp : r.pending = none) (hsz : r.tmps.size = ntA)
  (hA : CI (some L) (dp - 1) (fun _ _ _ => True) P ntA (fun e x => e = .normal ∧ AI.Sub x tmB mB nxB []) [.code r.assign] ⟨tmA, m0.map (fun p => (p.1, some p.2)), 64⟩)
  (hB : CI (some L) (dp - 1) (fun _ _ _ => True) P ntA (retR m0 m1) [.code r.body] ⟨tmB, mB.map (fun p => (p.1, some p.2)), nxB⟩)
  (hdst : zbb nt o.dst = true) (hg : o.guard = none ∨ ∃ g wa, o.guard = some (g, wa) ∧ zcm ops g (zad x.tm) = some wa)
  (ho : o.op = .call c) (hc : c.callee = .value (.tmp q)) (hq : zad x.tm q = .d (.fn (.yield L) [] [])) (hps : c.args.size = r.params.size)
  (hT : ∀ (σ : Names) (I : Nat → Prop) (w : World) (vs : List Value), (∀ b x, s0 b = some x → b < 64 → σ b = some x) → vs.length = c.args.size → (∀ (i : Nat) y v, (c.args.toList.map (ev (zad x.tm)))[i]? = some y → vs[i]? = some v → inA (fun b => decide (b < 64)) y = true → y.ren id = y → RV σ I w y v) →
    ∀ t, RV σ I w (zad tmA t) (((r.params.zip vs.toArray).foldl (fun tmps (t, a) => tmps.setIfInBounds t a) r.tmps).getD t undef))
  (hp0 : ∀ p ∈ m0, p.1 < 64 ∧ inB (fun b => decide (b < 64)) p.2 = true ∧ p.2.ren id = p.2) (hp1 : ∀ p ∈ m1, p.1 < 64 ∧ p.2.ren id = p.2)
  (hsub : ∀ p ∈ m1, (zab m0 p.1).isSome = true) (hk : ∀ p ∈ m0, zaf x.mm p.1 = some p.2)
  (h : CI none dp (IterJ s0 L r) P nt R (.ops ops rest (i + 1) (ft ++ [(zka m0 m1).foot]) draw :: k) (x.app o.dst (zka m0 m1))) : CI none dp (IterJ s0 L r) P nt R (.ops ops (o :: rest) i ft draw :: k) x := by
 refine .op (zka m0 m1) hdst hg ?_ h
 have hs : ∀ b k, zab m1 b = some k → (zab m0 b).isSome = true := fun b k h => hsub _ (zas h)
 have hk' : ∀ b k, zab m0 b = some k → zaf x.mm b = some k := fun b k h => hk _ (zas h)
 rw [zwt hk', zyo hs]
 intro a w σ I hJ hib hv hrm hfr next Q hnx
 obtain ⟨hkeep, hL, hI⟩ := hJ
 have harg : ∀ y ∈ c.args.toList, RV σ I w (ev (zad x.tm) y) (a.eval y) := fun y hy => zav fun s e => hv s (by subst e; simp [ho, Op.operands, Call.operands, hc]; exact .inr (by simpa using hy))
 have hf : a.tmps.getD q undef = .func (.yield L) #[] #[] := by
  have := hv q (by simp [ho, Op.operands, Call.operands, hc])
  rw [hq] at this
  generalize a.tmps.getD q undef = z at this
  cases this with
  | d h => cases h with
    | @fn f first captured xs ys hx hy h1 h2 =>
      have e1 : xs = [] := List.eq_nil_of_length_eq_zero (by simpa using hx)
      have e2 : ys = [] := List.eq_nil_of_length_eq_zero (by simpa using hy)
      subst e1 e2; rfl
 let vs := c.args.toList.map a.eval
 have hvs : (c.args.map a.eval) = vs.toArray := by apply Array.ext'; simp [vs]
 have hrun : (execOp a.eval o).run P w = .ok (.round L r.fn ((r.params.zip vs.toArray).foldl (fun tmps (t, a) => tmps.setIfInBounds t a) r.tmps) r.assign r.body) w := by
  have e0 : a.eval (.tmp q) = .func (.yield L) #[] #[] := hf
  have e4 := run_yield (P := P) (w := w) (args := vs.toArray) hL (by simp [vs, hps])
  have e5 : (#[] : Array Value) ++ c.args.map a.eval ++ #[] = vs.toArray := by rw [hvs]; simp
  rw [← e4]
  simp [execOp, ho, resolve, hc, e0, Deferred.ofValue, invoke, hvs]
 refine ⟨fun _ _ => trivial, ?_⟩
 show Oper.uponIn (FW none) dp P o a next Q ((execOp a.eval o).run P w)
 rw [hrun, Oper.uponIn_round]
 refine ⟨by simp [FW, Fence.wide], ?_⟩
 have hlen : vs.length = c.args.size := by simp [vs]
 let σ1 : Names := fun b => if b < 64 then σ b else none
 have hfold : ∀ (ps : List (Nat × Value)) (T : Array Value), (ps.foldl (fun tmps (p : Nat × Value) => tmps.setIfInBounds p.1 p.2) T).size = T.size := by
  intro ps
  induction ps with
  | nil => intro T; rfl
  | cons p ps ih => intro T; rw [List.foldl_cons, ih]; simp
 have hTsz : ((r.params.zip vs.toArray).foldl (fun tmps (t, a) => tmps.setIfInBounds t a) r.tmps).size = ntA := by
  rw [← hsz, ← Array.foldl_toList]; exact hfold _ _
 have hro := qcp (P := P) (nt := ntA) (dp := dp - 1) hm hrs hrp hA hB (T := (r.params.zip vs.toArray).foldl (fun tmps (t, a) => tmps.setIfInBounds t a) r.tmps) (w := w) (σ := σ1) (I := I) hib hTsz
  (hT σ1 I w vs (fun b y h1 h2 => by simp only [σ1, if_pos h2]; exact hkeep b y h1) hlen (fun i y v h1 h2 h3 h4 => by
    simp only [List.getElem?_map, vs] at h1 h2
    obtain ⟨z, hz, rfl⟩ := Option.map_eq_some_iff.1 h1
    rw [hz] at h2; simp at h2; subst h2
    refine zjk (σ := σ) (g := id) (p := fun b => decide (b < 64)) (fun b hb x hx => by simp only [σ1]; rw [if_pos (by simpa using hb)]; exact hx) (harg z (List.mem_of_getElem? hz)) h4.symm h3))
  (RM.to_low hp0 hrm) (fun b hb => by simp only [σ1]; rw [if_neg (by omega)]) hL hI
 refine RoundIn.mono hro ?_
 rintro e w' ⟨rfl, I', hp⟩
 refine hnx _ σ I' w' ?_ (.d (.v _))
 exact Post.of_low (fun p hp => (hp1 p hp).2) (fun p hp => (hp0 p hp).1) (fun p hp => (hp1 p hp).1) hs hp
end Go.AI
namespace Go.AI
theorem zhz {E : Ctx} {P : Program} {nt dp : Nat} {c d : Code} {x : X} {tm : List (Nat × AV)} {m : List (Nat × Blk)} {nx : Nat} {gv : List Nat} (hm : P.follows .mixedOrders = true) (hP : E.P = P) (hn : E.nt = nt)
  (hc : CI none dp (fun _ _ _ => True) P nt (fun e y => e = .normal ∧ AI.Sub y tm m nx gv) [.code c] x) {Q : Exit → Act → World → Prop} {a : Act} {w : World} (hr : Rel E x.den a w)
  (h : ∀ a' w', Rel E (X.den ⟨tm, m.map (fun p => (p.1, some p.2)), nx⟩) a' w' → d.wpIn (FW none) dp P Q a' w') : (c.seq d).wpIn (FW none) dp P Q a w := by
 refine wpIn_seq ?_
 subst hP
 have hw := (zhm hm hc E rfl hn (fun _ _ _ _ _ _ => trivial)).1 rfl _ w hr
 simp only [aftI] at hw
 refine wpIn_mono hw (fun e a1 w1 hq => ?_)
 obtain ⟨y, hy, rfl, hsub⟩ : zft E (fun e y => e = .normal ∧ AI.Sub y tm m nx gv) e a1 w1 := by
  cases e <;> simpa [aftI] using hq
 exact h a1 w1 (Rel.sub hsub hy)
end Go.AI
end
