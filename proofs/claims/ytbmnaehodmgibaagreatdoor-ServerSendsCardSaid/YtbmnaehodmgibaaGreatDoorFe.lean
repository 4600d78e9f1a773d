/-
  A FRAMEWORK OF MY OWN (5): contracts under a premise on what stays; functions with a receiver; a slice cut short; a function with a label.
-/
import Derived.Test.YtbmnaehodmgibaaGreatDoorFd
import Derived.Test.YtbmnaehodmgibaaGreatDoorFc
import Derived.Scope
set_option linter.unusedSimpArgs false
set_option linter.unusedVariables false
section
namespace Go.AI
/-- A premise that holds on, while what stays stays. -/
def Keeps (G : (Nat → Prop) → World → Prop) : Prop := ∀ (I I' : Nat → Prop) (w w' : World), G I w → (∀ n, I n → w'.heap[n]? = w.heap[n]?) → (∀ n, I n → I' n) → G I' w'
/-- A contract under a premise. -/
def CtJ (G : (Nat → Prop) → World → Prop) (P : Program) (f : FuncId) (args : List AV) (mr m : List (Nat × Blk)) (res : AV) (m' : List (Nat × Blk)) : Prop :=
  ∀ (σ : Names) (I : Nat → Prop) (w : World) (vs : List Value), G I w → (∀ n, I n → n < w.heap.size) → vs.length = args.length →
    (∀ (i : Nat) c x, args[i]? = some c → vs[i]? = some x → RV σ I w c x) → RM σ I w (lookB (mr ++ m)) → (∀ b, 64 ≤ b → σ b = none) →
    Calls P f vs.toArray w fun e w' => ∃ v σ' I', e = .returned v ∧ Post σ I w (lookB (mr ++ m)) 64 σ' I' w' (lookB (mr ++ m')) ∧ RV σ' I' w' res v
abbrev JG (G : (Nat → Prop) → World → Prop) : Names → (Nat → Prop) → World → Prop := fun _ I w => G I w
section
variable {bn : List Nat} {nm : Nat} {args : List AV} {mr m m' : List (Nat × Blk)} {res : AV} {mem : Mem} {G : (Nat → Prop) → World → Prop}
theorem ok_callJ {dp : Nat} {P : Program} {o : Oper} {c : Call} {fo : Operand} (ho : o.op = .call c) (hc : c.callee = .value fo) (tm : Nat → AV) (mem : Mem) (nm : Nat) {f : FuncId} {first captured : List AV}
    (hf : calleeA (ev tm fo) = some (f, first, captured)) (hen : Enters P f) (hct : CtJ G P f args mr m res m') (ha : leA.leL (first ++ c.args.toList.map (ev tm) ++ captured) (args.map (AV.ren (renL bn nm)))) (hn : CallNames bn args mr m res m')
    (hk : ∀ p ∈ mr ++ m, mem (renL bn nm p.1) = some (p.2.ren (renL bn nm))) :
    OpOkI none dp (JG G) P o tm ((callE bn nm mr m res m').mr mem) nm (callE bn nm mr m res m').res ((callE bn nm mr m res m').mw mem) := by
  intro a w σ I hG h1 h2 h3 h4 next Q hnx
  refine wp_in (by simp [plainOp, ho]) ?_
  obtain ⟨xs, ys, e1, lx, ly, rx, ry⟩ := calleeA_spec hf (RV_ev (σ := σ) (I := I) (w := w) (a := a) (x := fo) fun s e => h2 s (by subst e; simp [ho, Op.operands, Call.operands, hc]))
  have harg : ∀ x ∈ c.args.toList, RV σ I w (ev tm x) (a.eval x) := fun x hx => RV_ev fun s e => h2 s (by subst e; simp [ho, Op.operands, Call.operands, hc]; exact .inr (by simpa using hx))
  have hrun : (execOp a.eval o).run P w = .ok (.enter f (xs ++ c.args.toList.map a.eval ++ ys).toArray) w := by
    have e3 : (xs ++ c.args.toList.map a.eval ++ ys).toArray = xs.toArray ++ c.args.map a.eval ++ ys.toArray := by
      apply Array.ext'; simp
    have e4 := hen (xs.toArray ++ c.args.map a.eval ++ ys.toArray) w
    rw [← e3] at e4
    rw [← e4, e3]
    simp [execOp, ho, resolve, hc, e1, Deferred.ofValue, invoke]
  simp only [Oper.wp, hrun, Oper.upon]
  -- the names that the callee sees
  let σ0 : Names := fun b => if b < bn.length then σ (renL bn nm b) else none
  have hg : ∀ b, b < bn.length → renL bn nm b = bn.getD b 0 := fun b hb => by simp only [renL]; rw [if_pos (by have := hn.len; omega)]
  have hs0 : ∀ b, decide (b < bn.length) = true → ∀ x, σ (renL bn nm b) = some x → σ0 b = some x := fun b hb x hx => by simp only [σ0]; rw [if_pos (by simpa using hb)]; exact hx
  obtain ⟨hla, hle⟩ := leL_get ha
  have hlen0 : (xs ++ c.args.toList.map a.eval ++ ys).length = args.length := by
    have : (first ++ c.args.toList.map (ev tm) ++ captured).length = args.length := by rw [hla]; simp
    rw [← this]; simp [lx, ly]
  have hargs : ∀ (i : Nat) q v, args[i]? = some q → (xs ++ c.args.toList.map a.eval ++ ys)[i]? = some v → RV σ0 I w q v := by
    intro i q v hq hv
    have hlt : i < (first ++ c.args.toList.map (ev tm) ++ captured).length := by rw [hla]; simpa using (List.getElem?_eq_some_iff.1 hq).1
    obtain ⟨A, hA⟩ : ∃ A, (first ++ c.args.toList.map (ev tm) ++ captured)[i]? = some A := ⟨_, List.getElem?_eq_getElem hlt⟩
    have hav : RV σ I w A v := by
      rw [List.append_assoc] at hA hv
      by_cases hi : i < first.length
      · rw [List.getElem?_append_left hi] at hA
        rw [List.getElem?_append_left (by omega)] at hv
        exact rx i A v hA hv
      · rw [List.getElem?_append_right (by omega)] at hA
        rw [List.getElem?_append_right (by omega), lx] at hv
        by_cases hj : i - first.length < c.args.size
        · rw [List.getElem?_append_left (by simpa using hj)] at hA
          rw [List.getElem?_append_left (by simpa using hj)] at hv
          simp only [List.getElem?_map] at hA hv
          cases hx : c.args.toList[i - first.length]? with
          | none => simp [hx] at hA
          | some x =>
            rw [hx] at hA hv
            simp only [Option.map_some, Option.some.injEq] at hA hv
            subst hA; subst hv
            exact harg x (List.mem_of_getElem? hx)
        · rw [List.getElem?_append_right (by simpa using hj)] at hA
          rw [List.getElem?_append_right (by simpa using hj)] at hv
          simp only [List.length_map] at hA hv
          exact ry _ A v hA hv
    have h5 := leA_spec hav (hle i A (q.ren (renL bn nm)) hA (by simp [hq]))
    exact RV_unren hs0 h5 rfl (inL_get hn.args i q hq)
  have hmr : ∀ b k, lookB (mr ++ m) b = some k → (callE bn nm mr m res m').mr mem (renL bn nm b) = some (k.ren (renL bn nm)) := fun b k h => callE_mr hk h
  have hpre : ∀ b k, lookB (mr ++ m) b = some k → b < bn.length ∧ inB (fun b => decide (b < bn.length)) k = true := fun b k h => hn.pre _ (lookB_mem h)
  have hinj : ∀ b b', b < bn.length → b' < bn.length → renL bn nm b = renL bn nm b' → b = b' := fun b b' h h' e => getD_inj hn.nodup h h' (by rw [← hg b h, ← hg b' h', e])
  have hrm0 : RM σ0 I w (lookB (mr ++ m)) := by
    refine ⟨fun b k hb => ?_, fun b b' k k' x x' n hb hb' hx hx' e e' => ?_⟩
    · obtain ⟨x, hx, hrb, hnn⟩ := h3.blk _ _ (hmr b k hb)
      obtain ⟨p1, p2⟩ := hpre b k hb
      exact ⟨x, hs0 b (by simpa using p1) x hx, RB_unren hs0 hrb p2, hnn⟩
    · obtain ⟨p1, p2⟩ := hpre b k hb
      obtain ⟨p1', p2'⟩ := hpre b' k' hb'
      simp only [σ0, if_pos p1] at hx
      simp only [σ0, if_pos p1'] at hx'
      exact hinj b b' p1 p1' (h3.apart _ _ _ _ x x' n (hmr b k hb) (hmr b' k' hb') hx hx' e e')
  have hfree0 : ∀ b, 64 ≤ b → σ0 b = none := fun b hb => by simp only [σ0]; rw [if_neg (by have := hn.len; omega)]
  have own0 : ∀ n, Owns σ0 (lookB (mr ++ m)) n → Owns σ ((callE bn nm mr m res m').mr mem) n := by
    rintro n ⟨b, k, x, hb, hx, e⟩
    obtain ⟨p1, p2⟩ := hpre b k hb
    simp only [σ0, if_pos p1] at hx
    exact ⟨_, _, x, hmr b k hb, hx, e⟩
  refine (hct σ0 I w _ hG h1 hlen0 hargs hrm0 hfree0).mono (fun e w' he => ?_)
  obtain ⟨v, σ1, I', rfl, hp, hrv⟩ := he
  let σ' : Names := fun b => if nm ≤ b ∧ b < nm + 64 then σ1 (64 + (b - nm)) else σ b
  have hnf : ∀ b x, σ b = some x → ¬ (nm ≤ b ∧ b < nm + 64) := fun b x hx h => by rw [h4 b h] at hx; cases hx
  have hs' : ∀ b, nmOk bn.length b = true → ∀ x, σ1 b = some x → σ' (renL bn nm b) = some x := by
    intro b hb x hx
    simp only [nmOk, Bool.or_eq_true, decide_eq_true_eq, Bool.and_eq_true] at hb
    rcases hb with hb | ⟨hb1, hb2⟩
    · cases h0 : σ0 b with
      | none =>
        have := hp.new b h0 (by rw [hx]; simp)
        have := this.1; have := hn.len; omega
      | some y =>
        have h6 := hp.names b y h0
        rw [hx] at h6; cases h6
        simp only [σ0, if_pos hb] at h0
        simp only [σ']
        rw [if_neg (hnf _ _ h0)]; exact h0
    · have e1 : renL bn nm b = nm + (b - 64) := by simp only [renL]; rw [if_neg (by omega)]
      simp only [σ', e1]
      rw [if_pos (by omega), show 64 + (nm + (b - 64) - nm) = b by omega]
      exact hx
  have hpost : ∀ b k, lookB (mr ++ m') b = some k → nmOk bn.length b = true ∧ inB (nmOk bn.length) k = true := fun b k h => hn.post _ (lookB_mem h)
  have hmw := fun {c q} (h : (callE bn nm mr m res m').mw mem c = some q) => callE_mw (mem := mem) hn hk h
  refine hnx v σ' I' w' ?_ (RV_toren hs' hrv hn.res)
  refine ⟨hp.os, hp.tape, hp.output, hp.size, fun b x hx => ?_, fun b hb1 hb2 => ?_, hp.imono, hp.ib, fun n hn' => ?_, fun n hn1 hn2 => hp.frame n hn1 (fun ho => hn2 (own0 n ho)), ⟨fun c q hq => ?_, fun c c' q q' x x' n hq hq' hx hx' e e' => ?_⟩, fun c q hq => ?_, fun n ho => ?_⟩
  · simp only [σ']; rw [if_neg (hnf _ _ hx)]; exact hx
  · simp only [σ'] at hb2
    split at hb2
    · rename_i h; exact h
    · exact absurd hb1 hb2
  · rcases hp.inew n hn' with g | g | g
    · exact .inl g
    · exact .inr (.inl g)
    · exact .inr (.inr (own0 n g))
  · obtain ⟨b, k, hb, rfl, rfl, _⟩ := hmw hq
    obtain ⟨x, hx, hrb, hnn⟩ := hp.mem.blk b k hb
    obtain ⟨p1, p2⟩ := hpost b k hb
    exact ⟨x, hs' b p1 x hx, RB_toren hs' hrb p2, hnn⟩
  · obtain ⟨b, k, hb, rfl, rfl, _⟩ := hmw hq
    obtain ⟨b', k', hb', rfl, rfl, _⟩ := hmw hq'
    obtain ⟨y, hy, _, _⟩ := hp.mem.blk b k hb
    obtain ⟨y', hy', _, _⟩ := hp.mem.blk b' k' hb'
    have := hs' b (hpost b k hb).1 y hy
    rw [hx] at this; cases this
    have := hs' b' (hpost b' k' hb').1 y' hy'
    rw [hx'] at this; cases this
    rw [hp.mem.apart b b' k k' _ _ n hb hb' hy hy' e e']
  · obtain ⟨b, k, hb, rfl, rfl, hor⟩ := hmw hq
    rcases hor with h | ⟨h, h'⟩
    · obtain ⟨k0, hk0⟩ := Option.isSome_iff_exists.1 h
      exact .inl (by rw [hmr b k0 hk0]; simp)
    · have e1 : renL bn nm b = nm + (b - 64) := by simp only [renL]; rw [if_neg (by omega)]
      exact .inr (by rw [e1]; exact ⟨by omega, by omega⟩)
  · obtain ⟨c, q, x, hq, hx, e⟩ := ho
    obtain ⟨b, k, hb, rfl, rfl, _⟩ := hmw hq
    obtain ⟨y, hy, _, _⟩ := hp.mem.blk b k hb
    have := hs' b (hpost b k hb).1 y hy
    rw [hx] at this; cases this
    rcases hp.mine n ⟨b, k, _, hb, hy, e⟩ with g | g
    · exact .inl (own0 n g)
    · exact .inr g
end
/-- A FUNCTION BY ITS BODY. -/
theorem CtJ.of_body {G : (Nat → Prop) → World → Prop} (hGk : Keeps G) {P : Program} {f : FuncId} {fn : Func} {c : Code} {args : List AV} {mr m : List (Nat × Blk)} {res : AV} {m' : List (Nat × Blk)} (hf : P.funcs[f]? = some fn) (hb : fn.body = some c) (hm : P.follows .mixedOrders = true) (hn : args.length ≤ fn.ntmps)
    (h : CI none 0 (JG G) P fn.ntmps (retC P fn (mr ++ m) res (mr ++ m')) [.code c] ⟨initT 0 args, (mr ++ m).map (fun p => (p.1, some p.2)), 64⟩) : CtJ G P f args mr m res m' := by
  intro σ I w vs hG hib hl hv hrm hfree
  refine (callsIn_wide (n := 0)).1 ?_
  refine callsIn_of_wp (F := FW none) hf hb trivial ?_ rfl
  let E : Ctx := { P := P, w0 := w, bor := Owns σ (lookB (mr ++ m)), I0 := I, nt := fn.ntmps, s0 := σ }
  have hlk : lookM ((mr ++ m).map fun p => (p.1, some p.2)) = lookB (mr ++ m) := lookM_some _
  have hrel : Rel E (X.den ⟨initT 0 args, (mr ++ m).map (fun p => (p.1, some p.2)), 64⟩) { tmps := vs.toArray ++ Array.replicate (fn.ntmps - vs.toArray.size) undef, defers := [] } w := by
    refine ⟨σ, I, ?_, rfl, fun t => ?_, ?_, fun b hb => hfree b hb, hib, fun _ h => h, fun n h => .inl h, fun n h => ?_, rfl, rfl, ⟨rfl, Nat.le_refl _⟩, Nat.le_refl _, fun _ _ _ => rfl, fun _ _ h => h, hfree⟩
    · simp; show _ = fn.ntmps; omega
    · simp only [X.den, lookT_initT, Nat.zero_le, if_true, Nat.sub_zero]
      cases ha : args[t]? with
      | none => exact .any _
      | some c =>
        have hlt : t < vs.length := by have := (List.getElem?_eq_some_iff.1 ha).1; omega
        have e1 : (vs.toArray ++ Array.replicate (fn.ntmps - vs.toArray.size) undef).getD t undef = vs[t] := by
          simp [Array.getElem?_append, hlt]
        rw [e1]
        exact hv t c _ ha (List.getElem?_eq_getElem hlt)
    · show RM σ I w (lookM _); rw [hlk]; exact hrm
    · have h' : Owns σ (lookM ((mr ++ m).map fun p => (p.1, some p.2))) n := h
      rw [hlk] at h'; exact .inl h'
  have hJ : ∀ s σ' I' a w', RelAt E s σ' I' a w' → JG G σ' I' w' := by
    intro s σ' I' a w' hr
    refine hGk I I' w w' hG (fun n hn => hr.frame n (hib n hn) ?_) (fun n hn => hr.i0 n hn)
    rintro ⟨b, k, x, h1, h2, h3⟩
    obtain ⟨x', h4, _, h5⟩ := hrm.blk b k h1
    rw [h2] at h4; cases h4
    exact (h5 n h3).2 hn
  have hw := (CI_sound hm h E rfl rfl hJ).1 rfl _ w hrel
  refine wpIn_mono hw (fun e a w' hq => ?_)
  obtain ⟨x, ⟨σf, If, hr⟩, he, hret⟩ : finOf E (retC P fn (mr ++ m) res (mr ++ m')) e a w' := by
    cases e <;> simpa [aftI] using hq
  obtain ⟨r, ho, g, hfin⟩ : ∃ r, outA P fn x = some r ∧ ∃ g, FinOk (lookM x.mm) r (mr ++ m) res (mr ++ m') g := by
    cases ho : outA P fn x with
    | none => rw [ho] at hret; exact hret.elim
    | some r => rw [ho] at hret; exact ⟨r, rfl, hret⟩
  obtain ⟨v, h1, h2⟩ := run_outA hr ho
  let kp : Nat → Bool := fun b => ((mr ++ m').map fun p => gf g p.1).contains b
  let I' := given σf If (lookM x.mm) kp
  let σ' : Names := fun b => if b < 64 then σ b else match lookN g b with | some c => σf c | none => none
  have hmx : RM σf If w' (lookM x.mm) := hr.mm
  have hs : ∀ b, nmF (mr ++ m) g b = true → ∀ y, σf (gf g b) = some y → σ' b = some y := by
    intro b hb y hy
    simp only [nmF, Bool.or_eq_true, Bool.and_eq_true, decide_eq_true_eq] at hb
    rcases hb with ⟨hb1, hb2⟩ | ⟨hb1, hb2⟩
    · obtain ⟨k, hk⟩ := Option.isSome_iff_exists.1 hb2
      obtain ⟨z, hz, _⟩ := hrm.blk b k hk
      have := hr.keep b z hz
      simp only [gf, if_pos hb1] at hy
      rw [hy] at this; cases this
      simp only [σ', if_pos hb1]; exact hz
    · obtain ⟨c, hc⟩ := Option.isSome_iff_exists.1 hb2
      have hnl : ¬ b < 64 := by omega
      simp only [gf, if_neg hnl, hc, Option.getD_some] at hy
      simp only [σ', if_neg hnl, hc]; exact hy
  have hs' : ∀ b, nmF (mr ++ m) g b = true → ∀ y, σ' b = some y → σf (gf g b) = some y := by
    intro b hb y hy
    simp only [nmF, Bool.or_eq_true, Bool.and_eq_true, decide_eq_true_eq] at hb
    rcases hb with ⟨hb1, hb2⟩ | ⟨hb1, hb2⟩
    · simp only [σ', if_pos hb1] at hy
      simp only [gf, if_pos hb1]
      exact hr.keep b y hy
    · have hnl : ¬ b < 64 := by omega
      obtain ⟨c, hc⟩ := Option.isSome_iff_exists.1 hb2
      simp only [σ', if_neg hnl, hc] at hy
      simp only [gf, if_neg hnl, hc, Option.getD_some]; exact hy
  have hrv : RV σ' I' w' res v := RV_unren hs (leA_spec (prA_spec (kp := kp) hmx 8 h2) hfin.fres) rfl hfin.nres
  have hblk : ∀ b k, lookB (mr ++ m') b = some k → ∃ y, σ' b = some y ∧ σf (gf g b) = some y ∧ lookM x.mm (gf g b) = some (k.ren (gf g)) ∧ RB σ' I' w' k y ∧ ∀ n, AI.hb y = some n → n < w'.heap.size ∧ ¬ I' n := by
    intro b k hb'
    have hmem := lookB_mem hb'
    have hpo := hfin.post _ hmem
    obtain ⟨d1, d2⟩ := hfin.dom _ hmem
    obtain ⟨y, hy, hrb, hnn⟩ := hmx.blk _ _ hpo
    have hrb' : RB σf I' w' (k.ren (gf g)) y := hrb.mono (fun _ _ => rfl) (fun n h => .inl h) (fun _ _ h => h) (fun _ _ => rfl)
    refine ⟨y, hs b d1 y hy, hy, hpo, RB_unren hs hrb' d2, fun n hn' => ⟨(hnn n hn').1, ?_⟩⟩
    rintro (h | ⟨b0, hk0, c, q, z, e, q1, q2, q3⟩)
    · exact (hnn n hn').2 h
    · cases e
      have := hmx.apart _ _ _ _ _ _ n hpo q1 hy q2 hn' q3
      subst this
      have : kp (gf g b) = true := by
        simp only [kp, List.contains_iff_mem]
        exact List.mem_map.2 ⟨_, hmem, rfl⟩
      rw [this] at hk0; cases hk0
  have hpost : a.defers = [] ∧ ∃ v, (results fn a.tmps).run P w' = .ok v w' ∧ ∃ u σ' I', Ending.returned v = .returned u ∧ Post σ I w (lookB (mr ++ m)) 64 σ' I' w' (lookB (mr ++ m')) ∧ RV σ' I' w' res u := by
    refine ⟨hr.dfs, v, h1, v, σ', I', rfl, ?_, hrv⟩
    refine ⟨hr.os, hr.tape, hr.output, hr.hs, fun b y hy => ?_, fun b hb1 hb2 => ?_, fun n hn' => .inl (hr.i0 n hn'), fun n hn' => ?_, fun n hn' => ?_, fun n hn1 hn2 => hr.frame n hn1 hn2, ⟨fun b k hb' => ?_, fun b b' k k' y y' n q1 q2 q3 q4 q5 q6 => ?_⟩, fun b k hb' => ?_, fun n ho => ?_⟩
    · have : b < 64 := by
        rcases Nat.lt_or_ge b 64 with h | h
        · exact h
        · rw [hfree b h] at hy; cases hy
      simp only [σ', if_pos this]; exact hy
    · by_cases hlt : b < 64
      · simp only [σ', if_pos hlt] at hb2; exact absurd hb1 hb2
      · simp only [σ', if_neg hlt] at hb2
        cases hc : lookN g b with
        | none => rw [hc] at hb2; exact absurd rfl hb2
        | some c =>
          have : ∀ {g : List (Nat × Nat)}, lookN g b = some c → (b, c) ∈ g := by
            intro g
            induction g with
            | nil => intro h; cases h
            | cons q g ih =>
              obtain ⟨a1, a2⟩ := q
              intro h
              simp only [lookN] at h
              split at h
              · rename_i e; cases h; subst e; simp
              · simp [ih h]
          exact hfin.g _ (this hc)
    · rcases hn' with h | ⟨b0, hk0, c, q, z, e, q1, q2, q3⟩
      · exact hr.ib n h
      · obtain ⟨z', hz', _, hnn⟩ := hmx.blk _ _ q1
        rw [q2] at hz'; cases hz'
        exact (hnn n q3).1
    · rcases hn' with h | ⟨b0, hk0, c, q, z, e, q1, q2, q3⟩
      · rcases hr.inew n h with g | g | g
        · exact .inl g
        · exact .inr (.inr g)
        · exact .inr (.inl g)
      · rcases hr.mine n ⟨c, q, z, q1, q2, q3⟩ with g | g
        · exact .inr (.inr g)
        · exact .inr (.inl g)
    · obtain ⟨y, p1, p2, p3, p4, p5⟩ := hblk b k hb'
      exact ⟨y, p1, p4, p5⟩
    · obtain ⟨u, p1, p2, p3, p4, p5⟩ := hblk b k q1
      obtain ⟨u', p1', p2', p3', p4', p5'⟩ := hblk b' k' q2
      rw [q3] at p1; cases p1
      rw [q4] at p1'; cases p1'
      have := hmx.apart _ _ _ _ _ _ n p3 p3' p2 p2' q5 q6
      have := nodup_inj hfin.nd (lookB_mem q1) (lookB_mem q2) this
      exact congrArg Prod.fst this
    · have hd := (hfin.dom _ (lookB_mem hb')).1
      simp only [nmF, Bool.or_eq_true, Bool.and_eq_true, decide_eq_true_eq] at hd
      rcases hd with ⟨_, hd⟩ | ⟨hd1, hd2⟩
      · left; intro h; rw [h] at hd; cases hd
      · right
        obtain ⟨c, hc⟩ := Option.isSome_iff_exists.1 hd2
        have : ∀ {g : List (Nat × Nat)}, lookN g b = some c → (b, c) ∈ g := by
          intro g
          induction g with
          | nil => intro h; cases h
          | cons q g ih =>
            obtain ⟨a1, a2⟩ := q
            intro h
            simp only [lookN] at h
            split at h
            · rename_i e; cases h; subst e; simp
            · simp [ih h]
        exact hfin.g _ (this hc)
    · obtain ⟨b, k, y, q1, q2, q3⟩ := ho
      obtain ⟨u, p1, p2, p3, p4, p5⟩ := hblk b k q1
      rw [q2] at p1; cases p1
      exact hr.mine n ⟨_, _, y, p3, p2, q3⟩
  rcases he with rfl | rfl
  · exact hpost
  · exact hpost
theorem CI.callJ {G : (Nat → Prop) → World → Prop} {dp : Nat} {P : Program} {nt : Nat} {R : Exit → X → Prop} {ops : Array Oper} {o : Oper} {rest : List Oper} {i : Nat} {ft : List (List Nat × List Nat)} {draw : Bool} {k : List It} {x : X} {c : Call} {fo : Operand} {f : FuncId} {first captured : List AV} {args : List AV} {mr m m' : List (Nat × Blk)} {res : AV} (bn : List Nat)
    (hct : CtJ G P f args mr m res m') (hen : Enters P f) (ho : o.op = .call c) (hc : c.callee = .value fo) (hdst : dstOk nt o.dst = true) (hg : o.guard = none ∨ ∃ g wa, o.guard = some (g, wa) ∧ gbool ops g (lookT x.tm) = some wa)
    (hf : calleeA (ev (lookT x.tm) fo) = some (f, first, captured)) (ha : leA.leL (first ++ c.args.toList.map (ev (lookT x.tm)) ++ captured) (args.map (AV.ren (renL bn (x.nx + 64 * i))))) (hn : CallNames bn args mr m res m')
    (hk : ∀ p ∈ mr ++ m, lookM x.mm (renL bn (x.nx + 64 * i) p.1) = some (p.2.ren (renL bn (x.nx + 64 * i))))
    (h : CI none dp (JG G) P nt R (.ops ops rest (i + 1) (ft ++ [(callE bn (x.nx + 64 * i) mr m res m').foot]) draw :: k) (x.app o.dst (callE bn (x.nx + 64 * i) mr m res m'))) : CI none dp (JG G) P nt R (.ops ops (o :: rest) i ft draw :: k) x :=
  .op _ hdst hg (ok_callJ ho hc _ _ _ hf hen hct ha hn hk) h
section
variable {ro : Option Nat} {dp : Nat} {J : Names → (Nat → Prop) → World → Prop}
theorem CI.callG {P : Program} {nt : Nat} {R : Exit → X → Prop} {ops : Array Oper} {o : Oper} {rest : List Oper} {i : Nat} {ft : List (List Nat × List Nat)} {draw : Bool} {k : List It} {x : X} {c : Call} {fo : Operand} {f : FuncId} {first captured : List AV} {args : List AV} {mr m m' : List (Nat × Blk)} {res : AV} (gv bn : List Nat)
    (hct : Ct P f args mr m res m') (hen : Enters P f) (ho : o.op = .call c) (hc : c.callee = .value fo) (hdst : dstOk nt o.dst = true) (hg : o.guard = none ∨ ∃ g wa, o.guard = some (g, wa) ∧ gbool ops g (lookT x.tm) = some wa)
    (hf : calleeA (ev (giveT gv x) fo) = some (f, first, captured)) (ha : leA.leL (first ++ c.args.toList.map (ev (giveT gv x)) ++ captured) (args.map (AV.ren (renL bn (x.nx + 64 * i))))) (hn : CallNames bn args mr m res m')
    (hk : ∀ p ∈ mr ++ m, gvB gv (lookM x.mm) (renL bn (x.nx + 64 * i) p.1) = some (p.2.ren (renL bn (x.nx + 64 * i)))) (hgv : ∀ b, b ∈ gv → (lookM x.mm b).isSome = true)
    (h : CI ro dp J P nt R (.ops ops rest (i + 1) (ft ++ [(giveE (callE bn (x.nx + 64 * i) mr m res m') gv).foot]) draw :: k) (x.app o.dst (giveE (callE bn (x.nx + 64 * i) mr m res m') gv))) : CI ro dp J P nt R (.ops ops (o :: rest) i ft draw :: k) x :=
  .op _ hdst hg (OpOk.toI (by simp [plainOp, ho]) (OpOk.give gv hgv (ok_callC ho hc _ _ _ hf hen hct ha hn hk))) h
theorem CI.callF {P : Program} {nt : Nat} {R : Exit → X → Prop} {ops : Array Oper} {o : Oper} {rest : List Oper} {i : Nat} {ft : List (List Nat × List Nat)} {draw : Bool} {k : List It} {x : X} {c : Call} {fo : Operand} {kf : AV} {args : List AV} {res : AV}
    (h0 : FnOk P kf args res) (ho : o.op = .call c) (hc : c.callee = .value fo) (hdst : dstOk nt o.dst = true) (hg : o.guard = none ∨ ∃ g wa, o.guard = some (g, wa) ∧ gbool ops g (lookT x.tm) = some wa)
    (hf : ev (lookT x.tm) fo = kf) (ha : leA.leL (c.args.toList.map (ev (lookT x.tm))) args)
    (h : CI ro dp J P nt R (.ops ops rest (i + 1) (ft ++ [([], [])]) draw :: k) ⟨putT o.dst (res.ren (renL [] (x.nx + 64 * i))) x.tm, x.mm, x.nx⟩) : CI ro dp J P nt R (.ops ops (o :: rest) i ft draw :: k) x := by
  obtain ⟨f, first, cap, h1, h2, h3, h4, h5⟩ := h0
  refine CI.callP h3 h2 ho hc hdst hg (by rw [hf]; exact h1) ?_ h4 h5 h
  rw [renL_nf h4]
  exact leL_append (leL_append (leL_self _) ha) (leL_self _)
theorem LoopI.weak {P : Program} {nt : Nat} {R : Exit → X → Prop} {c : Code} {k : List It} {x y : X} (hs : ∀ (E : Ctx) a w, Rel E x.den a w → Rel E y.den a w) (h : LoopI ro dp J P nt R c k y) : LoopI ro dp J P nt R c k x :=
  fun E hP hn hJ a w hr => h E hP hn hJ a w (hs E a w hr)
theorem LoopI.nilOwn {P : Program} {nt : Nat} {R : Exit → X → Prop} {k : List It} {x : X} {c : Code} (t sz : Nat) (T : TypeId) (ht : lookT x.tm t = .d (.v (.slice none 0 0))) (h : LoopI ro dp J P nt R c k ⟨(t, .own x.nx) :: x.tm, (x.nx, some (.grow sz [] T)) :: x.mm, x.nx + 1⟩) : LoopI ro dp J P nt R c k x :=
  .weak (fun _ _ _ hr => Rel.nilOwn ht (Nat.le_refl _) hr) h
theorem LoopI.nilCell {P : Program} {nt : Nat} {R : Exit → X → Prop} {k : List It} {x : X} {c : Code} (b j sz : Nat) (T U : TypeId) (cs : List AV) (hc : lookM x.mm b = some (.cells cs U)) (hj : cs[j]? = some (.d (.v (.slice none 0 0)))) (h : LoopI ro dp J P nt R c k ⟨x.tm, (x.nx, some (.grow sz [] T)) :: (b, some (.cells (cs.set j (.own x.nx)) U)) :: x.mm, x.nx + 1⟩) : LoopI ro dp J P nt R c k x :=
  .weak (fun _ _ _ hr => Rel.nilCell hc hj (Nat.le_refl _) hr) h
end
end Go.AI
open Go.RowKit
namespace Go.AI
/-- A function that makes new memory alone, and hands back a value without names. -/
theorem CtJ.of_below {G : (Nat → Prop) → World → Prop} {P : Program} {f : FuncId} {args : List AV} {mr : List (Nat × Blk)} {r : Value}
    (h : ∀ (σ : Names) (I : Nat → Prop) (w : World) (vs : List Value), G I w → (∀ n, I n → n < w.heap.size) → vs.length = args.length → (∀ (i : Nat) c x, args[i]? = some c → vs[i]? = some x → RV σ I w c x) → RM σ I w (lookB mr) →
      Calls P f vs.toArray w fun e w' => e = .returned r ∧ Below w.heap.size w w' ∧ w.drawn ≤ w'.drawn) : CtJ G P f args mr [] (.d (.v r)) [] := by
  intro σ I w vs hG hI hl ha hm hn
  rw [List.append_nil] at hm ⊢
  refine (h σ I w vs hG hI hl ha hm).mono fun e w' ⟨h1, hb, hd⟩ => ⟨r, σ, I, h1, ?_, .d (.v r)⟩
  refine ⟨hb.os, hb.tape, ⟨hb.output, hd⟩, hb.size, fun _ _ h => h, fun _ h h' => absurd h h', fun _ h => h, fun n hn => Nat.lt_of_lt_of_le (hI n hn) hb.size, fun _ h => .inl h, fun n hn _ => hb.block n hn, ?_, fun b k h => .inl (by rw [h]; simp), fun n ho => .inl ho⟩
  refine ⟨fun b k hb' => ?_, hm.apart⟩
  obtain ⟨x, h1, h2, h3⟩ := hm.blk b k hb'
  exact ⟨x, h1, h2.mono (fun n hn => hb.block n (hI n hn)) (fun _ h => h) (fun _ _ h => h) (fun n hn => hb.block n (h3 n hn).1), fun n hn => ⟨Nat.lt_of_lt_of_le (h3 n hn).1 hb.size, (h3 n hn).2⟩⟩
end Go.AI
namespace Go.AI
/-- An operation that is handed what the call owned, as data that stays. -/
theorem OpOkI.give {dp : Nat} {G : (Nat → Prop) → World → Prop} (hGk : Keeps G) {P : Program} {o : Oper} {tm : Nat → AV} {mem : Mem} {nm : Nat} (gv : List Nat) {e : Eff} (hgv : ∀ b, b ∈ gv → (mem b).isSome = true)
    (h : OpOkI none dp (JG G) P o (fun t => prA (fun b => !gv.contains b) mem 8 (tm t)) (e.mr (gvB gv mem)) nm e.res (e.mw (gvB gv mem))) :
    OpOkI none dp (JG G) P o tm ((Eff.mk e.res e.rd (e.wr ++ gv.map fun b => (b, none))).mr mem) nm e.res ((Eff.mk e.res e.rd (e.wr ++ gv.map fun b => (b, none))).mw mem) := by
  intro a w σ I hG h1 h2 h3 h4 next Q hn
  let kp : Nat → Bool := fun b => !gv.contains b
  let m2 : Mem := (Eff.mk e.res e.rd (e.wr ++ gv.map fun b => (b, none))).mr mem
  have hm2 : ∀ b, kp b = false → mem b = m2 b := by
    intro b hb
    have hc : gv.contains b = true := by simpa [kp] using hb
    have hw : (wrote (e.wr ++ gv.map fun b => (b, none)) b).isSome = true := by
      rw [wrote_append, wrote_gv, hc]
      cases wrote e.wr b <;> rfl
    simp only [m2, Eff.mr, hw, true_or, if_true]
  have sub : ∀ b k, e.mr (gvB gv mem) b = some k → m2 b = some k ∧ gv.contains b = false := by
    intro b k hk
    simp only [Eff.mr] at hk
    split at hk
    · rename_i hc
      simp only [gvB] at hk
      split at hk
      · cases hk
      · rename_i hg
        refine ⟨?_, by simpa using hg⟩
        simp only [m2, Eff.mr]
        rw [if_pos ?_]
        · exact hk
        · rcases hc with hc | hc
          · left
            rw [wrote_append]
            obtain ⟨q, hq⟩ := Option.isSome_iff_exists.1 hc
            rw [hq]
            simp
          · exact .inr hc
    · cases hk
  have hib : ∀ n, given σ I m2 kp n → n < w.heap.size := by
    intro n hn
    rcases hn with hn | ⟨b, _, c, k, y, hc, hk, hy, e⟩
    · exact h1 n hn
    · obtain ⟨y', hy', _, hh⟩ := h3.blk c k hk
      rw [hy] at hy'; cases hy'
      exact (hh n e).1
  have own2 : ∀ n, Owns σ (e.mr (gvB gv mem)) n → Owns σ m2 n := by
    rintro n ⟨b, k, x, hb, hx, e⟩
    exact ⟨b, k, x, (sub b k hb).1, hx, e⟩
  have hrm : RM σ (given σ I m2 kp) w (e.mr (gvB gv mem)) := by
    refine ⟨fun b k hb => ?_, fun b b' k k' x x' n hb hb' hx hx' q q' => h3.apart b b' k k' x x' n (sub b k hb).1 (sub b' k' hb').1 hx hx' q q'⟩
    obtain ⟨hb2, hbg⟩ := sub b k hb
    obtain ⟨x, hx, hrb, hh⟩ := h3.blk b k hb2
    refine ⟨x, hx, hrb.mono (fun _ _ => rfl) (fun n h => .inl h) (fun _ _ h => h) (fun _ _ => rfl), fun n hn => ⟨(hh n hn).1, ?_⟩⟩
    rintro (hI | ⟨c, hc, d, k', y, hd, hk', hy, q⟩)
    · exact (hh n hn).2 hI
    · cases hd
      have := h3.apart b c k k' x y n hb2 hk' hx hy hn q
      subst this
      simp only [kp] at hc
      rw [hbg] at hc; cases hc
  refine h a w σ (given σ I m2 kp) (hGk I _ w w hG (fun _ _ => rfl) (fun n hn => .inl hn)) hib (fun t ht => ?_) hrm h4 next Q (fun v σ' I' w' hp hv => hn v σ' I' w' ?_ hv)
  · have := prA_spec (kp := kp) h3 8 (h2 t ht)
    rwa [← prA_congr (mm := mem) (mm' := m2) hm2] at this
  · have hmw : ∀ c q, (Eff.mk e.res e.rd (e.wr ++ gv.map fun b => (b, none))).mw mem c = some q → e.mw (gvB gv mem) c = some q := by
      intro c q hq
      simp only [Eff.mw, wrote_append, wrote_gv] at hq
      simp only [Eff.mw]
      cases hw : wrote e.wr c with
      | some o => rw [hw] at hq; exact hq
      | none =>
        rw [hw] at hq
        simp only at hq ⊢
        cases hc : gv.contains c with
        | true => rw [hc] at hq; simp at hq
        | false =>
          rw [hc] at hq
          simp only [gvB, hc]
          simpa using hq
    have ownsMw : ∀ n, Owns σ' ((Eff.mk e.res e.rd (e.wr ++ gv.map fun b => (b, none))).mw mem) n → Owns σ' (e.mw (gvB gv mem)) n := by
      rintro n ⟨b, k, x, hb, hx, q⟩
      exact ⟨b, k, x, hmw b k hb, hx, q⟩
    refine ⟨hp.os, hp.tape, hp.output, hp.size, hp.names, hp.new, fun n hn => hp.imono n (.inl hn), hp.ib, fun n hn => ?_, fun n hn hno => hp.frame n hn (fun ho => hno (own2 n ho)), ⟨fun b k hb => hp.mem.blk b k (hmw b k hb), fun b b' k k' x x' n hb hb' => hp.mem.apart b b' k k' x x' n (hmw b k hb) (hmw b' k' hb')⟩, fun c q hq => ?_, fun n ho => ?_⟩
    · rcases hp.inew n hn with (g | ⟨b, _, c, k, y, hc, hk, hy, q⟩) | g | g
      · exact .inl g
      · exact .inr (.inr ⟨c, k, y, hk, hy, q⟩)
      · exact .inr (.inl g)
      · exact .inr (.inr (own2 n g))
    · rcases hp.dom c q (hmw c q hq) with g | g
      · left
        obtain ⟨k, hk⟩ := Option.ne_none_iff_exists'.1 g
        show m2 c ≠ none
        rw [(sub c k hk).1]; simp
      · exact .inr g
    · rcases hp.mine n (ownsMw n ho) with g | g
      · exact .inl (own2 n g)
      · exact .inr g
theorem CI.callJG {G : (Nat → Prop) → World → Prop} (hGk : Keeps G) {dp : Nat} {P : Program} {nt : Nat} {R : Exit → X → Prop} {ops : Array Oper} {o : Oper} {rest : List Oper} {i : Nat} {ft : List (List Nat × List Nat)} {draw : Bool} {k : List It} {x : X} {c : Call} {fo : Operand} {f : FuncId} {first captured : List AV} {args : List AV} {mr m m' : List (Nat × Blk)} {res : AV} (gv bn : List Nat)
    (hct : CtJ G P f args mr m res m') (hen : Enters P f) (ho : o.op = .call c) (hc : c.callee = .value fo) (hdst : dstOk nt o.dst = true) (hg : o.guard = none ∨ ∃ g wa, o.guard = some (g, wa) ∧ gbool ops g (lookT x.tm) = some wa)
    (hf : calleeA (ev (giveT gv x) fo) = some (f, first, captured)) (ha : leA.leL (first ++ c.args.toList.map (ev (giveT gv x)) ++ captured) (args.map (AV.ren (renL bn (x.nx + 64 * i))))) (hn : CallNames bn args mr m res m')
    (hk : ∀ p ∈ mr ++ m, gvB gv (lookM x.mm) (renL bn (x.nx + 64 * i) p.1) = some (p.2.ren (renL bn (x.nx + 64 * i)))) (hgv : ∀ b, b ∈ gv → (lookM x.mm b).isSome = true)
    (h : CI none dp (JG G) P nt R (.ops ops rest (i + 1) (ft ++ [(giveE (callE bn (x.nx + 64 * i) mr m res m') gv).foot]) draw :: k) (x.app o.dst (giveE (callE bn (x.nx + 64 * i) mr m res m') gv))) : CI none dp (JG G) P nt R (.ops ops (o :: rest) i ft draw :: k) x :=
  .op _ hdst hg (OpOkI.give hGk gv hgv (ok_callJ ho hc _ _ _ hf hen hct ha hn hk)) h
end Go.AI
namespace Go.AI
theorem CI.opG {ro : Option Nat} {dp : Nat} {J : Names → (Nat → Prop) → World → Prop} {P : Program} {nt : Nat} {R : Exit → X → Prop} {ops : Array Oper} {o : Oper} {rest : List Oper} {i : Nat} {ft : List (List Nat × List Nat)} {draw : Bool} {k : List It} {x : X} (gv : List Nat) (st n : Nat) (hk : clean k = true) (hdst : dstOk nt o.dst = true) (hg : o.guard = none ∨ ∃ g wa, o.guard = some (g, wa) ∧ gbool ops g (lookT x.tm) = some wa)
    (hgv : ∀ b, b ∈ gv → (lookM x.mm b).isSome = true)
    (h : match absC P o (giveT gv x) (gvB gv (lookM x.mm)) (x.nx + 64 * i) with
      | some (sc, e) => sc ∧ AI.runI ro dp J P nt R st n (.ops ops rest (i + 1) (ft ++ [(giveE e gv).foot]) draw :: k) (x.app o.dst (giveE e gv))
      | none => False) : CI ro dp J P nt R (.ops ops (o :: rest) i ft draw :: k) x := by
  split at h
  · rename_i sc e hr
    exact .op _ hdst hg (OpOk.toI (absC_plain hr) (OpOk.give gv hgv (absC_sound hr h.1))) (.runOps st n hk h.2)
  · exact h.elim
theorem CW.opG {P : Program} {nt : Nat} {R : Exit → X → Prop} {ops : Array Oper} {o : Oper} {rest : List Oper} {i : Nat} {ft : List (List Nat × List Nat)} {draw : Bool} {k : List It} {x : X} (gv : List Nat) (st n : Nat) (hk : clean k = true) (hdst : dstOk nt o.dst = true) (hg : o.guard = none ∨ ∃ g wa, o.guard = some (g, wa) ∧ gbool ops g (lookT x.tm) = some wa)
    (hgv : ∀ b, b ∈ gv → (lookM x.mm b).isSome = true)
    (h : match absC P o (giveT gv x) (gvB gv (lookM x.mm)) (x.nx + 64 * i) with
      | some (sc, e) => sc ∧ AI.run P nt R st n (.ops ops rest (i + 1) (ft ++ [(giveE e gv).foot]) draw :: k) (x.app o.dst (giveE e gv))
      | none => False) : CW P nt R (.ops ops (o :: rest) i ft draw :: k) x := by
  split at h
  · rename_i sc e hr
    exact .op _ hdst hg (OpOk.give gv hgv (absC_sound hr h.1)) (.runOps st n hk h.2)
  · exact h.elim
end Go.AI
end
section
namespace Go.AI
theorem FnOk.bnd {P : Program} {f : FuncId} {args : List AV} {first : List D} {res : AV} (h : Ct P f (first.map .d ++ args) [] [] res []) (he : Enters P f) (h1 : inA.inL (fun b => decide (b < 0)) (first.map .d ++ args) = true) (h2 : inA (nmOk 0) res = true) : FnOk P (.d (.fn (.func f) first [])) args res :=
  ⟨f, first.map .d, [], rfl, he, by simpa using h, by simpa using h1, h2⟩
end Go.AI
end
section
namespace Go.AI
theorem sub_own {σ : Names} {I : Nat → Prop} {w : World} {sz i l : Nat} {es : List (List D)} {T : TypeId} {y v : Value} (hb0 : RB σ I w (.grow sz es T) y) (hs : SubSl sz y i l v) (hi : i = 0) (hl : l ≤ es.length) :
    (∀ σ' : Names, RB σ' I w (.grow sz (es.take l) T) v) ∧ v.oneCell' = true ∧ ∀ n, hb v = some n → hb y = some n := by
  subst hi
  cases hs with
  | nil => exact ⟨fun _ => by simpa using RB.none, rfl, fun n h => h⟩
  | none a => exact ⟨fun _ => by simpa using RB.emp a, rfl, fun n h => by simp [hb] at h⟩
  | @some n len cap _ _ c hc hlc =>
    cases hb0 with
    | emp => 
      have : c = 0 := by omega
      subst this
      have : l = 0 := by omega
      subst this
      exact ⟨fun _ => by simpa using RB.emp _, rfl, fun n h => by simp [hb] at h⟩
    | @grow _ _ _ _ _ arr hw h1 hcap hmax hsz hr =>
      refine ⟨fun σ' => ?_, rfl, fun m h => ?_⟩
      · have e : (es.take l).length = l := by rw [List.length_take]; omega
        have := RB.grow (σ := σ') (I := I) (w := w) (sz := sz) (es := es.take l) (T := T) (n := n) (cap := c) (arr := arr) hw (Nat.le_trans (Nat.mul_le_mul_right _ (by omega)) h1) (by rw [e]; exact hlc) (by omega) (fun e he => hsz e (List.mem_of_mem_take he))
          (fun i e j c h1 h2 => hr i e j c (by rw [List.getElem?_take] at h1; split at h1 <;> simp_all) h2)
        rw [e] at this
        simpa using this
      · cases c with
        | zero => simp [hb] at h
        | succ c =>
          cases cap with
          | zero => omega
          | succ cap => simpa [hb] using h
theorem Ct.trunc {P : Program} {f : FuncId} {args : List AV} {k0 : Blk} {sz i : Nat} {es : List (List D)} {T : TypeId} {r : AV} (hr : r = .own 0 ∧ i = es.length ∨ r = .sl 0 sz 0 i) (hi : i ≤ es.length)
    (h : Ct P f args [] [(0, k0)] r [(0, .grow sz es T)]) : Ct P f args [] [(0, k0)] (.own 64) [(64, .grow sz (es.take i) T)] := by
  intro σ I w vs hI hl ha hm h64
  refine (h σ I w vs hI hl ha hm h64).mono ?_
  rintro e w' ⟨v, σ', I', rfl, hp, hv⟩
  obtain ⟨y, hy, hb0, hbn⟩ := hp.mem.blk 0 _ rfl
  have key : (∀ σ' : Names, RB σ' I' w' (.grow sz (es.take i) T) v) ∧ v.oneCell' = true ∧ ∀ n, hb v = some n → hb y = some n := by
    rcases hr with ⟨rfl, rfl⟩ | rfl
    · cases hv with
      | own h1 h2 =>
        rw [hy] at h1
        cases h1
        refine ⟨fun σ'' => ?_, h2, fun n h => h⟩
        rw [List.take_length]
        cases hb0 with
        | none => exact .none
        | emp a => exact .emp a
        | grow hw a1 a2 a3 a4 a5 => exact .grow hw a1 a2 a3 a4 a5
    · cases hv with
      | sl h1 h2 =>
        rw [hy] at h1
        cases h1
        exact sub_own hb0 h2 rfl hi
  obtain ⟨k1, k2, k3⟩ := key
  let σ'' : Names := fun b => if b = 64 then some v else if b < 64 then σ' b else none
  have e64 : σ'' 64 = some v := rfl
  refine ⟨v, σ'', I', rfl, ⟨hp.os, hp.tape, hp.output, hp.size, ?_, ?_, hp.imono, hp.ib, hp.inew, hp.frame, ⟨?_, ?_⟩, ?_, ?_⟩, .own e64 k2⟩
  · intro b x hb
    have : b < 64 := by
      rcases Nat.lt_or_ge b 64 with h | h
      · exact h
      · rw [h64 b h] at hb; cases hb
    have hne : b ≠ 64 := by omega
    simp only [σ'', if_neg hne, if_pos this]
    exact hp.names b x hb
  · intro b hb hn
    by_cases h : b = 64
    · subst h; exact ⟨Nat.le_refl _, by omega⟩
    · by_cases h' : b < 64
      · simp only [σ'', if_neg h, if_pos h'] at hn
        exact hp.new b hb hn
      · simp only [σ'', if_neg h, if_neg h', ne_eq, not_true_eq_false] at hn
  · intro b k hk
    by_cases h : b = 64
    · subst h
      simp [lookB] at hk
      subst hk
      exact ⟨v, e64, k1 _, fun n hn => hbn n (k3 n hn)⟩
    · simp [lookB, h] at hk
      exfalso; omega
  · intro b b' k k' x x' n h1 h2 h3 h4 h5 h6
    have hb1 : b = 64 := by
      by_cases h : b = 64
      · exact h
      · simp [lookB, h] at h1
        exfalso; omega
    have hb2 : b' = 64 := by
      by_cases h : b' = 64
      · exact h
      · simp [lookB, h] at h2
        exfalso; omega
    rw [hb1, hb2]
  · intro b k hk
    by_cases h : b = 64
    · exact Or.inr ⟨by omega, by omega⟩
    · simp [lookB, h] at hk
      exfalso; omega
  · rintro n ⟨b, k, x, h1, h2, h3⟩
    have hb1 : b = 64 := by
      by_cases h : b = 64
      · exact h
      · simp [lookB, h] at h1
        exfalso; omega
    subst hb1
    rw [e64] at h2
    cases h2
    exact hp.mine n ⟨0, _, y, rfl, hy, k3 n h3⟩
end Go.AI
end
section
namespace Go.AI
theorem CW.seqScope {P : Program} {nt : Nat} {R : Exit → X → Prop} (hm : P.follows .mixedOrders = true) (hp : Plain R) {c d : Code} {k : List It} {x : X} (hk : clean k = true) (h : CW P nt R (.code c :: .code d :: k) x) : CW P nt R (.code (.seq c (.scope d)) :: k) x := by
  refine CW.cut (by simpa [clean, isOps] using hk) fun E hP hn a w hr => ?_
  have h1 := (CW_sound hm h E hP hn).1 (by simpa [clean, isOps] using hk) a w hr
  simp only [aft] at h1 ⊢
  refine wp_seq (wp_mono h1 (fun e a w h => ?_))
  cases e <;> simp only [aft, Exit.then] at h ⊢ <;> try exact h
  refine wp_scope_straight (wp_mono h (fun e a w h => ?_))
  cases e <;> simp only [Exit.noGoto] <;> first | exact h | exact absurd h (aft_goto hp k)
end Go.AI
end
