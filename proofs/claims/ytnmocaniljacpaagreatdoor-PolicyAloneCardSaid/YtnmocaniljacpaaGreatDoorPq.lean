/-
  LAYER 9: what is accepted is closed: plain laws.
-/
import Derived.Test.YtnmocaniljacpaaGreatDoorPn
set_option linter.unusedSimpArgs false
set_option linter.unusedVariables false
section
namespace Go.G
theorem putK_len (l : List Key) (k : Key) : (putK l k).length ≤ l.length + 1 := putG_length k false l
theorem foldK_len : ∀ (m o : List Key), (m.foldl putK o).length ≤ o.length + m.length
  | [], o => by simp
  | k :: m, o => by
    have h1 := foldK_len m (putK o k)
    have h2 := putK_len o k
    rw [List.foldl_cons, List.length_cons]; omega
theorem refs_name {r : Res} {k : Key} (h : k ∈ refsK r) : nB k.name := by
  unfold refsK at h
  split at h
  · rename_i hs
    obtain ⟨_, _, h3, _, h5, _⟩ := sane_parts hs
    rw [fold_refs] at h
    have hasc : Asc (refs0 r) := by unfold refs0; split <;> simp [Asc]
    rw [(fold_putK _ hasc).2] at h
    simp only [namedB, Bool.and_eq_true, Bool.or_eq_true, Bool.not_eq_true', List.all_eq_true] at h5
    rcases h with h | h
    · unfold refs0 at h
      split at h
      · rename_i hm
        simp at h; subst h
        have := name_le (h5.1.resolve_left (by simp [hm]))
        unfold nB; simp only; omega
      · simp at h
    · obtain ⟨w, hw, rfl⟩ := List.mem_map.1 h
      obtain ⟨x, hx, hwx⟩ := List.mem_flatMap.1 (List.mem_filter.1 hw).1
      have := h5.2 x hx
      simp only [ruleB, Bool.and_eq_true, List.all_eq_true] at this
      have := name_le (this.2 w hwx)
      unfold nB; simp only; omega
  · simp at h
/-- What the reference's rounds leave. -/
def stepR (l : List Res) (out : List Key) (q : Key) : List Key := if (getR l q).isSome = true ∧ q ∉ out then out ++ [q] else out
def rowR (l : List Res) (out : List Key) (r : Res) : List Key := if r.key ∈ out then (refsK r).foldl (stepR l) out else out
def reachN (l : List Res) : Nat → List Key
  | 0 => rootsR l
  | n + 1 => l.foldl (rowR l) (reachN l n)
def reachQ (l : List Res) : List Res := l.filter fun r => decide (r.key ∈ reachN l 4)
theorem stepR_len (l : List Res) (out : List Key) (q : Key) : (stepR l out q).length ≤ out.length + 1 := by unfold stepR; split <;> simp
theorem stepR_sub (l : List Res) (out : List Key) (q : Key) : ∀ x ∈ out, x ∈ stepR l out q := by
  intro x hx; unfold stepR; split <;> simp [hx]
theorem foldS_len (l : List Res) : ∀ (m out : List Key), (m.foldl (stepR l) out).length ≤ out.length + m.length
  | [], out => by simp
  | q :: m, out => by
    have h1 := foldS_len l m (stepR l out q)
    have h2 := stepR_len l out q
    rw [List.foldl_cons, List.length_cons]; omega
theorem foldS_sub (l : List Res) : ∀ (m out : List Key), ∀ x ∈ out, x ∈ m.foldl (stepR l) out
  | [], _, _, h => h
  | q :: m, out, x, h => foldS_sub l m _ x (stepR_sub l out q x h)
theorem rowR_len (l : List Res) (out : List Key) (r : Res) : (rowR l out r).length ≤ out.length + 33 := by
  unfold rowR
  split
  · have := foldS_len l (refsK r) out
    have := refs_le33 r
    omega
  · omega
theorem foldR_len (l : List Res) : ∀ (m : List Res) (out : List Key), (m.foldl (rowR l) out).length ≤ out.length + 33 * m.length
  | [], out => by simp
  | q :: m, out => by
    have h1 := foldR_len l m (rowR l out q)
    have h2 := rowR_len l out q
    rw [List.foldl_cons, List.length_cons]; omega
theorem roots_len (l : List Res) : (rootsR l).length ≤ l.length := by
  have := List.length_filter_le (fun r : Res => decide (r.kind = 0)) l
  simpa [rootsR] using this
theorem reachN_len (l : List Res) : ∀ n, (reachN l n).length ≤ l.length + 33 * l.length * n
  | 0 => by have := roots_len l; simpa [reachN] using this
  | n + 1 => by
    have h1 := reachN_len l n
    have h2 := foldR_len l l (reachN l n)
    unfold reachN
    have : 33 * l.length * (n + 1) = 33 * l.length * n + 33 * l.length := by rw [Nat.mul_succ]
    omega
/-- What is reached is closed. -/
def ClosedK (l : List Res) (out : List Key) (k : Key) : Prop := ∀ r, getR l k = some r → ∀ q ∈ refsK r, (getR l q).isSome = true → q ∈ out
theorem visit_has (l : List Res) (n : Nat) (out : List Key) (k : Key) (h : (getR l k).isSome = true) : k ∈ visitF l (n + 1) out k := by
  unfold visitF
  obtain ⟨r, hr⟩ := Option.isSome_iff_exists.1 h
  rw [hr]
  simp only
  split
  · assumption
  · exact fold_sub (visit_sub l n) _ _ _ (by simp)
theorem visit_closed (l : List Res) : ∀ (n : Nat) (out : List Key) (k : Key), leftR l out < n → ∀ x ∈ visitF l n out k, x ∉ out → ClosedK l (visitF l n out k) x
  | 0, _, _, h => by omega
  | n + 1, out, k, h => by
    intro x hx hno
    unfold visitF at hx ⊢
    cases hr : getR l k with
    | none => rw [hr] at hx; exact absurd hx hno
    | some r =>
      rw [hr] at hx
      simp only at hx ⊢
      by_cases hk : k ∈ out
      · rw [if_pos hk] at hx; exact absurd hx hno
      · rw [if_neg hk] at hx ⊢
        have hlt : leftR l (out ++ [k]) < n := by
          have := left_lt (l := l) (out := out) (k := k) (mem_keys.2 (by rw [hr]; rfl)) hk
          omega
        -- the fold over what is named
        have key : ∀ (m : List Key) (o : List Key), leftR l o < n → (∀ q ∈ m, (getR l q).isSome = true → q ∈ m.foldl (visitF l n) o) ∧ ∀ x ∈ m.foldl (visitF l n) o, x ∉ o → ClosedK l (m.foldl (visitF l n) o) x := by
          intro m
          induction m with
          | nil => exact fun o _ => ⟨fun q hq => by simp at hq, fun x hx hn => absurd hx hn⟩
          | cons q m ih =>
            intro o ho
            rw [List.foldl_cons]
            have hle : leftR l (visitF l n o q) < n := by
              have := left_le (l := l) (a := o) (b := visitF l n o q) (fun x hx => visit_sub l n o q x hx)
              omega
            obtain ⟨i1, i2⟩ := ih _ hle
            have hsub : ∀ x, x ∈ visitF l n o q → x ∈ m.foldl (visitF l n) (visitF l n o q) := fun x hx => fold_sub (visit_sub l n) m _ x hx
            refine ⟨fun p hp hs => ?_, fun x hx hn => ?_⟩
            · rcases List.mem_cons.1 hp with e | e
              · subst e
                cases n with
                | zero => omega
                | succ n => exact hsub _ (visit_has l n o _ hs)
              · exact i1 p e hs
            · by_cases hv : x ∈ visitF l n o q
              · intro r hr p hp hs
                exact hsub _ (visit_closed l n o q ho x hv hn r hr p hp hs)
              · exact i2 x hx hv
        obtain ⟨k1, k2⟩ := key (refsK r) (out ++ [k]) hlt
        by_cases hxk : x = k
        · subst hxk
          intro r' hr' q hq hs
          rw [hr] at hr'; cases hr'
          exact k1 q hq hs
        · exact k2 x hx (by simp [hno, hxk])
theorem reached_closed (l : List Res) : ∀ x ∈ reachedL l, ClosedK l (reachedL l) x := by
  have key : ∀ (m o : List Key), (∀ x ∈ o, ClosedK l o x) → ∀ x ∈ m.foldl (visitF l (l.length + 1)) o, ClosedK l (m.foldl (visitF l (l.length + 1)) o) x := by
    intro m
    induction m with
    | nil => exact fun o h => h
    | cons q m ih =>
      intro o h
      rw [List.foldl_cons]
      refine ih _ fun x hx => ?_
      by_cases hn : x ∈ o
      · intro r hr p hp hs
        exact visit_sub l _ o q p (h x hn r hr p hp hs)
      · exact visit_closed l _ o q (by have := left_len l o; omega) x hx hn
  exact key _ [] (fun x hx => by simp at hx)
theorem reached_root {l : List Res} {k : Key} (h : k ∈ rootsR l) : k ∈ reachedL l := by
  have key : ∀ (m o : List Key), k ∈ m → k ∈ m.foldl (visitF l (l.length + 1)) o := by
    have hs : (getR l k).isSome = true := by
      obtain ⟨r, hr, rfl⟩ := List.mem_map.1 h
      exact mem_keys.1 (List.mem_map.2 ⟨r, (List.mem_filter.1 hr).1, rfl⟩)
    intro m
    induction m with
    | nil => intro o h; simp at h
    | cons q m ih =>
      intro o hm
      rw [List.foldl_cons]
      rcases List.mem_cons.1 hm with e | e
      · subst e; exact fold_sub (visit_sub l _) m _ _ (visit_has l _ o _ hs)
      · exact ih _ e
  exact key _ [] h
theorem reachN_sound {l : List Res} (ha : AscR l) : ∀ (n : Nat), ∀ x ∈ reachN l n, x ∈ reachedL l
  | 0, x, h => reached_root h
  | n + 1, x, h => by
    have ih := reachN_sound ha n
    have step : ∀ (m : List Res) (o : List Key), (∀ r ∈ m, r ∈ l) → (∀ x ∈ o, x ∈ reachedL l) → ∀ x ∈ m.foldl (rowR l) o, x ∈ reachedL l := by
      intro m
      induction m with
      | nil => exact fun o _ h => h
      | cons r m ihm =>
        intro o hm ho
        rw [List.foldl_cons]
        refine ihm _ (fun q hq => hm q (by simp [hq])) ?_
        unfold rowR
        split
        · rename_i hk
          have hr := ascR_get ha (hm r (by simp))
          have hkr := ho _ hk
          have inner : ∀ (s : List Key) (o : List Key), (∀ q ∈ s, q ∈ refsK r) → (∀ x ∈ o, x ∈ reachedL l) → ∀ x ∈ s.foldl (stepR l) o, x ∈ reachedL l := by
            intro s
            induction s with
            | nil => exact fun o _ h => h
            | cons q s ihs =>
              intro o hs ho
              rw [List.foldl_cons]
              refine ihs _ (fun p hp => hs p (by simp [hp])) ?_
              unfold stepR
              split
              · rename_i hc
                intro x hx
                rcases List.mem_append.1 hx with e | e
                · exact ho x e
                · simp at e; subst e
                  exact reached_closed l r.key hkr r hr _ (hs _ (by simp)) hc.1
              · exact ho
          exact inner _ _ (fun _ h => h) ho
        · exact ho
    exact step l _ (fun _ h => h) ih x h
/-- Where all is well. -/
theorem miss_all {l : List Res} (h : (missR l).length = 0) {r : Res} (hr : r ∈ l) {q : Key} (hq : q ∈ refsK r) : (getR l q).isSome = true := by
  cases e : (getR l q).isSome with
  | true => rfl
  | false =>
    have : q ∈ missR l := mem_missR.2 ⟨⟨r, hr, hq⟩, e⟩
    rw [List.eq_nil_of_length_eq_zero h] at this
    simp at this
theorem served_end {l : List Res} (ha : AscR l) (h : servedE l = 0) {r : Res} (hr : r ∈ reachQ l) : endless r = false := by
  obtain ⟨h1, h2⟩ := List.mem_filter.1 hr
  have hk := reachN_sound ha 4 _ (of_decide_eq_true h2)
  unfold servedE at h
  split at h
  · simp at h
  · split at h
    · simp at h
    · rename_i h3
      cases e : endless r with
      | false => rfl
      | true => exact absurd (List.any_eq_true.2 ⟨r, List.mem_filter.2 ⟨h1, by simpa using hk⟩, e⟩) h3
theorem tab_all {l : List Res} (h : tabE l = 0) {r : Res} (hr : r ∈ l) : saneE r = 0 := by
  have h1 : firstE l = 0 := by
    unfold tabE at h
    split at h
    · simp at h
    · split at h
      · assumption
      · exact h
  unfold firstE at h1
  cases e : l.find? (fun r => !decide (saneE r = 0)) with
  | none =>
    have := List.find?_eq_none.1 e r hr
    simpa using this
  | some x =>
    rw [e] at h1
    have := List.find?_some e
    simp at this; exact absurd h1 this
theorem tab_ports {l : List Res} (h : tabE l = 0) : (portsR l).Nodup := by
  unfold tabE at h
  split at h
  · simp at h
  · split at h
    · split at h
      · simp at h
      · split at h
        · assumption
        · simp at h
    · rename_i h2; exact absurd h h2
theorem ports_ne {l : List Res} (h : tabE l = 0) {i j : Nat} {a b : Res} (hi : l[i]? = some a) (hj : l[j]? = some b) (hij : j < i) (ha : a.kind = 0) (hb : b.kind = 0) : ¬ a.port = b.port := by
  have hn := tab_ports h
  have e : l = l.take i ++ a :: l.drop (i + 1) := by
    have hlt := (List.getElem?_eq_some_iff.1 hi).1
    have := List.drop_eq_getElem_cons hlt
    rw [(List.getElem?_eq_some_iff.1 hi).2] at this
    rw [← this, List.take_append_drop]
  unfold portsR at hn
  rw [e, List.filter_append, List.map_append] at hn
  have hbm : b ∈ l.take i := by
    have hq : (l.take i)[j]? = some b := by rw [List.getElem?_take, if_pos hij]; exact hj
    exact List.mem_of_getElem? hq
  intro heq
  have := (List.nodup_append.1 hn).2.2 b.port (List.mem_map.2 ⟨b, List.mem_filter.2 ⟨hbm, by simp [hb]⟩, rfl⟩) a.port (List.mem_map.2 ⟨a, List.mem_filter.2 ⟨by simp, by simp [ha]⟩, rfl⟩)
  exact this heq.symm
end Go.G
end
