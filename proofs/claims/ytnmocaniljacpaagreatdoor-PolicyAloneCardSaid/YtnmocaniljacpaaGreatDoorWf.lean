/-
  LAYER 9: the walks of policies' exported functions and of the laws; what arguments are, what is laid.
-/
import Derived.Test.YtnmocaniljacpaaGreatDoorWe
import Derived.Test.YtnmocaniljacpaaGreatDoorAs
import Derived.Test.YtnmocaniljacpaaGreatDoorPn
import Derived.Test.YtnmocaniljacpaaGreatDoorFe
import Derived.Test.YtnmocaniljacpaaGreatDoorWd
import Derived.LaidHandle
import Derived.LaidSub
import Derived.Lay
import Derived.Test.YtnmocaniljacpaaGreatDoorRows
set_option linter.unusedSimpArgs false
set_option linter.unusedVariables false
section
open Go.RowKit
namespace Go.Proofs.YtnmocaniljacpaaGreatDoor
open Go.AI Go.G
set_option maxRecDepth 20000
/-- What errors.errorType reads as. -/
abbrev errV : Value := .iface 201 (.agg #[.pointer (some ⟨4, 84, none⟩)])
/-- The library's variable errors.errorType is laid, and stays. -/
def errG : (Nat → Prop) → World → Prop := fun I w => I 0 ∧ w.cell? ⟨0, 0, none⟩ = some errV
theorem errK : Keeps errG := fun I I' w w' h h1 h2 => ⟨h2 0 h.1, (cell_of_heap (h1 0 h.1)).trans h.2⟩
set_option maxHeartbeats 4000000 in
theorem told_hit (b : Nat) (e : Int) (w : World) (hg : w.cell? ⟨0, 0, none⟩ = some errV) (hc : w.cell? ⟨b, 0, none⟩ = some (.int .i64 e)) :
    Calls Tryz.prog 52 #[.iface 140 (.pointer (some ⟨b, 0, none⟩))] w fun ev w' => ev = .returned (.int .i64 e) ∧ Below w.heap.size w w' ∧ w.drawn ≤ w'.drawn := by
  have hlt : 0 < w.heap.size := by
    rcases Nat.eq_zero_or_pos w.heap.size with h0 | h
    · simp [World.cell?, h0] at hg
    · exact h
  have hbl : b < w.heap.size := by
    rcases Nat.lt_or_ge b w.heap.size with h | h
    · exact h
    · simp [World.cell?, Array.getElem?_eq_none h] at hc
  have hgA : (w.alloc (.cells #[.pointer none] 140)).cell? ⟨0, 0, none⟩ = some errV := by
    rw [World.cell?_alloc_lt _ _ ⟨0, 0, none⟩ hlt]; exact hg
  have htA : (w.alloc (.cells #[.pointer none] 140)).cell? ⟨w.heap.size, 0, none⟩ = some (.pointer none) := by simp
  have hfA : (w.alloc (.cells #[.pointer none] 140)).frozen? ⟨w.heap.size, 0, none⟩ = false := by simp
  have hAs : Calls Tryz.prog 91 #[.iface 140 (.pointer (some ⟨b, 0, none⟩)), .iface 142 (.pointer (some ⟨w.heap.size, 0, none⟩))] (w.alloc (.cells #[.pointer none] 140)) fun ev w' =>
      ev = .returned (.bool true) ∧ w'.cell? ⟨w.heap.size, 0, none⟩ = some (.pointer (some ⟨b, 0, none⟩)) ∧ w'.cell? ⟨b, 0, none⟩ = some (.int .i64 e) ∧ Below w.heap.size w w' ∧ w.drawn ≤ w'.drawn := by
    refine (as_hit _ _ (.pointer none) _ hgA htA hfA).mono ?_
    rintro ev w' ⟨rfl, rfl⟩
    have hB : Below w.heap.size w (((((w.alloc (.cells #[.pointer none] 140)).alloc (.cells #[.pointer (some ⟨w.heap.size, 0, none⟩)] 142)).alloc (.cells #[.pointer (some ⟨4, 142, none⟩), .pointer (some ⟨(w.alloc (.cells #[.pointer none] 140)).heap.size, 0, none⟩), .int .u64 150] 164)).alloc (.cells #[.pointer (some ⟨4, 142, none⟩), .pointer (some ⟨(w.alloc (.cells #[.pointer none] 140)).heap.size, 0, none⟩), .int .u64 150] 164)).alloc (.cells #[.pointer (some ⟨b, 0, none⟩)] 140)) :=
      (((((Below.refl _ w).alloc (Nat.le_refl _) _).alloc (by simp) _).alloc (by simp; omega) _).alloc (by simp; omega) _).alloc (by simp; omega) _
    refine ⟨rfl, ?_, ?_, hB.setCell (p := ⟨w.heap.size, 0, none⟩) (by simp) _, Nat.le_refl _⟩
    · refine (box_cell (box_set (t := 140) (v := .pointer none) ?_ _)).1
      refine (Below.heap_alloc _ _ _ (by simp; omega)).trans ?_
      refine (Below.heap_alloc _ _ _ (by simp; omega)).trans ?_
      refine (Below.heap_alloc _ _ _ (by simp; omega)).trans ?_
      refine (Below.heap_alloc _ _ _ (by simp)).trans ?_
      exact World.alloc_heap_new w _
    · have h1 := hB.block b hbl
      refine (cell_of_heap (a := ⟨b, 0, none⟩) ((box_other _ (show b ≠ w.heap.size by omega)).trans h1)).trans hc
  go_enter Tryz.func52, Tryz.ntmps52
  go_wp2_with (go_at_call 91; refine hAs.mono ?_; rintro ev w' ⟨rfl, c1, c2, c3, c4⟩)
  go_ret
  exact ⟨rfl, c3, c4⟩
theorem told_nil (w : World) : Calls Tryz.prog 52 #[.nilIface] w fun ev w' => ev = .returned (.int .i64 0) ∧ Below w.heap.size w w' ∧ w.drawn ≤ w'.drawn := by
  go_enter Tryz.func52, Tryz.ntmps52
  go_wp2_with (go_at_call 91; refine (as_nil _ _).mono ?_; rintro ev w' ⟨rfl, rfl⟩)
  go_ret
  exact ⟨rfl, (Below.refl _ w).alloc (Nat.le_refl _) _, Nat.le_refl _⟩
theorem told_p0 : CtJ errG Tryz.prog 52 [.d (.v .nilIface)] [] [] (int 0) [] := by
  refine CtJ.of_below fun σ I w vs hG hI hl ha hm => ?_
  match vs, hl with
  | [v], _ =>
    have h0 := ha 0 _ v rfl rfl
    obtain rfl := RV_v h0
    exact told_nil w
theorem told_p1 (e : Int) (cs : List AV) (T : TypeId) : CtJ errG Tryz.prog 52 [.ifc 140 (.ptr 0 0)] [(0, .cells (int e :: cs) T)] [] (int e) [] := by
  refine CtJ.of_below fun σ I w vs hG hI hl ha hm => ?_
  match vs, hl with
  | [v], _ =>
    have h0 := ha 0 _ v rfl rfl
    obtain ⟨y, hy, hb, hn⟩ := hm.blk 0 _ rfl
    cases h0 with
    | ifc h0 => cases h0 with
      | @ptr _ _ n h0 =>
        rw [h0] at hy; cases hy
        cases hb with
        | @cells _ _ _ arr c1 c2 c3 =>
          refine told_hit n e w hG.2 ?_
          have hlt : 0 < arr.size := by rw [c2]; simp
          have e0 : arr[0]? = some arr[0] := Array.getElem?_eq_getElem hlt
          have := c3 0 _ arr[0] rfl e0
          have e1 : arr[0] = .int .i64 e := by
            generalize arr[0] = z at this
            exact RV_v this
          simp [World.cell?, c1, e0, e1]
theorem taken_ne (s : Store) : ¬ (takenS s).hist = [] := by
  unfold takenS
  split
  · simp [newS]
  · rename_i h; simpa using h
theorem taken_len {s : Store} (hl : s.hist.length ≤ 1000000) : (takenS s).hist.length ≤ 1000000 := by
  unfold takenS
  split
  · simp [newS]
  · exact hl
theorem now_p (s : Store) (hl : s.hist.length ≤ 1000000) : Ct Tryz.prog 22 [st (storeC s)] [] [] (.tup [int ((takenS s).hist.length - 1), lst ((lastS (takenS s)).map resC)]) [] := by
  refine Ct.of_body Tryz.func22 rfl mixed (by rw [Tryz.ntmps22]; simp) (CW.run 9999 400 rfl ?_)
  simp [Tryz.ntmps22, Tryz.results22]
  refine CW.callP (taken_p s) Tryz.call41 rfl rfl rfl (by first | exact .inl rfl | exact .inr ⟨_, _, rfl, by simp⟩ | exact .inr ⟨_, _, rfl, by simp [*]⟩) rfl (by simp) rfl rfl (CW.runOps 9999 400 rfl ?_)
  simp [Tryz.ntmps22, Tryz.results22]
  have h1 := taken_ne s
  have h2 := taken_len hl
  have h0 : 0 < (takenS s).hist.length := List.length_pos_iff.2 h1
  have hw : IntKind.wrap .i64 (((takenS s).hist.length : Int) - 1) = ((takenS s).hist.length : Int) - 1 := wrap_i64 (by omega) (by omega)
  refine CW.callP (last_p (takenS s) h1 h2) Tryz.call45 rfl rfl rfl (by first | exact .inl rfl | exact .inr ⟨_, _, rfl, by simp⟩ | exact .inr ⟨_, _, rfl, by simp [*]⟩) rfl (by simp) rfl rfl (CW.runOps 9999 400 rfl ?_)
  simp [Tryz.ntmps22, Tryz.results22]
  refine ⟨by decide +kernel, ?_⟩
  first | (exact fin0 (by simp [hw]) rfl) | (refine ⟨by decide +kernel, ?_⟩; exact fin0 (by simp [hw]) rfl)
theorem Propose_p (s : Store) (adds : List Res) (gone : List Key) (hl : s.hist.length ≤ 1000000) (hok : OkRs (lastS (takenS s))) (hn : (lastS (takenS s)).length + adds.length ≤ 1000000) (hg : gone.length ≤ 9223372036854775807) : CtJ errG Tryz.prog 21 [st (storeC s), lst (adds.map resC), lst (gone.map keyC)] [] [] (.tup [st (storeC (propS (takenS s) adds gone)), int (propE (takenS s) adds gone)]) [] := by
  refine CtJ.of_body errK Tryz.func21 rfl mixed (by rw [Tryz.ntmps21]; simp) (CI.run 9999 400 rfl ?_)
  simp [Tryz.ntmps21, Tryz.results21]
  refine CI.callP (taken_p s) Tryz.call41 rfl rfl rfl (by first | exact .inl rfl | exact .inr ⟨_, _, rfl, by simp⟩ | exact .inr ⟨_, _, rfl, by simp [*]⟩) rfl (by simp) rfl rfl (CI.runOps 9999 400 rfl ?_)
  simp [Tryz.ntmps21, Tryz.results21]
  have h1 := taken_ne s
  have h2 := taken_len hl
  have hp := propose_p (takenS s) adds gone h1 h2 hok hn hg
  by_cases he : propE (takenS s) adds gone = 0
  · simp only [errA, errM, if_pos he] at hp
    refine CI.callP (hp ) Tryz.call43 rfl rfl rfl (by first | exact .inl rfl | exact .inr ⟨_, _, rfl, by simp⟩ | exact .inr ⟨_, _, rfl, by simp [*]⟩) rfl (by simp) rfl rfl (CI.runOps 9999 400 rfl ?_)
    simp [Tryz.ntmps21, Tryz.results21]
    refine CI.callJ [] (told_p0 ) Tryz.call52 rfl rfl rfl (by first | exact .inl rfl | exact .inr ⟨_, _, rfl, by simp⟩ | exact .inr ⟨_, _, rfl, by simp [*]⟩) rfl (by simp) (by constructor <;> simp [nmOk]) (by simp) (CI.runOps 9999 400 rfl ?_)
    simp [Tryz.ntmps21, Tryz.results21]
    refine ⟨by decide +kernel, ?_⟩
    first | (exact fin0 (by simp [he]) rfl) | (refine ⟨by decide +kernel, ?_⟩; exact fin0 (by simp [he]) rfl)
  · simp only [errA, errM, if_neg he] at hp
    refine CI.callC [] (hp ) Tryz.call43 rfl rfl rfl (by first | exact .inl rfl | exact .inr ⟨_, _, rfl, by simp⟩ | exact .inr ⟨_, _, rfl, by simp [*]⟩) rfl (by simp) (by constructor <;> simp [nmOk]) (by simp) (CI.runOps 9999 400 rfl ?_)
    simp [Tryz.ntmps21, Tryz.results21]
    refine CI.callJ [512] (told_p1 (propE (takenS s) adds gone) [int (takenS s).hist.length] 144) Tryz.call52 rfl rfl rfl (by first | exact .inl rfl | exact .inr ⟨_, _, rfl, by simp⟩ | exact .inr ⟨_, _, rfl, by simp [*]⟩) rfl (by simp) (by constructor <;> simp [nmOk]) (by simp) (CI.runOps 9999 400 rfl ?_)
    simp [Tryz.ntmps21, Tryz.results21]
    refine ⟨by decide +kernel, ?_⟩
    first | (exact fin0 (by simp [he]) rfl) | (refine ⟨by decide +kernel, ?_⟩; exact fin0 (by simp [he]) rfl)
end Go.Proofs.YtnmocaniljacpaaGreatDoor
end
section
namespace Go.G
open Go.AI
def awC9 : Res := ⟨2, ⟨#[99]⟩, 0, 0, ⟨#[101]⟩, [], []⟩
def awE9 : Res := ⟨3, ⟨#[101]⟩, 0, 0, ⟨#[]⟩, [], [1]⟩
theorem aw9a : propE (newS 9) [awC9] [] = 6 := by decide +kernel
theorem aw9b : propE (newS 9) [awE9] [] = 0 := by decide +kernel
def awT9 : Store := ⟨9, [[], [{ awE9 with ver := 1 }]]⟩
theorem aw9c : propS (newS 9) [awE9] [] = awT9 := by decide +kernel
theorem aw9d : propS (newS 9) [awC9] [] = newS 9 := by unfold propS; rw [aw9a]; rfl
theorem aw9e : sanS awT9 = true := by
  rw [← aw9c]; exact sane_prop (sane_new 9) _ _
def few9 (s : Store) (adds : List Res) (gone : List Key) : Bool := s.hist.all fewL && (decide (s.hist.length ≤ 12) && fewL adds && decide (gone.length ≤ 60))
end Go.G
namespace Go.Proofs.YtnmocaniljacpaaGreatDoor
open Go.AI Go.G
set_option maxRecDepth 20000
theorem ours_l (s : Store) : Ct Tryz.prog 30 [st (storeC s)] [] [] (st (storeC s)) [] := by
  refine Ct.of_body Tryz.func30 rfl mixed (by rw [Tryz.ntmps30]; simp) (CW.run 9999 400 rfl ?_)
  simp [Tryz.ntmps30, Tryz.results30]
  first | (exact fin0 (by simp) rfl) | (refine ⟨by decide +kernel, ?_⟩; exact fin0 (by simp) rfl)
theorem theirs_l (s : Store) : Ct Tryz.prog 24 [st (storeC s)] [] [] (st (storeC s)) [] := by
  refine Ct.of_body Tryz.func24 rfl mixed (by rw [Tryz.ntmps24]; simp) (CW.run 9999 400 rfl ?_)
  simp [Tryz.ntmps24, Tryz.results24]
  first | (exact fin0 (by simp) rfl) | (refine ⟨by decide +kernel, ?_⟩; exact fin0 (by simp) rfl)
theorem tsame_r (a b : List Res) (ha : OkRs a) : Ct Tryz.prog 25 [lst (a.map resC), lst (b.map resC)] [] [] (bool (decide (a = b))) [] := by
  refine Ct.of_body Tryz.func25 rfl mixed (by rw [Tryz.ntmps25]; simp) (CW.run 9999 400 rfl ?_)
  simp [Tryz.ntmps25, Tryz.results25]
  refine run_br_split (fun h1 => ?_) (fun h1 => ?_) <;> simp only [h1] <;> simp [Tryz.ntmps25, Tryz.results25] <;> (try simp only [Bool.not_eq_true', Bool.not_eq_false', decide_eq_true_eq, decide_eq_false_iff_not] at h1)
  · have e : ¬ a = b := fun e => h1 (by rw [e])
    first | (exact fin0 (by simp [e]) rfl) | (refine ⟨by decide +kernel, ?_⟩; exact fin0 (by simp [e]) rfl)
  have hab : a.length = b.length := by omega
  have hh := ha.len
  refine LoopW.inv mixed (Plain.retC _ _ _ _ _) rfl (ι := {k : Nat // k ≤ (a).length ∧ a.take k = b.take k}) (fun k => [(0, lst (a.map resC)), (1, lst (b.map resC)), (5, int k.1)]) (fun k => []) 64 (fun k => (a).length - k.1) ⟨0, by omega, by simp⟩ [] (by constructor <;> simp) ?_
  rintro ⟨k, hk1, hi⟩ B hB
  refine CW.run 9999 400 rfl ?_
  simp [Tryz.ntmps25, Tryz.results25]
  refine run_br_split (fun h => ?_) (fun h => ?_)
  · have hk : k < (a).length := by simpa using h
    have hr : (a)[k]? = some (a)[k] := List.getElem?_eq_getElem hk
    have hm : (a)[k] ∈ (a) := List.getElem_mem hk
    have ht : (a).take (k + 1) = (a).take k ++ [(a)[k]] := by rw [List.take_add_one, hr]; rfl
    have hd : (a).drop k = (a)[k] :: (a).drop (k + 1) := List.drop_eq_getElem_cons hk
    have hw : IntKind.wrap .i64 ((k : Int) + 1) = k + 1 := wrap_i64 (by omega) (by omega)
    obtain ⟨x, hx⟩ : ∃ x0, (a)[k] = x0 := ⟨_, rfl⟩
    rw [hx] at hr hm ht hd
    simp only [h]
    simp [hr, hw, Tryz.ntmps25, Tryz.results25]
    have hrb : b[k]? = some b[k] := List.getElem?_eq_getElem (by omega)
    have htb : b.take (k + 1) = b.take k ++ [b[k]] := by rw [List.take_add_one, hrb]; rfl
    have hne : x ≠ b[k] → a ≠ b := by
      intro h2 e; subst e; rw [hr] at hrb; cases hrb; exact h2 rfl
    generalize b[k] = y at hrb htb hne
    simp [hrb, Tryz.ntmps25, Tryz.results25]
    refine CW.callP (same_r x y (ha.all x hm)) Tryz.call46 rfl rfl rfl (by first | exact .inl rfl | exact .inr ⟨_, _, rfl, by simp⟩ | exact .inr ⟨_, _, rfl, by simp [*]⟩) rfl (by simp) rfl rfl (CW.runOps 9999 400 rfl ?_)
    simp [Tryz.ntmps25, Tryz.results25]
    refine ⟨by decide +kernel, ?_⟩
    refine run_br_split (fun h2 => ?_) (fun h2 => ?_) <;> simp only [h2] <;> simp [Tryz.ntmps25, Tryz.results25] <;> (try simp only [Bool.not_eq_true', Bool.not_eq_false', decide_eq_true_eq, decide_eq_false_iff_not] at h2)
    · first | (exact fin0 (by simp [hne h2]) rfl) | (refine ⟨by decide +kernel, ?_⟩; exact fin0 (by simp [hne h2]) rfl)
    · refine hB _ ⟨k + 1, by omega, by rw [ht, htb, hi, h2]⟩ [] ?_ (by simp; omega)
      constructor <;> simp [hw]
  · have hkl : k = (a).length := by simp at h; omega
    subst hkl
    simp only [h]
    simp [List.take_length, List.drop_length, Tryz.ntmps25, Tryz.results25]
    have e : a = b := by
      rw [List.take_length, hab, List.take_length] at hi; exact hi
    first | (exact fin0 (by simp [e]) rfl) | (refine ⟨by decide +kernel, ?_⟩; exact fin0 (by simp [e]) rfl)
theorem few9_l (s : Store) (adds : List Res) (gone : List Key) (hs : OkStore s) (ha : OkRs adds) (hg : gone.length ≤ 9223372036854775807) : Ct Tryz.prog 29 [st (storeC s), lst (adds.map resC), lst (gone.map keyC)] [] [] (bool (few9 s adds gone)) [] := by
  refine Ct.of_body Tryz.func29 rfl mixed (by rw [Tryz.ntmps29]; simp) (CW.run 9999 400 rfl ?_)
  simp [Tryz.ntmps29, Tryz.results29]
  have hh := hs.len
  refine LoopW.inv mixed (Plain.retC _ _ _ _ _) rfl (ι := {k : Nat // k ≤ (s.hist).length ∧ (s.hist.take k).all fewL = true}) (fun k => [(1, lst (adds.map resC)), (2, lst (gone.map keyC)), (3, .ptr 64 0), (7, int k.1)]) (fun k => [(64, .cells ((storeC s).map .d) 24)]) 65 (fun k => (s.hist).length - k.1) ⟨0, by omega, by simp⟩ [] (by constructor <;> simp) ?_
  rintro ⟨k, hk1, hi⟩ B hB
  refine CW.run 9999 400 rfl ?_
  simp [Tryz.ntmps29, Tryz.results29]
  refine run_br_split (fun h => ?_) (fun h => ?_)
  · have hk : k < (s.hist).length := by simpa using h
    have hr : (s.hist)[k]? = some (s.hist)[k] := List.getElem?_eq_getElem hk
    have hm : (s.hist)[k] ∈ (s.hist) := List.getElem_mem hk
    have ht : (s.hist).take (k + 1) = (s.hist).take k ++ [(s.hist)[k]] := by rw [List.take_add_one, hr]; rfl
    have hd : (s.hist).drop k = (s.hist)[k] :: (s.hist).drop (k + 1) := List.drop_eq_getElem_cons hk
    have hw : IntKind.wrap .i64 ((k : Int) + 1) = k + 1 := wrap_i64 (by omega) (by omega)
    obtain ⟨x, hx⟩ : ∃ x0, (s.hist)[k] = x0 := ⟨_, rfl⟩
    rw [hx] at hr hm ht hd
    simp only [h]
    simp [hr, hw, Tryz.ntmps29, Tryz.results29]
    refine CW.callP (few_r x (hs.all x hm)) Tryz.call20 rfl rfl rfl (by first | exact .inl rfl | exact .inr ⟨_, _, rfl, by simp⟩ | exact .inr ⟨_, _, rfl, by simp [*]⟩) rfl (by simp) rfl rfl (CW.runOps 9999 400 rfl ?_)
    simp [Tryz.ntmps29, Tryz.results29]
    refine run_br_split (fun h1 => ?_) (fun h1 => ?_) <;> simp only [h1] <;> simp [Tryz.ntmps29, Tryz.results29] <;> (try simp only [Bool.not_eq_true', Bool.not_eq_false', decide_eq_true_eq, decide_eq_false_iff_not] at h1)
    · have e : s.hist.all fewL = false := by rw [List.all_eq_false]; exact ⟨x, hm, by simp [h1]⟩
      first | (exact fin0 (by simp [few9, e]) rfl) | (refine ⟨by decide +kernel, ?_⟩; exact fin0 (by simp [few9, e]) rfl)
    · refine hB _ ⟨k + 1, by omega, by simp [ht, hi, h1]⟩ [] ?_ (by simp; omega)
      constructor <;> simp [hw, ht, h1]
  · have hkl : k = (s.hist).length := by simp at h; omega
    subst hkl
    simp only [h]
    simp [List.take_length, List.drop_length, Tryz.ntmps29, Tryz.results29]
    rw [List.take_length] at hi
    by_cases c1 : s.hist.length ≤ 12
    · have c1' : (s.hist.length : Int) ≤ 12 := by omega
      simp [c1', Tryz.ntmps29, Tryz.results29]
      refine CW.callP (few_r adds ha) Tryz.call20 rfl rfl rfl (by first | exact .inl rfl | exact .inr ⟨_, _, rfl, by simp⟩ | exact .inr ⟨_, _, rfl, by simp [*]⟩) rfl (by simp) rfl rfl (CW.runOps 9999 400 rfl ?_)
      simp [Tryz.ntmps29, Tryz.results29]
      refine run_gd_split (fun c2 => ?_) (fun c2 => ?_) <;> simp only [c2] <;> simp [Tryz.ntmps29, Tryz.results29] <;> (try simp only [Bool.not_eq_true', Bool.not_eq_false', decide_eq_true_eq, decide_eq_false_iff_not] at c2)
      · exact fin0 (by simp [few9, hi, c1, c2]; try omega) rfl
      · exact fin0 (by simp [few9, hi, c1, c2]) rfl
    · have c1' : ¬ (s.hist.length : Int) ≤ 12 := by omega
      simp [c1', Tryz.ntmps29, Tryz.results29]
      exact fin0 (by simp [few9, hi, c1]) rfl
theorem awake9 : CtJ errG Tryz.prog 18 [] [] [] (bool true) [] := by
  refine CtJ.of_body errK Tryz.func18 rfl mixed (by rw [Tryz.ntmps18]; simp) (CI.run 9999 400 rfl ?_)
  simp [Tryz.ntmps18, Tryz.results18]
  have ht : takenS (newS 9) = newS 9 := sane_taken (sane_new 9)
  have htT : takenS awT9 = awT9 := sane_taken aw9e
  have okC : OkRs [awC9] := ⟨by simp, by simp [awC9]; exact ⟨by decide, by decide, by simp, by simp, by simp⟩⟩
  have p1 := Propose_p (newS 9) [awC9] [] (by simp [newS]) (by rw [ht]; exact ⟨by simp [newS, lastS], by simp [newS, lastS]⟩) (by rw [ht]; simp [newS, lastS]) (by simp)
  have p2 := Propose_p (newS 9) [awE9] [] (by simp [newS]) (by rw [ht]; exact ⟨by simp [newS, lastS], by simp [newS, lastS]⟩) (by rw [ht]; simp [newS, lastS]) (by simp)
  rw [ht, aw9a, aw9d] at p1
  rw [ht, aw9b, aw9c] at p2
  have p3 := now_p awT9 (by simp [awT9])
  rw [htT] at p3
  have p4 := psane_p awT9 ⟨by simp [awT9], by simp [awT9]; exact ⟨⟨by simp, by simp⟩, ⟨by simp, by simp [awE9]; exact ⟨by decide, by decide, by simp, by simp, by simp⟩⟩⟩⟩ (by simp [awT9])
  rw [aw9e] at p4
  have hl : lastS awT9 = [{ awE9 with ver := 1 }] := rfl
  rw [hl] at p3
  refine CI.callP (newS_p 9) Tryz.call19 rfl rfl rfl (by first | exact .inl rfl | exact .inr ⟨_, _, rfl, by simp⟩ | exact .inr ⟨_, _, rfl, by simp [*]⟩) rfl (by simp) rfl rfl (CI.runOps 9999 400 rfl ?_)
  simp [Tryz.ntmps18, Tryz.results18]
  refine CI.callJG errK [448] [] (p1 ) Tryz.call21 rfl rfl rfl (by first | exact .inl rfl | exact .inr ⟨_, _, rfl, by simp⟩ | exact .inr ⟨_, _, rfl, by simp [*]⟩) rfl (by simp [giveT, awC9]) (by constructor <;> simp [nmOk]) (by simp [gvB, awC9]) (by simp) (CI.runOps 9999 400 rfl ?_)
  simp [awC9, Tryz.ntmps18, Tryz.results18]
  refine CI.opG [1024] 9999 400 rfl rfl (by first | exact .inl rfl | exact .inr ⟨_, _, rfl, by simp⟩ | exact .inr ⟨_, _, rfl, by simp [*]⟩) (by simp) ?_
  simp [giveT, gvB, Tryz.ntmps18, Tryz.results18]
  refine CI.callJG errK [1152] [] (p2 ) Tryz.call21 rfl rfl rfl (by first | exact .inl rfl | exact .inr ⟨_, _, rfl, by simp⟩ | exact .inr ⟨_, _, rfl, by simp [*]⟩) rfl (by simp [giveT, awE9]) (by constructor <;> simp [nmOk]) (by simp [gvB, awE9]) (by simp) (CI.runOps 9999 400 rfl ?_)
  simp [awE9, Tryz.ntmps18, Tryz.results18]
  have l1 : awT9.hist.length = 2 := rfl
  refine CI.callP (p3 ) Tryz.call22 rfl rfl rfl (by first | exact .inl rfl | exact .inr ⟨_, _, rfl, by simp⟩ | exact .inr ⟨_, _, rfl, by simp [*]⟩) rfl (by simp [awE9, l1]) rfl rfl (CI.runOps 9999 400 rfl ?_)
  simp [awE9, l1, Tryz.ntmps18, Tryz.results18]
  refine CI.callP (p4 ) Tryz.call12 rfl rfl rfl (by first | exact .inl rfl | exact .inr ⟨_, _, rfl, by simp⟩ | exact .inr ⟨_, _, rfl, by simp [*]⟩) rfl (by simp) rfl rfl (CI.runOps 9999 400 rfl ?_)
  simp [Tryz.ntmps18, Tryz.results18]
  first | (exact fin0 (by simp) rfl) | (refine ⟨by decide +kernel, ?_⟩; exact fin0 (by simp) rfl)
end Go.Proofs.YtnmocaniljacpaaGreatDoor
end
section
namespace Go.G
open Go.AI
theorem ok_few {s : Store} {adds : List Res} {gone : List Key} (h : few9 s adds gone = true) : (∀ l ∈ s.hist, l.length ≤ 80) ∧ s.hist.length ≤ 12 ∧ adds.length ≤ 80 ∧ gone.length ≤ 60 := by
  simp only [few9, Bool.and_eq_true, List.all_eq_true, decide_eq_true_eq] at h
  exact ⟨fun l hl => fewL_len (h.1 l hl), h.2.1.1, fewL_len h.2.1.2, h.2.2⟩
end Go.G
namespace Go.Proofs.YtnmocaniljacpaaGreatDoor
open Go.AI Go.G
set_option maxRecDepth 20000
end Go.Proofs.YtnmocaniljacpaaGreatDoor
end
section
namespace Go.G
open Go.AI
theorem propS_ok {s : Store} {adds : List Res} {gone : List Key} (h : propE s adds gone = 0) : propS s adds gone = ⟨s.cap, s.hist ++ [propN s adds gone]⟩ := if_pos h
theorem ok_last {s : Store} (hs : OkStore s) : OkRs (lastS s) := by
  rcases last_mem (s := s) with h | h
  · rw [h]; exact ⟨by simp, by simp⟩
  · exact hs.all _ h
theorem len_last {s : Store} {n : Nat} (hs : ∀ l ∈ s.hist, l.length ≤ n) : (lastS s).length ≤ n := by
  rcases last_mem (s := s) with h | h
  · rw [h]; simp
  · exact hs _ h
theorem ok_propN {s : Store} {adds : List Res} {gone : List Key} (hs : OkStore s) (ha : OkRs adds) (hl : (lastS s).length + adds.length ≤ 1000000) : OkRs (propN s adds gone) :=
  ok_stamp (ok_patch (ok_last hs) ha hl)
theorem ok_propS {s : Store} {adds : List Res} {gone : List Key} (hs : OkStore s) (ha : OkRs adds) (hl : (lastS s).length + adds.length ≤ 1000000) (hh : s.hist.length ≤ 1000000) : OkStore (propS s adds gone) := by
  unfold propS
  split
  · refine ⟨by simp; omega, fun l hl' => ?_⟩
    rcases List.mem_append.1 hl' with h | h
    · exact hs.all l h
    · simp at h; rw [h]; exact ok_propN hs ha hl
  · exact hs
end Go.G
namespace Go.Proofs.YtnmocaniljacpaaGreatDoor
open Go.AI Go.G
set_option maxRecDepth 20000
end Go.Proofs.YtnmocaniljacpaaGreatDoor
end
section
namespace Go.G
open Go.AI
/-- The last of some with a key, as far as some of them. -/
inductive LastI (l : List Res) (k : Key) (n : Nat) : Int → Prop
  | none_ (h : ∀ (i : Nat) r, i < n → l[i]? = some r → ¬ r.key = k) : LastI l k n (-1)
  | hit_ (i : Nat) (r : Res) (hi : i < n) (hr : l[i]? = some r) (hk : r.key = k) (h : ∀ (i' : Nat) r', i < i' → i' < n → l[i']? = some r' → ¬ r'.key = k) : LastI l k n i
section
variable {l : List Res} {k : Key} {n : Nat} {j : Int} {r : Res}
theorem LastI.start : LastI l k 0 (-1) := .none_ fun i r h => by omega
theorem LastI.miss (h : LastI l k n j) (hr : l[n]? = some r) (hk : ¬ r.key = k) : LastI l k (n + 1) j := by
  cases h with
  | none_ h =>
    refine .none_ fun i x hi hx => ?_
    by_cases e : i = n
    · subst e; rw [hr] at hx; cases hx; exact hk
    · exact h i x (by omega) hx
  | hit_ i x hi hx hxk h =>
    refine .hit_ i x (by omega) hx hxk fun i' r' h1 h2 h3 => ?_
    by_cases e : i' = n
    · subst e; rw [hr] at h3; cases h3; exact hk
    · exact h i' r' h1 (by omega) h3
theorem LastI.done (h : LastI l k l.length j) : (j = -1 ∧ lastR l k = none) ∨ ∃ (i : Nat) (r : Res), j = i ∧ l[i]? = some r ∧ lastR l k = some r := by
  cases h with
  | none_ h =>
    refine .inl ⟨rfl, lastR_none.2 fun r hr => ?_⟩
    obtain ⟨i, hi⟩ := List.getElem?_of_mem hr
    exact h i r (List.getElem?_eq_some_iff.1 hi).1 hi
  | hit_ i r hi hr hk h =>
    refine .inr ⟨i, r, rfl, hr, ?_⟩
    unfold lastR
    have e : l = l.take i ++ r :: l.drop (i + 1) := by
      have := List.drop_eq_getElem_cons hi
      rw [(List.getElem?_eq_some_iff.1 hr).2] at this
      rw [← this, List.take_append_drop]
    have hno : (l.drop (i + 1)).reverse.find? (fun r => decide (r.key = k)) = none := by
      rw [List.find?_eq_none]
      intro x hx
      obtain ⟨q, hq⟩ := List.getElem?_of_mem (List.mem_reverse.1 hx)
      rw [List.getElem?_drop] at hq
      simpa using h _ x (by omega) (List.getElem?_eq_some_iff.1 hq).1 hq
    rw [e, List.reverse_append, List.reverse_cons, List.find?_append, List.find?_append, hno]
    simp [hk]
end
end Go.G
namespace Go.Proofs.YtnmocaniljacpaaGreatDoor
open Go.AI Go.G
set_option maxRecDepth 20000
end Go.Proofs.YtnmocaniljacpaaGreatDoor
end
section
namespace Go.G
open Go.AI
structure Play where
  adds : List Res
  gone : List Key
structure OkPlay (a : Play) : Prop where
  adds : OkRs a.adds
  gone : a.gone.length ≤ 9223372036854775807
theorem tab_len64 {l : List Res} (h : tabE l = 0) : l.length ≤ 64 := by
  unfold tabE at h
  split at h
  · cases h
  · omega
theorem sane_len {s : Store} (h : sanS s = true) : ∀ l ∈ s.hist, l.length ≤ 64 := by
  intro l hl
  obtain ⟨s1, s2, s3⟩ := (sanS_iff s).1 h
  obtain ⟨i, hi⟩ := List.getElem?_of_mem hl
  exact tab_len64 (s3.acc (by have := capN_pos s.cap; omega) hi).tab
structure PlayI (lim : Int) (n : Nat) (S : Store) : Prop where
  sane : sanS S = true
  ok : OkStore S
  len : S.hist.length ≤ n + 1
  cap : S.cap = capN lim
theorem PlayI.start (lim : Int) : PlayI lim 0 (newS lim) := ⟨sane_new lim, ⟨by simp [newS], by simp [newS]; exact ⟨by simp, by simp⟩⟩, by simp [newS], rfl⟩
theorem PlayI.next {lim : Int} {n : Nat} {S : Store} (h : PlayI lim n S) {a : Play} (ha : OkPlay a) (hl : a.adds.length ≤ 80) (hn : n ≤ 100) : PlayI lim (n + 1) (propS S a.adds a.gone) := by
  have h64 := len_last (sane_len h.sane)
  have hl2 := h.len
  refine ⟨sane_prop h.sane _ _, ok_propS h.ok ha.adds (by omega) (by omega), ?_, ?_⟩
  · unfold propS; split
    · simp; omega
    · omega
  · unfold propS; split <;> exact h.cap
end Go.G
namespace Go.Proofs.YtnmocaniljacpaaGreatDoor
open Go.AI Go.G
set_option maxRecDepth 20000
end Go.Proofs.YtnmocaniljacpaaGreatDoor
end
section
namespace Go.Proofs.YtnmocaniljacpaaGreatDoor
open Go.ChangeShapes Go.WideShapes Go.ChangeAt Go.RowKit
open Go.AI Go.G
set_option maxRecDepth 20000
section
variable {n : Nat} {ds : List D}
end
theorem err_et : Tryz.prog.globalNamed "errors.errorType" = some 0 := by kernel_rfl
theorem err_rt : (Tryz.prog.cutTypes.find? (·.1 == "internal/reflectlite.rtype")).map (·.2) = some 201 := by kernel_rfl
theorem err_one : ((List.range Tryz.prog.types.size).filter fun t => Tryz.prog.rowNamed t [101, 114, 114, 111, 114]) = [84] := by kernel_rfl
/-- WHAT THE CONDITION GIVES A WALK: the variable's one cell. -/
theorem err_of_laid {laid : List (String × DataW Unit)} (hm : ("errors.errorType", Rows.laid_errors_errorType) ∈ laid) {W : World} (h : laidMetH Tryz.prog laid W) : W.cell? ⟨0, 0, none⟩ = some errV := by
  have h' := (laidMetH_iff.1 h).2
  obtain ⟨name, u, ty, e1, e2, e3, e4, e5⟩ := h' _ (List.mem_filter.2 ⟨hm, rfl⟩)
  have en : name = [101, 114, 114, 111, 114] := (Option.some.inj e1).symm
  subst en
  obtain rfl := Option.some.inj (err_rt.symm.trans e2)
  have hm : ty ∈ (List.range Tryz.prog.types.size).filter fun t => Tryz.prog.rowNamed t [101, 114, 114, 111, 114] := List.mem_filter.2 ⟨List.mem_range.2 e3, e4⟩
  rw [err_one] at hm
  obtain rfl := List.mem_singleton.1 hm
  have hh : typeHandle Tryz.prog 84 = .pointer (some ⟨4, 84, none⟩) := by kernel_rfl
  rw [hh] at e5
  simpa using World.var?_cell err_et e5 0
theorem calls_of_ctJ {f : FuncId} {W : World} {vs : List Value} {avs : List AV} (hg : W.cell? ⟨0, 0, none⟩ = some errV) (h : CtJ errG Tryz.prog f avs [] [] (.d (.v (.bool true))) []) (hr : RVs (fun n => n < W.heap.size) W avs vs) :
    Calls Tryz.prog f vs.toArray W fun e W' => e = .returned (.bool true) ∧ Below W.heap.size W W' := by
  have h0 : 0 < W.heap.size := by
    rcases Nat.eq_zero_or_pos W.heap.size with h0 | h
    · simp [World.cell?, h0] at hg
    · exact h
  refine (h noN (fun n => n < W.heap.size) W vs ⟨h0, hg⟩ (fun _ h => h) hr.length hr.get ⟨fun b k hb => by simp [lookB] at hb, fun b b' k k' x x' n hb => by simp [lookB] at hb⟩ (fun _ _ => rfl)).mono fun e W' ⟨v, σ', I', he, hp, hv⟩ => ?_
  cases hv with
  | d hd => cases hd with
    | v => exact ⟨he, hp.os, hp.tape, hp.output.eq, hp.size, fun k hk => hp.frame k hk (by rintro ⟨b, _, _, hb, _⟩; simp [lookB] at hb)⟩
/-- The settled world, the variable's cell laid. -/
noncomputable def errW (os : Os) : World :=
  let w0 := World.holding Tryz.prog os ⟨#[], #[], []⟩
  { w0 with heap := w0.heap.modify 0 fun
      | .cells _ t frozen => .cells #[errV] t frozen
      | o => o }
theorem laidMet_errW {os : Os} {laid : List (String × DataW Unit)} (args : Array Value) (hf : (errW os).layFits Tryz.prog laid [] = true) (hi : (errW os).layIfaces Tryz.prog laid ((errW os).layVars Tryz.prog laid) = true) :
    laidMet Tryz.prog laid (((errW os).layVars Tryz.prog laid).forCall (fun _ _ => 0) ⟨#[], args, []⟩).memory := by
  have e1 : (laid.filter fun x => (laid.map (·.1)).contains x.1) = laid := List.filter_eq_self.2 fun x hx => List.contains_iff_mem.2 (List.mem_map.2 ⟨x, hx, rfl⟩)
  have e2 : (laid.filter fun x => !(laid.map (·.1)).contains x.1) = [] := List.filter_eq_nil_iff.2 fun x hx => by rw [List.contains_iff_mem.2 (List.mem_map.2 ⟨x, hx, rfl⟩)]; simp
  have h : laidMet Tryz.prog laid ((errW os).layVars Tryz.prog laid) := laidMet_layVars (w0 := errW os) (laid.map (·.1)) [] (by rw [e1]) (by rw [e1]; exact hf) (by rw [e1]; exact hi) (by rw [e2]; exact LaidIn.none)
  exact h.of_heap (by simp [World.memory, World.forCall, Input.heap])
end Go.Proofs.YtnmocaniljacpaaGreatDoor
end
