/-
  LAYER 14, PROVED: ViewBack answers true for every input, and its input reads as it did; as the given card says it, no further conditions.
-/
import Derived.Test.YtnmocaniljacpaaGreatDoorWe
import Derived.Test.YtnmocaniljacpaaGreatDoorWd
import Derived.Test.YtnmocaniljacpaaGreatDoorPm
import Derived.Lay
import Derived.LaidOnce
import Derived.SevenTiedAt
import Derived.Test.YtnmocaniljacpaaGreatDoorTie
import Derived.Test.YtnmocaniljacpaaGreatDoorCards
import Derived.ProofKit
import Derived.LaidMore
set_option linter.unusedSimpArgs false
set_option linter.unusedVariables false
section
namespace Go.G
open Go.AI
structure LastSt (l : List Mark) (k : Nat) (x : Mark) (j b : Nat) : Prop where
  jl : j < l.length
  jb : j < b ∨ (j = k ∧ b = k)
  bl : b ≤ l.length
  key : ∃ m, l[j]? = some m ∧ m.k = x.k
  no : ∀ (i : Nat) m, j < i → i < b → l[i]? = some m → ¬ m.k = x.k
section
variable {l : List Mark} {k j b : Nat} {x y : Mark}
theorem LastSt.start (hr : l[k]? = some x) : LastSt l k x k k :=
  have h := (List.getElem?_eq_some_iff.1 hr).1
  ⟨h, .inr ⟨rfl, rfl⟩, by omega, ⟨x, hr, rfl⟩, fun i m h1 h2 => by omega⟩
theorem LastSt.hit (h : LastSt l k x j b) (hy : l[b]? = some y) (e : y.k = x.k) : LastSt l k x b (b + 1) :=
  have h1 := (List.getElem?_eq_some_iff.1 hy).1
  ⟨h1, .inl (by omega), by omega, ⟨y, hy, e⟩, fun i m h2 h3 => by omega⟩
theorem LastSt.miss (hr : l[k]? = some x) (h : LastSt l k x j b) (hy : l[b]? = some y) (e : ¬ y.k = x.k) : LastSt l k x j (b + 1) := by
  have h1 := (List.getElem?_eq_some_iff.1 hy).1
  have h2 : j < b := by
    rcases h.jb with h2 | ⟨h2, h3⟩
    · exact h2
    · subst h3; rw [hr] at hy; cases hy; exact absurd rfl e
  refine ⟨h.jl, .inl (by omega), by omega, h.key, fun i m h3 h4 h5 => ?_⟩
  by_cases hi : i = b
  · subst hi; rw [hy] at h5; cases h5; exact e
  · exact h.no i m h3 (by omega) h5
theorem LastSt.done (h : LastSt l k x j l.length) : ∃ m, l[j]? = some m ∧ lastM l x.k = some m := by
  obtain ⟨m, h1, h2⟩ := h.key
  refine ⟨m, h1, lastM_at h1 h2 fun y hy => ?_⟩
  obtain ⟨i, hi⟩ := List.getElem?_of_mem hy
  rw [List.getElem?_drop] at hi
  have := (List.getElem?_eq_some_iff.1 hi).1
  exact h.no _ y (by omega) (by omega) hi
end
theorem keyB (a b : Key) : (decide (a.kind = b.kind) && decide (a.name = b.name)) = decide (a = b) := by
  obtain ⟨p, q⟩ := a; obtain ⟨r, t⟩ := b
  simp
theorem at_mem {s : Store} {i : Int} {c : List Res} (h : atS s i = some c) : c ∈ s.hist ∨ c = [] := by
  unfold atS at h
  split at h
  · have hm := List.mem_of_getElem? h
    unfold takenS at hm
    split at hm
    · simp [newS] at hm; exact .inr hm
    · exact .inl hm
  · cases h
end Go.G
namespace Go.Proofs.YtnmocaniljacpaaGreatDoor
open Go.AI Go.G
set_option maxRecDepth 20000
-- groyne/groynelaw14.ViewBack
theorem viewBack_w (s : Store) (i : Int) (l : List G.Mark) (hs : OkStore s) (hl : l.length ≤ 9223372036854775807 ∧ ∀ m ∈ l, nB m.k.name) : Ct Tryz.prog 3 [st (storeC s), int i, lst (l.map markC)] [] [] (bool true) [] := by
  refine Ct.of_body Tryz.func3 rfl mixed (by rw [Tryz.ntmps3]; simp) (CW.run 8 400 rfl ?_)
  simp [Tryz.ntmps3, Tryz.results3]
  refine CW.callP (awake_l ) Tryz.call9 rfl rfl rfl (by first | exact .inl rfl | exact .inr ⟨_, _, rfl, by simp⟩ | exact .inr ⟨_, _, rfl, by simp [*]⟩) rfl (by simp) rfl rfl (CW.runOps 8 400 rfl ?_)
  simp [Tryz.ntmps3, Tryz.results3]
  refine CW.callP (few_l s hs) Tryz.call10 rfl rfl rfl (by first | exact .inl rfl | exact .inr ⟨_, _, rfl, by simp⟩ | exact .inr ⟨_, _, rfl, by simp [*]⟩) rfl (by simp) rfl rfl (CW.runOps 8 400 rfl ?_)
  simp [Tryz.ntmps3, Tryz.results3]
  refine run_gd_split (fun h1 => ?_) (fun h1 => ?_) <;> simp only [h1] <;> simp [Tryz.ntmps3, Tryz.results3] <;> (try simp only [Bool.not_eq_true', Bool.not_eq_false', decide_eq_true_eq, decide_eq_false_iff_not] at h1)
  · first | (exact fin0 (by simp) rfl) | (refine ⟨by decide +kernel, ?_⟩; exact fin0 (by simp) rfl)
  refine run_br_split (fun h2 => ?_) (fun h2 => ?_) <;> simp only [h2] <;> simp [Tryz.ntmps3, Tryz.results3] <;> (try simp only [Bool.not_eq_true', Bool.not_eq_false', decide_eq_true_eq, decide_eq_false_iff_not] at h2)
  · first | (exact fin0 (by simp) rfl) | (refine ⟨by decide +kernel, ?_⟩; exact fin0 (by simp) rfl)
  have h1' := h1
  simp only [fewS, Bool.and_eq_true, List.all_eq_true, decide_eq_true_eq] at h1'
  have hfl : ∀ y ∈ s.hist, y.length ≤ 1000 := fun y hy => Nat.le_trans (fewL_len (h1'.1 y hy)) (by omega)
  have hl60 : l.length ≤ 60 := by omega
  refine CW.callP (at_p s i) Tryz.call11 rfl rfl rfl (by first | exact .inl rfl | exact .inr ⟨_, _, rfl, by simp⟩ | exact .inr ⟨_, _, rfl, by simp [*]⟩) rfl (by simp) rfl rfl (CW.runOps 8 400 rfl ?_)
  simp [Tryz.ntmps3, Tryz.results3]
  rcases hat : atS s i with _ | c
  simp [Tryz.ntmps3, Tryz.results3]
  refine ⟨by decide +kernel, ?_⟩
  refine CW.sub (tm := [(2, lst (l.map markC)), (7, bool true), (8, .ptr 64 0)]) (m := [(64, .cells ((storeC s).map .d) 28)]) (nx := 65) [(64, 1152)] [] rfl (by constructor <;> simp) ?_
  rotate_left
  have hcm : c ∈ s.hist ∨ c = [] := at_mem hat
  have hcl : c.length ≤ 1000 := by
    rcases hcm with h | h
    · exact hfl c h
    · rw [h]; simp
  have hck : OkRs c := by
    rcases hcm with h | h
    · exact hs.all c h
    · rw [h]; exact ⟨by simp, by simp⟩
  simp [Tryz.ntmps3, Tryz.results3]
  refine CW.callP (psane_p s hs hfl) Tryz.call12 rfl rfl rfl (by first | exact .inl rfl | exact .inr ⟨_, _, rfl, by simp⟩ | exact .inr ⟨_, _, rfl, by simp [*]⟩) rfl (by simp) rfl rfl (CW.runOps 8 400 rfl ?_)
  simp [Tryz.ntmps3, Tryz.results3]
  by_cases hsn : sanS s = true
  simp [hsn, Tryz.ntmps3, Tryz.results3]
  refine CW.callP (marks_p c (by omega)) Tryz.call15 rfl rfl rfl (by first | exact .inl rfl | exact .inr ⟨_, _, rfl, by simp⟩ | exact .inr ⟨_, _, rfl, by simp [*]⟩) rfl (by simp) rfl rfl (CW.runOps 8 400 rfl ?_)
  simp [Tryz.ntmps3, Tryz.results3]
  refine CW.callP (known_p s (marksV c) hs (by simp; omega)) Tryz.call14 rfl rfl rfl (by first | exact .inl rfl | exact .inr ⟨_, _, rfl, by simp⟩ | exact .inr ⟨_, _, rfl, by simp [*]⟩) rfl (by simp) rfl rfl (CW.runOps 8 400 rfl ?_)
  simp [Tryz.ntmps3, Tryz.results3]
  have hbk := back_known hsn hat
  rw [hbk]
  refine CW.callP (all_r c c hck) Tryz.call13 rfl rfl rfl (by first | exact .inl rfl | exact .inr ⟨_, _, rfl, by simp⟩ | exact .inr ⟨_, _, rfl, by simp [*]⟩) rfl (by simp) rfl rfl (CW.runOps 8 400 rfl ?_)
  simp [Tryz.ntmps3, Tryz.results3]
  refine ⟨by decide +kernel, ?_⟩
  refine CW.sub (tm := [(2, lst (l.map markC)), (7, bool true), (8, .ptr 64 0)]) (m := [(64, .cells ((storeC s).map .d) 28)]) (nx := 65) [(64, 1152)] [] rfl (by constructor <;> simp) ?_
  rotate_left
  have hsn' : sanS s = false := by simpa using hsn
  simp [hsn', Tryz.ntmps3, Tryz.results3]
  refine ⟨by decide +kernel, ?_⟩
  refine CW.sub (tm := [(2, lst (l.map markC)), (7, bool true), (8, .ptr 64 0)]) (m := [(64, .cells ((storeC s).map .d) 28)]) (nx := 65) [(64, 1152)] [] rfl (by constructor <;> simp) ?_
  all_goals
    clear hat
    refine CW.run 9999 400 rfl ?_
    simp [Tryz.ntmps3, Tryz.results3]
    refine CW.callP (frame1_l ⟨0, 0, 0, 0, 0, [], [], 0, l, []⟩ (by simp only; omega)) Tryz.call16 rfl rfl rfl (by first | exact .inl rfl | exact .inr ⟨_, _, rfl, by simp⟩ | exact .inr ⟨_, _, rfl, by simp [*]⟩) rfl (by simp) rfl rfl (CW.runOps 9999 400 rfl ?_)
    simp [Tryz.ntmps3, Tryz.results3]
    refine CW.callP (known_p s l hs (by omega)) Tryz.call14 rfl rfl rfl (by first | exact .inl rfl | exact .inr ⟨_, _, rfl, by simp⟩ | exact .inr ⟨_, _, rfl, by simp [*]⟩) rfl (by simp) rfl rfl (CW.runOps 9999 400 rfl ?_)
    simp [Tryz.ntmps3, Tryz.results3]
    have hkl := known_len s l
    refine LoopW.inv mixed (Plain.retC _ _ _ _ _) rfl (ι := {k : Nat // k ≤ (l).length}) (fun k => [(2, lst (l.map markC)), (7, bool true), (12, lst ((knownV s l).map resC)), (13, int k.1)]) (fun k => []) 64 (fun k => (l).length - k.1) ⟨0, by omega⟩ [] (by constructor <;> simp) ?_
    rintro ⟨k, hk1⟩ B hB
    refine CW.run 9999 400 rfl ?_
    simp [Tryz.ntmps3, Tryz.results3]
    refine run_br_split (fun h => ?_) (fun h => ?_)
    · have hk : k < (l).length := by simpa using h
      have hr : (l)[k]? = some (l)[k] := List.getElem?_eq_getElem hk
      have hm : (l)[k] ∈ (l) := List.getElem_mem hk
      have ht : (l).take (k + 1) = (l).take k ++ [(l)[k]] := by rw [List.take_add_one, hr]; rfl
      have hd : (l).drop k = (l)[k] :: (l).drop (k + 1) := List.drop_eq_getElem_cons hk
      have hw : IntKind.wrap .i64 ((k : Int) + 1) = k + 1 := wrap_i64 (by omega) (by omega)
      obtain ⟨x, hx⟩ : ∃ x0, (l)[k] = x0 := ⟨_, rfl⟩
      rw [hx] at hr hm ht hd
      simp only [h]
      simp [hr, hw, Tryz.ntmps3, Tryz.results3]
      refine LoopW.inv mixed (Plain.retC _ _ _ _ _) rfl (ι := {q : Nat × Nat // LastSt l k x q.1 q.2}) (fun kj => [(2, lst (l.map markC)), (7, bool true), (12, lst ((knownV s l).map resC)), (13, int k), (14, int kj.1.1), (15, int kj.1.2)]) (fun kj => []) 64 (fun kj => l.length - kj.1.2) ⟨(k, k), LastSt.start hr⟩ [] (by constructor <;> simp) ?_
      rintro ⟨⟨j, b⟩, hI⟩ Bj hBj
      have hjl := hI.jl
      have hbl := hI.bl
      simp only at hjl hbl
      refine CW.run 9999 400 rfl ?_
      simp [Tryz.ntmps3, Tryz.results3]
      refine run_br_split (fun hb => ?_) (fun hb => ?_) <;> simp only [hb] <;> simp [Tryz.ntmps3, Tryz.results3] <;> (try simp only [Bool.not_eq_true', Bool.not_eq_false', decide_eq_true_eq, decide_eq_false_iff_not] at hb)
      · have hb' : b < l.length := by omega
        have hwb : IntKind.wrap .i64 ((b : Int) + 1) = b + 1 := wrap_i64 (by omega) (by omega)
        obtain ⟨y, hy⟩ : ∃ y, l[b]? = some y := ⟨_, List.getElem?_eq_getElem hb'⟩
        have hyb : l[b] = y := (List.getElem?_eq_some_iff.1 hy).2
        simp [hb', hyb, hx, hk, Tryz.ntmps3, Tryz.results3]
        refine ⟨by decide +kernel, ?_⟩
        have hbv : (decide (y.k.kind = x.k.kind) && decide (y.k.name = x.k.name)) = decide (y.k = x.k) := keyB y.k x.k
        rw [hbv]
        refine run_br_split (fun h5 => ?_) (fun h5 => ?_) <;> simp only [h5] <;> simp [Tryz.ntmps3, Tryz.results3] <;> (try simp only [Bool.not_eq_true', Bool.not_eq_false', decide_eq_true_eq, decide_eq_false_iff_not] at h5)
        · refine hBj _ ⟨(b, b + 1), hI.hit hy h5⟩ [] ?_ (by simp; omega)
          constructor <;> simp [hwb]
        · refine hBj _ ⟨(j, b + 1), LastSt.miss hr hI hy h5⟩ [] ?_ (by simp; omega)
          constructor <;> simp [hwb]
      · have hbe : b = l.length := by omega
        subst hbe
        obtain ⟨m, hm1, hm2⟩ := hI.done
        simp only at hm1
        have hmj : l[j] = m := (List.getElem?_eq_some_iff.1 hm1).2
        have hfv : (ofM s m).ver = m.ver := ofM_ver s m
        simp [hx, hk, Tryz.ntmps3, Tryz.results3]
        refine CW.callP (get_p (knownV s l) x.k (by omega)) Tryz.call17 rfl rfl rfl (by first | exact .inl rfl | exact .inr ⟨_, _, rfl, by simp⟩ | exact .inr ⟨_, _, rfl, by simp [*]⟩) rfl (by simp) rfl rfl (CW.runOps 9999 400 rfl ?_)
        simp [Tryz.ntmps3, Tryz.results3]
        have hg : getR (knownV s l) x.k = some (ofM s m) := by rw [known_get, hm2]; rfl
        simp [hg, hjl, hmj, hfv, Tryz.ntmps3, Tryz.results3]
        refine ⟨by decide +kernel, ?_⟩
        refine hB _ ⟨k + 1, by omega⟩ [] ?_ (by simp; omega)
        constructor <;> simp [hw, ht]
    · have hkl : k = (l).length := by simp at h; omega
      subst hkl
      simp only [h]
      simp [List.take_length, List.drop_length, Tryz.ntmps3, Tryz.results3]
      first | (exact fin0 (by simp [hkl]) rfl) | (refine ⟨by decide +kernel, ?_⟩; exact fin0 (by simp [hkl]) rfl)

end Go.Proofs.YtnmocaniljacpaaGreatDoor
end
section
namespace Go.Proofs.YtnmocaniljacpaaGreatDoor
open Go.ChangeShapes Go.WideShapes Go.ChangeAt Go.RowKit
open Go.AI Go.G
set_option maxRecDepth 20000
theorem viewBack_args {vs : List AV} (h : IsArgs Tryz.prog 20 [24, 3, 25] vs) : Ct Tryz.prog 3 vs [] [] (bool true) [] := by
  obtain ⟨d0, b0, h0, g0, rfl⟩ := h
  obtain ⟨d1, b1, h1, g1, rfl⟩ := g0
  obtain ⟨d2, b2, h2, g2, rfl⟩ := g1
  obtain rfl := g2
  obtain ⟨x0, y0, rfl⟩ := is_store h0
  obtain ⟨x1, y1, rfl⟩ := is_i h1
  obtain ⟨x2, y2, rfl⟩ := is_marks h2
  have := viewBack_w x0 x1 x2 y0 y2
  simp only [ag_int, ag_marks, ag_store]; exact this

theorem viewBack_any {H : Type} {enc : TypeId × Value → H} {W : World} {base : Nat} {args : Array Value} {ds : List (DataW H)} {ps : List MemPlace} (hA : DataW.TrodAll enc Tryz.prog W 0 (fun _ => true) true [24, 3, 25] args.toList ds ps)
    (hval : ∀ (j : Nat) t v, Tryz.f3.params[j]? = some t → args[j]? = some v → Value.okWide Tryz.prog W .any base t v) :
    Calls Tryz.prog 3 args W fun e W' => e = .returned (.bool true) ∧ Below W.heap.size W W' := by
  obtain ⟨vs, h1, h2⟩ := trod_args (n := 20) (base := base) hA (by intro t ht; simp at ht; rcases ht with rfl | rfl | rfl <;> kernel_rfl) (fun j t v h3 h4 => hval j t v (by rw [show Tryz.f3.params = #[24, 3, 25] by kernel_rfl]; simpa using h3) (by simpa using h4))
  exact calls_of_ct (viewBack_args h1) h2


set_option maxRecDepth 100000 in
theorem viewBack_lifted (os : Os) (started : os.Started) (H : Type) (enc : TypeId × Value → H) :
    ReturnsInHanded {} Tryz.checked os 3 .any (fun w args => (Rows.viewBackSpec.pre enc Tryz.prog Tryz.f3 [] false w args ∧ laidMetH Tryz.prog Rows.viewBackRow.laid w) ∧ sizedMet enc Tryz.prog Tryz.f3 (OpenSpec.ofChange Rows.viewBackSpec) false w args)
      (Rows.viewBackSpec.post enc Tryz.prog Tryz.f3 false true false false) := by
  refine returnsInHanded_of_change_and (C := Tryz.checked) (X := fun w _ => laidMetH Tryz.prog Rows.viewBackRow.laid w) (fun _ _ _ hh h => h.of_heap hh) ownT started (by kernel_rfl) Tryz.func3
    (ChangeSpec.witness_shaped (enc := enc) (C := Tryz.checked) (os := os) (X := fun w _ => laidMetH Tryz.prog Rows.viewBackRow.laid w) false (World.laidAll Tryz.prog os Rows.viewBackRow.laid) #[.agg #[.int .i64 0, .slice none 0 0], .int .i64 0, .slice none 0 0] 12 (World.laidAll_os _ _ _)
      (World.shaped_of_ZipB (by kernel_rfl) (by kernel_rfl)) (by kernel_rfl) (by kernel_rfl) (by kernel_rfl)
      (by rw [MakeChecks.laidMetH_plain _ _ _ (by kernel_rfl)]; exact laidMet_laidAll _ (by kernel_rfl) (by kernel_rfl))) ?_
  intro W base args ds gs before hval0 hW _ _ hL _
  obtain ⟨p, q, hA, _⟩ := id hW
  refine (viewBack_any hA hval0).mono fun e W' ⟨he, hb⟩ => ?_
  subst he
  exact ⟨_, rfl, post_true laidOutT (by decide +kernel) hW rfl (fun ds h => by
    match ds, h with
    | [d0, d1, d2], _ => rfl) (by kernel_rfl) (tb := 4) (by kernel_rfl) hb⟩

theorem viewBack_row : Rows.ViewBackSaid :=
  OpenClaim.holds_of_wide 3 Tryz.f3 rfl rfl rfl rfl rfl rfl rfl ⟨rfl, rfl, rfl, rfl, rfl⟩ rfl rfl rfl rfl rfl (by kernel_rfl) Tryz.func3 (by kernel_rfl)
    (of_decide_eq_true (by kernel_rfl)) (by unfold Func.isWrapper; first | (rw [if_pos (by decide +kernel)]; kernel_rfl) | (rw [if_neg (by decide +kernel)]; exact ⟨rfl, rfl⟩))
    (fun os started H enc _ => viewBack_lifted os started H enc)

theorem viewBack_holds : Rows.ViewBackCardSaid :=
  Claim7.holds_tied_plain_at .later [] [.data, .pinned] true (true, "39f09ed73c21a57f48101aefbd881dc5258c1400a46c8e9e049513589b24aa86") true
    viewBack_row (fun _ h => by cases h) (by kernel_rfl) (fun _ h => by cases h) viewBack_row_tie rfl ⟨rfl, rfl⟩ (by kernel_rfl) rfl
    (fun f fn hf hfn => by
      obtain rfl : f = 3 := Option.some.inj ((show Tryz.prog.funcNamed "groyne/groynelaw14.ViewBack" = some 3 by kernel_rfl).symm.trans hf) |>.symm
      obtain rfl : fn = Tryz.f3 := (Option.some.inj (Tryz.func3.symm.trans hfn)).symm
      exact ⟨by kernel_rfl, fun j t ht => by
        rw [show Tryz.f3.params = #[24, 3, 25] by kernel_rfl] at ht
        have hm : t ∈ [24, 3, 25] := by simpa using Array.mem_of_getElem? ht
        have hall : ([24, 3, 25].all fun u => !Tryz.prog.wantsStandIn u) = true := by kernel_rfl
        exact (show Tryz.prog.wantsStandIn t = false by simpa using List.all_eq_true.1 hall t hm)⟩)
    (by kernel_rfl)
end Go.Proofs.YtnmocaniljacpaaGreatDoor
end
