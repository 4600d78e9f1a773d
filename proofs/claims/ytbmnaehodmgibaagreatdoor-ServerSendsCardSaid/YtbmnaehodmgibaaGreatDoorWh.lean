/-
  LAYERS 15, 20: the walks of steps, of what is sent, of the law's helpers; what arguments are, what is laid.
-/
import Derived.Test.YtbmnaehodmgibaaGreatDoorWf
import Derived.Test.YtbmnaehodmgibaaGreatDoorWg
import Derived.Test.YtbmnaehodmgibaaGreatDoorPs
import Derived.Test.YtbmnaehodmgibaaGreatDoorFe
import Derived.Test.YtbmnaehodmgibaaGreatDoorFc
import Derived.Test.YtbmnaehodmgibaaGreatDoorWe
import Derived.Test.YtbmnaehodmgibaaGreatDoorWd
import Derived.LaidHandle
import Derived.LaidSub
import Derived.Lay
import Derived.Test.YtbmnaehodmgibaaGreatDoorRows
set_option linter.unusedSimpArgs false
set_option linter.unusedVariables false
section
namespace Go.Proofs.YtbmnaehodmgibaaGreatDoor
open Go.AI Go.G
set_option maxRecDepth 20000
noncomputable abbrev jobC (j : Job) : List D := [lD (j.adds.map resC), lD (j.gone.map keyC), keysD j.reach, lD (j.have_.map resC), lD (j.held.map keyC)]
abbrev jobB (j : Job) : Prop := j.adds.length ≤ 1000000 ∧ j.gone.length ≤ 1000000 ∧ j.have_.length ≤ 1000000 ∧ j.held.length ≤ 1000000
theorem filterO_p (l : List Res) (kf : D) (p : Res → Bool) (hf : ∀ x ∈ l, FnOk Tryz.prog (.d kf) [st (resC x)] (bool (p x))) (hl : l.length ≤ 1000000) : Ct Tryz.prog 162 [lst (l.map resC), .d kf] [] [] (.own 64) [(64, .grow 7 ((l.filter p).map resC) 85)] := by
  refine Ct.of_body Tryz.func162 rfl mixed (by rw [Tryz.ntmps162]; simp) (CW.run 9999 400 rfl ?_)
  simp [Tryz.ntmps162, Tryz.results162]
  refine LoopW.nilOwn 5 7 85 rfl ?_
  refine LoopW.inv mixed (Plain.retC _ _ _ _ _) rfl (ι := {k : Nat // k ≤ (l).length}) (fun k => [(0, lst (l.map resC)), (1, .d kf), (5, .own 64), (8, lst (l.map resC)), (9, int l.length), (10, int k.1)]) (fun k => [(64, .grow 7 (((l.take k.1).filter p).map resC) 85)]) 65 (fun k => (l).length - k.1) ⟨0, by omega⟩ [] (by constructor <;> simp) ?_
  rintro ⟨k, hk1⟩ B hB
  refine CW.run 9999 400 rfl ?_
  simp [Tryz.ntmps162, Tryz.results162]
  refine run_br_split (fun h => ?_) (fun h => ?_)
  · have hk : k < (l).length := by simpa using h
    have hr : (l)[k]? = some (l)[k] := List.getElem?_eq_getElem hk
    have hm : (l)[k] ∈ (l) := List.getElem_mem hk
    have ht : (l).take (k + 1) = (l).take k ++ [(l)[k]] := by rw [List.take_add_one, hr]; rfl
    have hd : (l).drop k = (l)[k] :: (l).drop (k + 1) := List.drop_eq_getElem_cons hk
    have hw : IntKind.wrap .i64 ((k : Int) + 1) = k + 1 := wrap_i64 (by omega) (by omega)
    obtain ⟨x, hx⟩ : ∃ x0, (l)[k] = x0 := ⟨_, rfl⟩
    rw [hx] at hr hm ht hd
    simp only [h]
    simp [hr, hw, Tryz.ntmps162, Tryz.results162]
    have hlen : ((l.take k).filter p).length ≤ 1000000 := Nat.le_trans (List.length_filter_le _ _) (by simp; omega)
    refine CW.callF (hf x hm) rfl rfl rfl (by first | exact .inl rfl | exact .inr ⟨_, _, rfl, by simp⟩ | exact .inr ⟨_, _, rfl, by simp [*]⟩) rfl (by simp) (CW.runOps 9999 400 rfl ?_)
    simp [Tryz.ntmps162, Tryz.results162]
    refine run_br_split (fun h1 => ?_) (fun h1 => ?_) <;> simp only [h1] <;> simp [hr, Tryz.ntmps162, Tryz.results162] <;> (try simp only [Bool.not_eq_true', Bool.not_eq_false', decide_eq_true_eq, decide_eq_false_iff_not] at h1)
    · refine ⟨by omega, ?_⟩
      refine hB _ ⟨k + 1, by omega⟩ [] ?_ (by simp; omega)
      constructor <;> simp [hw, ht, List.filter_append, h1]
    · refine hB _ ⟨k + 1, by omega⟩ [] ?_ (by simp; omega)
      constructor <;> simp [hw, ht, List.filter_append, h1]
  · have hkl : k = (l).length := by simp at h; omega
    subst hkl
    simp only [h]
    simp [List.take_length, List.drop_length, Tryz.ntmps162, Tryz.results162]
    first | (refine ⟨[(64, 64)], ?_, ?_, ?_, ?_, ?_, ?_, ?_⟩ <;> simp [nmF, inB]; done) | (refine ⟨by decide +kernel, ?_⟩; refine ⟨[(64, 64)], ?_, ?_, ?_, ?_, ?_, ?_, ?_⟩ <;> simp [nmF, inB])
theorem kindO_p (l : List Res) (n : Int) (hl : l.length ≤ 1000000) : Ct Tryz.prog 252 [lst (l.map resC), int n] [] [] (.own 64) [(64, .grow 7 ((kindL l n).map resC) 85)] := by
  refine Ct.of_body Tryz.func252 rfl mixed (by rw [Tryz.ntmps252]; simp) (CW.run 1 400 rfl ?_)
  simp [Tryz.ntmps252, Tryz.results252]
  refine CW.sub (tm := [(0, lst (l.map resC)), (3, .d (.pro [iD n]))]) (m := []) (nx := 65) [] [64] rfl (by constructor <;> simp) ?_
  refine CW.run 9999 400 rfl ?_
  simp [Tryz.ntmps252, Tryz.results252]
  refine CW.callC [] (filterO_p l (.fn (.func 308) [] [.pro [iD n]]) (fun r => decide (r.kind = n)) (fun r hr => FnOk.clo (by exact kindP r n) Tryz.call308 rfl rfl) hl) Tryz.call162 rfl rfl rfl (by first | exact .inl rfl | exact .inr ⟨_, _, rfl, by simp⟩ | exact .inr ⟨_, _, rfl, by simp [*]⟩) rfl (by simp) (by constructor <;> simp [nmOk]) (by simp) (CW.runOps 9999 400 rfl ?_)
  simp [Tryz.ntmps252, Tryz.results252]
  first | (refine ⟨[(64, 193)], ?_, ?_, ?_, ?_, ?_, ?_, ?_⟩ <;> simp [nmF, inB, kindL]; done) | (refine ⟨by decide +kernel, ?_⟩; refine ⟨[(64, 193)], ?_, ?_, ?_, ?_, ?_, ?_, ?_⟩ <;> simp [nmF, inB, kindL])
theorem cloneE_key : Ct Tryz.prog 309 [lst []] [] [] (lst []) [] := by
  refine Ct.of_body Tryz.func309 rfl mixed (by rw [Tryz.ntmps309]; simp) (CW.run 9999 400 rfl ?_)
  simp [Tryz.ntmps309, Tryz.results309]
  refine ⟨?_, ?_⟩
  · first | (exact fin0 (by simp) rfl) | (refine ⟨by decide +kernel, ?_⟩; exact fin0 (by simp) rfl)
  · first | (exact fin0 (by simp) rfl) | (refine ⟨by decide +kernel, ?_⟩; exact fin0 (by simp) rfl)
theorem clone_key (x : Key) (l : List Key) (hl : l.length ≤ 1000000) : Ct Tryz.prog 309 [lst ((x :: l).map keyC)] [] [] (.own 64) [(64, .grow 2 ((x :: l).map keyC) 89)] := by
  refine Ct.of_body Tryz.func309 rfl mixed (by rw [Tryz.ntmps309]; simp) (CW.run 9999 400 rfl ?_)
  simp [Tryz.ntmps309, Tryz.results309]
  refine ⟨by omega, ?_⟩
  first | (refine ⟨[(64, 384)], ?_, ?_, ?_, ?_, ?_, ?_, ?_⟩ <;> simp [nmF, inB]; done) | (refine ⟨by decide +kernel, ?_⟩; refine ⟨[(64, 384)], ?_, ?_, ?_, ?_, ?_, ?_, ?_⟩ <;> simp [nmF, inB])
theorem empty_p (s : Step) (h : s.adds.length ≤ 1000000 ∧ s.gone.length ≤ 1000000) : Ct Tryz.prog 127 [st (stepC s)] [] [] (bool s.none) [] := by
  refine Ct.of_body Tryz.func127 rfl mixed (by rw [Tryz.ntmps127]; simp) (CW.run 9999 400 rfl ?_)
  simp [Tryz.ntmps127, Tryz.results127]
  obtain ⟨h1, h2⟩ := h
  have w : IntKind.wrap .i64 ((s.adds.length : Int) + s.gone.length) = s.adds.length + s.gone.length := wrap_i64 (by omega) (by omega)
  have e : decide ((s.adds.length : Int) + s.gone.length = 0) = s.none := by unfold Step.none; exact decide_eq_decide.2 (by omega)
  simp [w, Tryz.ntmps127, Tryz.results127]
  rw [e]
  first | (exact fin0 (by simp) rfl) | (refine ⟨by decide +kernel, ?_⟩; exact fin0 (by simp) rfl)
theorem early1 (j : Job) (r : Res) : Ct Tryz.prog 253 [st (resC r), .d (.pro [.pro (jobC j)])] [] [] (bool (!decide (r.key ∈ j.reach))) [] := by
  refine Ct.of_body Tryz.func253 rfl mixed (by rw [Tryz.ntmps253]; simp) (CW.run 9999 400 rfl ?_)
  simp [Tryz.ntmps253, Tryz.results253]
  by_cases h : r.key ∈ j.reach
  · have e1 := look_in h
    refine CW.callP (key_p r) Tryz.call97 rfl rfl rfl (by first | exact .inl rfl | exact .inr ⟨_, _, rfl, by simp⟩ | exact .inr ⟨_, _, rfl, by simp [*]⟩) rfl (by simp [e1]) rfl rfl (CW.runOps 9999 400 rfl ?_)
    simp [e1, Tryz.ntmps253, Tryz.results253]
    refine ⟨by decide +kernel, ?_⟩
    first | (exact fin0 (by simp [h]) rfl) | (refine ⟨by decide +kernel, ?_⟩; exact fin0 (by simp [h]) rfl)
  · have e1 := look_out h
    refine CW.callP (key_p r) Tryz.call97 rfl rfl rfl (by first | exact .inl rfl | exact .inr ⟨_, _, rfl, by simp⟩ | exact .inr ⟨_, _, rfl, by simp [*]⟩) rfl (by simp [e1]) rfl rfl (CW.runOps 9999 400 rfl ?_)
    simp [e1, Tryz.ntmps253, Tryz.results253]
    refine ⟨by decide +kernel, ?_⟩
    first | (exact fin0 (by simp [h]) rfl) | (refine ⟨by decide +kernel, ?_⟩; exact fin0 (by simp [h]) rfl)
theorem early_p (j : Job) (n : Int) (hj : jobB j) : Ct Tryz.prog 191 [.d (.pro (jobC j)), int n] [] [] (st (stepC (j.early n))) [] := by
  refine Ct.of_body Tryz.func191 rfl mixed (by rw [Tryz.ntmps191]; simp) (CW.run 1 400 rfl ?_)
  simp [Tryz.ntmps191, Tryz.results191]
  refine CW.sub (tm := [(1, int n), (2, .d (.pro [.pro (jobC j)])), (4, .ptr 64 0)]) (m := [(64, .cells [int 0, lst [], lst []] 135)]) (nx := 65) [(64, 128)] [64] rfl (by constructor <;> simp) ?_
  refine CW.run 9999 400 rfl ?_
  simp [Tryz.ntmps191, Tryz.results191]
  obtain ⟨K, hK⟩ : ∃ K, kindL j.adds n = K := ⟨_, rfl⟩
  have hlen : K.length ≤ 1000000 := by rw [← hK]; exact Nat.le_trans (kindL_len _ _) hj.1
  have e : (j.early n).adds = K.filter fun r => !(!decide (r.key ∈ j.reach)) := by simp [Job.early, hK]
  have e1 : (j.early n).kind = n := rfl
  have e2 : (j.early n).gone = [] := rfl
  refine CW.callC [] (kindO_p j.adds n hj.1) Tryz.call252 rfl rfl rfl (by first | exact .inl rfl | exact .inr ⟨_, _, rfl, by simp⟩ | exact .inr ⟨_, _, rfl, by simp [*]⟩) rfl (by simp) (by constructor <;> simp [nmOk]) (by simp) (CW.runOps 9999 400 rfl ?_)
  simp [Tryz.ntmps191, Tryz.results191]
  rw [hK, e, e1, e2]
  clear e e1 e2 hK
  cases K with
  | nil =>
    refine CW.callG [385] [] (delE (.fn (.func 253) [] [.pro [.pro (jobC j)]])) Tryz.call113 rfl rfl rfl (by first | exact .inl rfl | exact .inr ⟨_, _, rfl, by simp⟩ | exact .inr ⟨_, _, rfl, by simp [*]⟩) rfl (by simp [giveT]) (by constructor <;> simp [nmOk]) (by simp [gvB]) (by simp) (CW.runOps 9999 400 rfl ?_)
    simp [Tryz.ntmps191, Tryz.results191]
    first | (exact fin0 (by simp) rfl) | (refine ⟨by decide +kernel, ?_⟩; exact fin0 (by simp) rfl)
  | cons x l =>
    refine CW.callC [385] (delC (x :: l) (.fn (.func 253) [] [.pro [.pro (jobC j)]]) (fun r => !decide (r.key ∈ j.reach)) (fun r hr => FnOk.clo (by exact early1 j r) Tryz.call253 rfl rfl) hlen) Tryz.call113 rfl rfl rfl (by first | exact .inl rfl | exact .inr ⟨_, _, rfl, by simp⟩ | exact .inr ⟨_, _, rfl, by simp [*]⟩) rfl (by simp) (by constructor <;> simp [nmOk]) (by simp) (CW.runOps 9999 400 rfl ?_)
    simp [Tryz.ntmps191, Tryz.results191]
    first | (exact fin0 (by simp) rfl) | (refine ⟨by decide +kernel, ?_⟩; exact fin0 (by simp) rfl)
theorem late_p (j : Job) (n : Int) (hj : jobB j) : Ct Tryz.prog 193 [.d (.pro (jobC j)), int n] [] [] (st (stepC (j.late n))) [] := by
  refine Ct.of_body Tryz.func193 rfl mixed (by rw [Tryz.ntmps193]; simp) (CW.run 9999 400 rfl ?_)
  simp [Tryz.ntmps193, Tryz.results193]
  refine CW.callP (kind_p j.adds n hj.1) Tryz.call252 rfl rfl rfl (by first | exact .inl rfl | exact .inr ⟨_, _, rfl, by simp⟩ | exact .inr ⟨_, _, rfl, by simp [*]⟩) rfl (by simp) rfl rfl (CW.runOps 9999 400 rfl ?_)
  simp [Tryz.ntmps193, Tryz.results193]
  first | (exact fin0 (by simp [Job.late, kindL]) rfl) | (refine ⟨by decide +kernel, ?_⟩; exact fin0 (by simp [Job.late, kindL]) rfl)
theorem off1 (n : Int) (k_ : Key) : Ct Tryz.prog 310 [st (keyC k_), .d (.pro [iD n])] [] [] (bool (!decide (k_.kind = n))) [] := by
  refine Ct.of_body Tryz.func310 rfl mixed (by rw [Tryz.ntmps310]; simp) (CW.run 9999 400 rfl ?_)
  simp [Tryz.ntmps310, Tryz.results310]
  first | (exact fin0 (by simp) rfl) | (refine ⟨by decide +kernel, ?_⟩; exact fin0 (by simp) rfl)
theorem delA_key (l : List Key) (kf : D) (p : Key → Bool) (hf : ∀ x ∈ l, FnOk Tryz.prog (.d kf) [st (keyC x)] (bool (p x))) (hl : l.length ≤ 1000000) (h1 : idxF p l = -1) : Ct Tryz.prog 164 [.own 0, .d kf] [] [(0, .grow 2 (l.map keyC) 89)] (.own 0) [(0, .grow 2 (l.map keyC) 89)] := by
  refine Ct.of_body Tryz.func164 rfl mixed (by rw [Tryz.ntmps164]; simp) (CW.run 9999 400 rfl ?_)
  simp [Tryz.ntmps164, Tryz.results164]
  refine CW.callC [0] (idxO_key l kf p hf (by omega)) Tryz.call198 rfl rfl rfl (by first | exact .inl rfl | exact .inr ⟨_, _, rfl, by simp⟩ | exact .inr ⟨_, _, rfl, by simp [*]⟩) rfl (by simp) (by constructor <;> simp [nmOk]) (by simp) (CW.runOps 9999 400 rfl ?_)
  simp [Tryz.ntmps164, Tryz.results164]
  simp [h1, Tryz.ntmps164, Tryz.results164]
  first | (refine ⟨[], ?_, ?_, ?_, ?_, ?_, ?_, ?_⟩ <;> simp [nmF, inB]; done) | (refine ⟨by decide +kernel, ?_⟩; refine ⟨[], ?_, ?_, ?_, ?_, ?_, ?_, ?_⟩ <;> simp [nmF, inB])
theorem delB_key (l : List Key) (kf : D) (p : Key → Bool) (hf : ∀ x ∈ l, FnOk Tryz.prog (.d kf) [st (keyC x)] (bool (p x))) (hl : l.length ≤ 1000000) (i : Nat) (x : Key) (h1 : idxF p l = i) (h2 : i < l.length) : Ct Tryz.prog 164 [.own 0, .d kf] [] [(0, .grow 2 (l.map keyC) 89)] (.sl 0 2 0 (l.filter fun x => !p x).length) [(0, .grow 2 ((l.filter fun x => !p x).map keyC ++ List.replicate (l.length - (l.filter fun x => !p x).length) [iD 0, sD ⟨#[]⟩]) 89)] := by
  refine Ct.of_body Tryz.func164 rfl mixed (by rw [Tryz.ntmps164]; simp) (CW.run 9999 400 rfl ?_)
  simp [Tryz.ntmps164, Tryz.results164]
  refine CW.callC [0] (idxO_key l kf p hf (by omega)) Tryz.call198 rfl rfl rfl (by first | exact .inl rfl | exact .inr ⟨_, _, rfl, by simp⟩ | exact .inr ⟨_, _, rfl, by simp [*]⟩) rfl (by simp) (by constructor <;> simp [nmOk]) (by simp) (CW.runOps 9999 400 rfl ?_)
  simp [Tryz.ntmps164, Tryz.results164]
  have hne : ¬ (i : Int) = -1 := by omega
  have hwi : IntKind.wrap .i64 ((i : Int) + 1) = i + 1 := wrap_i64 (by omega) (by omega)
  simp [h1, hne, hwi, Tryz.ntmps164, Tryz.results164]
  have d0 := DelSt.start (x := x) h1 h2
  refine LoopW.inv mixed (Plain.retC _ _ _ _ _) rfl (ι := {q : Nat × Nat × List Key // DelSt p l q.1 q.2.1 q.2.2}) (fun k => [(0, .own 0), (1, .d kf), (5, int k.1.2.1), (6, int k.1.1)]) (fun k => [(0, .grow 2 (k.1.2.2.map keyC) 89)]) 64 (fun k => l.length - k.1.1) ⟨(i + 1, i, l), d0⟩ [] (by constructor <;> simp) ?_
  rintro ⟨⟨j, i, cur⟩, hd⟩ B hB
  clear h1 h2 hne hwi d0
  have hlen := hd.len
  have hlt := hd.lt
  have hle := hd.le
  simp only at hlen hlt hle
  have w1 : IntKind.wrap .i64 ((j : Int) + 1) = j + 1 := wrap_i64 (by omega) (by omega)
  have w2 : IntKind.wrap .i64 ((i : Int) + 1) = i + 1 := wrap_i64 (by omega) (by omega)
  refine CW.run 9999 400 rfl ?_
  simp [hlen, Tryz.ntmps164, Tryz.results164]
  refine run_br_split (fun h => ?_) (fun h => ?_) <;> simp only [h] <;> simp [Tryz.ntmps164, Tryz.results164] <;> (try simp only [Bool.not_eq_true', Bool.not_eq_false', decide_eq_true_eq, decide_eq_false_iff_not] at h)
  · have hj : j < l.length := by omega
    have hv : l[j]? = some l[j] := List.getElem?_eq_getElem hj
    have hm : l[j] ∈ l := List.getElem_mem hj
    generalize l[j] = v at hv hm
    have hg := hd.get hv
    have hjc : j < cur.length := by omega
    have hgx : cur[j] = v := by rw [List.getElem?_eq_getElem hjc] at hg; exact Option.some.inj hg
    simp [hjc, hgx, Tryz.ntmps164, Tryz.results164]
    refine CW.callF (hf v hm) rfl rfl rfl (by first | exact .inl rfl | exact .inr ⟨_, _, rfl, by simp⟩ | exact .inr ⟨_, _, rfl, by simp [*]⟩) rfl (by simp) (CW.runOps 9999 400 rfl ?_)
    simp [Tryz.ntmps164, Tryz.results164]
    have hic : i < cur.length := by omega
    refine run_br_split (fun h2 => ?_) (fun h2 => ?_) <;> simp only [h2] <;> simp [hic, Tryz.ntmps164, Tryz.results164]
    · have hp : p v = false := by simpa using h2
      refine hB _ ⟨(j + 1, i + 1, cur.set i v), hd.keep hv hp⟩ [] ?_ (by simp; omega)
      constructor <;> simp [w1, w2, List.map_set]
    · have hp : p v = true := by simpa using h2
      refine hB _ ⟨(j + 1, i, cur), hd.del hv hp⟩ [] ?_ (by simp; omega)
      constructor <;> simp [w1]
  · have hj : j = l.length := by omega
    subst hj
    have e : cur.take i = l.filter (fun x => !p x) := hd.done
    simp [hlen, Tryz.ntmps164, Tryz.results164]
    have e2 : List.take i (List.map keyC cur) = List.map keyC (List.filter (fun x => !p x) l) := by rw [← List.map_take, e]
    have e3 : (List.filter (fun x => !p x) l).length = i := by rw [← e, List.length_take]; omega
    refine ⟨by omega, by omega, by omega, ?_⟩
    have e4 : List.drop (i + (l.length - i)) (List.map keyC cur) = [] := by rw [List.drop_eq_nil_iff]; simp; omega
    rw [e2, e3, e4]
    first | (refine ⟨[], ?_, ?_, ?_, ?_, ?_, ?_, ?_⟩ <;> simp [nmF, inB]; done) | (refine ⟨by decide +kernel, ?_⟩; refine ⟨[], ?_, ?_, ?_, ?_, ?_, ?_, ?_⟩ <;> simp [nmF, inB])
theorem delO_key (l : List Key) (kf : D) (p : Key → Bool) (hf : ∀ x ∈ l, FnOk Tryz.prog (.d kf) [st (keyC x)] (bool (p x))) (hl : l.length ≤ 1000000) : Ct Tryz.prog 164 [.own 0, .d kf] [] [(0, .grow 2 (l.map keyC) 89)] (.own 64) [(64, .grow 2 ((l.filter fun x => !p x).map keyC) 89)] := by
  rcases find_idx p l with ⟨h1, h2⟩ | ⟨i, x, h1, h2, h3, h4⟩
  · have e : (l.filter fun x => !p x) = l := by
      rw [List.filter_eq_self]; intro a ha
      have := List.find?_eq_none.1 h2 a ha; simpa using this
    have := Ct.trunc (Or.inl ⟨rfl, rfl⟩) (Nat.le_refl _) (delA_key l kf p hf hl h1)
    rw [List.take_length] at this
    rw [e]
    exact this
  · have := Ct.trunc (Or.inr rfl) (by simp) (delB_key l kf p hf hl i x h1 h2)
    rw [List.take_left' (by simp)] at this
    exact this
theorem off_p (j : Job) (n : Int) (hj : jobB j) : Ct Tryz.prog 254 [.d (.pro (jobC j)), int n] [] [] (st (stepC (j.off n))) [] := by
  refine Ct.of_body Tryz.func254 rfl mixed (by rw [Tryz.ntmps254]; simp) (CW.run 1 400 rfl ?_)
  simp [Tryz.ntmps254, Tryz.results254]
  refine CW.sub (tm := [(0, .d (.pro (jobC j))), (3, .d (.pro [iD n])), (4, .ptr 64 0)]) (m := [(64, .cells [int 0, lst [], lst []] 135)]) (nx := 65) [(64, 128)] [64] rfl (by constructor <;> simp) ?_
  refine CW.run 9999 400 rfl ?_
  simp [Tryz.ntmps254, Tryz.results254]
  have e : (j.off n).gone = j.gone.filter fun k => !(!decide (k.kind = n)) := by simp [Job.off, kindG]
  have e1 : (j.off n).kind = n := rfl
  have e2 : (j.off n).adds = [] := rfl
  have hlen := hj.2.1
  rw [e, e1, e2]
  clear e e1 e2
  generalize j.gone = G at hlen ⊢
  cases G with
  | nil =>
    refine CW.callP (cloneE_key ) Tryz.call309 rfl rfl rfl (by first | exact .inl rfl | exact .inr ⟨_, _, rfl, by simp⟩ | exact .inr ⟨_, _, rfl, by simp [*]⟩) rfl (by simp) rfl rfl (CW.runOps 9999 400 rfl ?_)
    simp [Tryz.ntmps254, Tryz.results254]
    refine CW.callP (delE_key (.fn (.func 310) [] [.pro [iD n]])) Tryz.call164 rfl rfl rfl (by first | exact .inl rfl | exact .inr ⟨_, _, rfl, by simp⟩ | exact .inr ⟨_, _, rfl, by simp [*]⟩) rfl (by simp) rfl rfl (CW.runOps 9999 400 rfl ?_)
    simp [Tryz.ntmps254, Tryz.results254]
    first | (exact fin0 (by simp) rfl) | (refine ⟨by decide +kernel, ?_⟩; exact fin0 (by simp) rfl)
  | cons x l =>
    refine CW.callC [] (clone_key x l (by simp at hlen; omega)) Tryz.call309 rfl rfl rfl (by first | exact .inl rfl | exact .inr ⟨_, _, rfl, by simp⟩ | exact .inr ⟨_, _, rfl, by simp [*]⟩) rfl (by simp) (by constructor <;> simp [nmOk]) (by simp) (CW.runOps 9999 400 rfl ?_)
    simp [Tryz.ntmps254, Tryz.results254]
    refine CW.callC [321] (delC_key (x :: l) (.fn (.func 310) [] [.pro [iD n]]) (fun k => !decide (k.kind = n)) (fun k hk => FnOk.clo (by exact off1 n k) Tryz.call310 rfl rfl) hlen) Tryz.call164 rfl rfl rfl (by first | exact .inl rfl | exact .inr ⟨_, _, rfl, by simp⟩ | exact .inr ⟨_, _, rfl, by simp [*]⟩) rfl (by simp) (by constructor <;> simp [nmOk]) (by simp) (CW.runOps 9999 400 rfl ?_)
    simp [Tryz.ntmps254, Tryz.results254]
    first | (exact fin0 (by simp) rfl) | (refine ⟨by decide +kernel, ?_⟩; exact fin0 (by simp) rfl)
theorem offO_p (j : Job) (n : Int) (x : Key) (l : List Key) (hg : j.gone = x :: l) (hj : jobB j) : Ct Tryz.prog 254 [.d (.pro (jobC j)), int n] [] [] (.agg [int n, lst [], .own 64]) [(64, .grow 2 ((kindG j.gone n).map keyC) 89)] := by
  refine Ct.of_body Tryz.func254 rfl mixed (by rw [Tryz.ntmps254]; simp) (CW.run 1 400 rfl ?_)
  simp [Tryz.ntmps254, Tryz.results254]
  refine CW.sub (tm := [(0, .d (.pro (jobC j))), (3, .d (.pro [iD n])), (4, .ptr 64 0)]) (m := [(64, .cells [int 0, lst [], lst []] 135)]) (nx := 65) [(64, 128)] [64] rfl (by constructor <;> simp) ?_
  refine CW.run 9999 400 rfl ?_
  simp [Tryz.ntmps254, Tryz.results254]
  have e : kindG j.gone n = j.gone.filter fun k => !(!decide (k.kind = n)) := by simp [kindG]
  have hlen := hj.2.1
  rw [e, hg]
  rw [hg] at hlen
  clear e
  refine CW.callC [] (clone_key x l (by simp at hlen; omega)) Tryz.call309 rfl rfl rfl (by first | exact .inl rfl | exact .inr ⟨_, _, rfl, by simp⟩ | exact .inr ⟨_, _, rfl, by simp [*]⟩) rfl (by simp) (by constructor <;> simp [nmOk]) (by simp) (CW.runOps 9999 400 rfl ?_)
  simp [Tryz.ntmps254, Tryz.results254]
  refine CW.callC [321] (delO_key (x :: l) (.fn (.func 310) [] [.pro [iD n]]) (fun k => !decide (k.kind = n)) (fun k hk => FnOk.clo (by exact off1 n k) Tryz.call310 rfl rfl) hlen) Tryz.call164 rfl rfl rfl (by first | exact .inl rfl | exact .inr ⟨_, _, rfl, by simp⟩ | exact .inr ⟨_, _, rfl, by simp [*]⟩) rfl (by simp) (by constructor <;> simp [nmOk]) (by simp) (CW.runOps 9999 400 rfl ?_)
  simp [Tryz.ntmps254, Tryz.results254]
  first | (refine ⟨[(64, 449)], ?_, ?_, ?_, ?_, ?_, ?_, ?_⟩ <;> simp [nmF, inB]; done) | (refine ⟨by decide +kernel, ?_⟩; refine ⟨[(64, 449)], ?_, ?_, ?_, ?_, ?_, ?_, ?_⟩ <;> simp [nmF, inB])
theorem doors_p (j : Job) (n : Int) (hj : jobB j) : Ct Tryz.prog 192 [.d (.pro (jobC j)), int n] [] [] (st (stepC (j.doors n))) [] := by
  refine Ct.of_body Tryz.func192 rfl mixed (by rw [Tryz.ntmps192]; simp) (CW.run 9999 400 rfl ?_)
  simp [Tryz.ntmps192, Tryz.results192]
  refine CW.callP (late_p j n hj) Tryz.call193 rfl rfl rfl (by first | exact .inl rfl | exact .inr ⟨_, _, rfl, by simp⟩ | exact .inr ⟨_, _, rfl, by simp [*]⟩) rfl (by simp) rfl rfl (CW.runOps 9999 400 rfl ?_)
  simp [Tryz.ntmps192, Tryz.results192]
  refine CW.callP (off_p j n hj) Tryz.call254 rfl rfl rfl (by first | exact .inl rfl | exact .inr ⟨_, _, rfl, by simp⟩ | exact .inr ⟨_, _, rfl, by simp [*]⟩) rfl (by simp) rfl rfl (CW.runOps 9999 400 rfl ?_)
  simp [Tryz.ntmps192, Tryz.results192]
  first | (exact fin0 (by simp [Job.doors, Job.late, Job.off]) rfl) | (refine ⟨by decide +kernel, ?_⟩; exact fin0 (by simp [Job.doors, Job.late, Job.off]) rfl)
theorem free1 (j : Job) (k_ : Key) (hj : jobB j) : Ct Tryz.prog 255 [st (keyC k_), .d (.pro [.pro (jobC j)])] [] [] (bool (!j.freeK k_)) [] := by
  refine Ct.of_body Tryz.func255 rfl mixed (by rw [Tryz.ntmps255]; simp) (CW.run 9999 400 rfl ?_)
  simp [Tryz.ntmps255, Tryz.results255]
  refine CW.callP (hasK_p j.held k_ (by have := hj.2.2.2; omega)) Tryz.call95 rfl rfl rfl (by first | exact .inl rfl | exact .inr ⟨_, _, rfl, by simp⟩ | exact .inr ⟨_, _, rfl, by simp [*]⟩) rfl (by simp) rfl rfl (CW.runOps 9999 400 rfl ?_)
  simp [Tryz.ntmps255, Tryz.results255]
  refine run_gd_split (fun h1 => ?_) (fun h1 => ?_) <;> simp only [h1] <;> simp [Tryz.ntmps255, Tryz.results255]
  · have e : (!j.freeK k_) = true := by simp [Job.freeK, h1]
    rw [e]
    refine ⟨by decide +kernel, ?_⟩
    first | (exact fin0 (by simp) rfl) | (refine ⟨by decide +kernel, ?_⟩; exact fin0 (by simp) rfl)
  · refine CW.callP (refers_p j.have_ k_ hj.2.2.1) Tryz.call37 rfl rfl rfl (by first | exact .inl rfl | exact .inr ⟨_, _, rfl, by simp⟩ | exact .inr ⟨_, _, rfl, by simp [*]⟩) rfl (by simp) rfl rfl (CW.runOps 9999 400 rfl ?_)
    simp [Tryz.ntmps255, Tryz.results255]
    have e : (!j.freeK k_) = decide (0 < (refersR j.have_ k_).length) := by simp [Job.freeK, h1]
    rw [e]
    refine ⟨by decide +kernel, ?_⟩
    first | (exact fin0 (by simp) rfl) | (refine ⟨by decide +kernel, ?_⟩; exact fin0 (by simp) rfl)
theorem jfree_p (j : Job) (n : Int) (hj : jobB j) : Ct Tryz.prog 194 [.d (.pro (jobC j)), int n] [] [] (st (stepC (j.free n))) [] := by
  refine Ct.of_body Tryz.func194 rfl mixed (by rw [Tryz.ntmps194]; simp) (CW.run 1 400 rfl ?_)
  simp [Tryz.ntmps194, Tryz.results194]
  refine CW.sub (tm := [(1, int n), (2, .d (.pro [.pro (jobC j)])), (4, .ptr 64 0)]) (m := [(64, .cells [int 0, lst [], lst []] 135)]) (nx := 65) [(64, 128)] [64] rfl (by constructor <;> simp) ?_
  refine CW.run 9999 400 rfl ?_
  simp [Tryz.ntmps194, Tryz.results194]
  have e : (j.free n).gone = (kindG j.gone n).filter fun k => !(!j.freeK k) := by simp [Job.free]
  have e1 : (j.free n).kind = n := rfl
  have e2 : (j.free n).adds = [] := rfl
  have hlen : (kindG j.gone n).length ≤ 1000000 := Nat.le_trans (kindG_len _ _) hj.2.1
  rw [e, e1, e2]
  clear e e1 e2
  rcases hG : j.gone with _ | ⟨x, l⟩
  · have o1 : (j.off n).gone = [] := by simp [Job.off, kindG, hG]
    have o2 : (j.off n).kind = n := rfl
    have o3 : (j.off n).adds = [] := rfl
    have o4 : kindG [] n = [] := rfl
    refine CW.callP (off_p j n hj) Tryz.call254 rfl rfl rfl (by first | exact .inl rfl | exact .inr ⟨_, _, rfl, by simp⟩ | exact .inr ⟨_, _, rfl, by simp [*]⟩) rfl (by simp [o1, o2, o3]) rfl rfl (CW.runOps 9999 400 rfl ?_)
    simp [o1, o2, o3, Tryz.ntmps194, Tryz.results194]
    refine CW.callP (delE_key (.fn (.func 255) [] [.pro [.pro (jobC j)]])) Tryz.call164 rfl rfl rfl (by first | exact .inl rfl | exact .inr ⟨_, _, rfl, by simp⟩ | exact .inr ⟨_, _, rfl, by simp [*]⟩) rfl (by simp) rfl rfl (CW.runOps 9999 400 rfl ?_)
    simp [Tryz.ntmps194, Tryz.results194]
    first | (exact fin0 (by simp [o4]) rfl) | (refine ⟨by decide +kernel, ?_⟩; exact fin0 (by simp [o4]) rfl)
  · refine CW.callC [] (offO_p j n x l hG hj) Tryz.call254 rfl rfl rfl (by first | exact .inl rfl | exact .inr ⟨_, _, rfl, by simp⟩ | exact .inr ⟨_, _, rfl, by simp [*]⟩) rfl (by simp) (by constructor <;> simp [nmOk]) (by simp) (CW.runOps 9999 400 rfl ?_)
    simp [Tryz.ntmps194, Tryz.results194]
    refine CW.callC [193] (delC_key (kindG j.gone n) (.fn (.func 255) [] [.pro [.pro (jobC j)]]) (fun k => !j.freeK k) (fun k _ => FnOk.clo (by exact free1 j k hj) Tryz.call255 rfl rfl) hlen) Tryz.call164 rfl rfl rfl (by first | exact .inl rfl | exact .inr ⟨_, _, rfl, by simp⟩ | exact .inr ⟨_, _, rfl, by simp [*]⟩) rfl (by simp) (by constructor <;> simp [nmOk]) (by simp) (CW.runOps 9999 400 rfl ?_)
    simp [Tryz.ntmps194, Tryz.results194]
    first | (exact fin0 (by simp [hG]) rfl) | (refine ⟨by decide +kernel, ?_⟩; exact fin0 (by simp [hG]) rfl)
abbrev fnJ (f : FuncId) (j : List D) : D := .fn (.func f) [.pro j] []
noncomputable abbrev phasesC (j : Job) : List (List D) := [[lD [[iD 3], [iD 2], [iD 1]], fnJ 191 (jobC j)], [lD [[iD 0]], fnJ 192 (jobC j)], [lD [[iD 3], [iD 2], [iD 1]], fnJ 193 (jobC j)], [lD [[iD 1], [iD 2], [iD 3]], fnJ 194 (jobC j)]]
theorem phases_p (j : Job) : Ct Tryz.prog 126 [.d (.pro (jobC j))] [] [] (lst (phasesC j)) [] := by
  refine Ct.of_body Tryz.func126 rfl mixed (by rw [Tryz.ntmps126]; simp) (CW.run 9999 400 rfl ?_)
  simp [Tryz.ntmps126, Tryz.results126]
  refine CW.opG [128, 256, 640] 9999 400 rfl rfl (by first | exact .inl rfl | exact .inr ⟨_, _, rfl, by simp⟩ | exact .inr ⟨_, _, rfl, by simp [*]⟩) (by simp) ?_
  simp [giveT, gvB, Tryz.ntmps126, Tryz.results126]
  first | (exact fin0 (by simp) rfl) | (refine ⟨by decide +kernel, ?_⟩; exact fin0 (by simp) rfl)
theorem begin_p (hv want : List Res) (held : List Key) (hh : OkRs hv) (hl : hv.length ≤ 1000000) (hw : want.length ≤ 100000) (ha : AscR want) : Ct Tryz.prog 125 [lst (hv.map resC), lst (want.map resC), lst (held.map keyC)] [] [] (.d (.pro (jobC (begin' hv want held)))) [] := by
  refine Ct.of_body Tryz.func125 rfl mixed (by rw [Tryz.ntmps125]; simp) (CW.run 9999 400 rfl ?_)
  simp [Tryz.ntmps125, Tryz.results125]
  refine CW.callP (diff_p hv want hh hl (by omega)) Tryz.call90 rfl rfl rfl (by first | exact .inl rfl | exact .inr ⟨_, _, rfl, by simp⟩ | exact .inr ⟨_, _, rfl, by simp [*]⟩) rfl (by simp) rfl rfl (CW.runOps 9999 400 rfl ?_)
  simp [Tryz.ntmps125, Tryz.results125]
  refine CW.callP (reach_p want ha hw) Tryz.call46 rfl rfl rfl (by first | exact .inl rfl | exact .inr ⟨_, _, rfl, by simp⟩ | exact .inr ⟨_, _, rfl, by simp [*]⟩) rfl (by simp) rfl rfl (CW.runOps 9999 400 rfl ?_)
  simp [Tryz.ntmps125, Tryz.results125]
  have hrl : (reachR want).length ≤ 100000 := Nat.le_trans (List.length_filter_le _ _) hw
  refine LoopW.inv mixed (Plain.retC _ _ _ _ _) rfl (ι := {k : Nat // k ≤ ((reachR want)).length}) (fun k => [(7, .ptr 64 0), (28, lst ((reachR want).map resC)), (29, int (reachR want).length), (30, int k.1)]) (fun k => [(64, .cells [lst ((diffA hv want).map resC), lst ((diffG hv want).map keyC), .own 65, lst (hv.map resC), lst (held.map keyC)] 274), (65, .map true [.int, .str] false (lookS (((reachR want).take k.1).map Res.key)))]) 66 (fun k => ((reachR want)).length - k.1) ⟨0, by omega⟩ [] (by constructor <;> simp [lookS_nil]) ?_
  rintro ⟨k, hk1⟩ B hB
  refine CW.run 9999 400 rfl ?_
  simp [lookS_nil, Tryz.ntmps125, Tryz.results125]
  refine run_br_split (fun h => ?_) (fun h => ?_)
  · have hk : k < ((reachR want)).length := by simpa using h
    have hr : ((reachR want))[k]? = some ((reachR want))[k] := List.getElem?_eq_getElem hk
    have hm : ((reachR want))[k] ∈ ((reachR want)) := List.getElem_mem hk
    have ht : ((reachR want)).take (k + 1) = ((reachR want)).take k ++ [((reachR want))[k]] := by rw [List.take_add_one, hr]; rfl
    have hd : ((reachR want)).drop k = ((reachR want))[k] :: ((reachR want)).drop (k + 1) := List.drop_eq_getElem_cons hk
    have hw : IntKind.wrap .i64 ((k : Int) + 1) = k + 1 := wrap_i64 (by omega) (by omega)
    obtain ⟨x, hx⟩ : ∃ x0, ((reachR want))[k] = x0 := ⟨_, rfl⟩
    rw [hx] at hr hm ht hd
    simp only [h]
    simp [hr, hw, Tryz.ntmps125, Tryz.results125]
    refine CW.callP (key_p x) Tryz.call97 rfl rfl rfl (by first | exact .inl rfl | exact .inr ⟨_, _, rfl, by simp⟩ | exact .inr ⟨_, _, rfl, by simp [*]⟩) rfl (by simp) rfl rfl (CW.runOps 9999 400 rfl ?_)
    simp [Tryz.ntmps125, Tryz.results125]
    refine ⟨by decide +kernel, ?_⟩
    refine hB _ ⟨k + 1, by omega⟩ [] ?_ (by simp; omega)
    constructor <;> simp [hw, ht]
  · have hkl : k = ((reachR want)).length := by simp at h; omega
    subst hkl
    simp only [h]
    simp [List.take_length, List.drop_length, Tryz.ntmps125, Tryz.results125]
    first | (exact fin0 (by simp [begin']) rfl) | (refine ⟨by decide +kernel, ?_⟩; exact fin0 (by simp [begin']) rfl)
theorem early_b {j : Job} (hj : jobB j) (n : Int) : (j.early n).adds.length ≤ 1000000 ∧ (j.early n).gone.length ≤ 1000000 :=
  ⟨Nat.le_trans (List.length_filter_le _ _) (Nat.le_trans (kindL_len _ _) hj.1), by simp [Job.early]⟩
theorem late_b {j : Job} (hj : jobB j) (n : Int) : (j.late n).adds.length ≤ 1000000 ∧ (j.late n).gone.length ≤ 1000000 :=
  ⟨Nat.le_trans (kindL_len _ _) hj.1, by simp [Job.late]⟩
theorem doors_b {j : Job} (hj : jobB j) (n : Int) : (j.doors n).adds.length ≤ 1000000 ∧ (j.doors n).gone.length ≤ 1000000 :=
  ⟨Nat.le_trans (kindL_len _ _) hj.1, Nat.le_trans (kindG_len _ _) hj.2.1⟩
theorem free_b {j : Job} (hj : jobB j) (n : Int) : (j.free n).adds.length ≤ 1000000 ∧ (j.free n).gone.length ≤ 1000000 :=
  ⟨by simp [Job.free], Nat.le_trans (List.length_filter_le _ _) (Nat.le_trans (kindG_len _ _) hj.2.1)⟩
theorem next_p (hv want : List Res) (held : List Key) (hh : OkRs hv) (hl : hv.length ≤ 1000000) (hw : want.length ≤ 100000) (ha : AscR want) (hd : held.length ≤ 1000000) : Ct Tryz.prog 61 [lst (hv.map resC), lst (want.map resC), lst (held.map keyC)] [] [] (.tup [st (stepC ((nextP hv want held).getD ⟨0, [], []⟩)), bool (nextP hv want held).isSome]) [] := by
  refine Ct.of_body Tryz.func61 rfl mixed (by rw [Tryz.ntmps61]; simp) (CW.seqScope mixed (Plain.retC _ _ _ _ _) rfl (CW.run 9999 400 rfl ?_))
  simp [Tryz.ntmps61, Tryz.results61]
  refine CW.callP (begin_p hv want held hh hl hw ha) Tryz.call125 rfl rfl rfl (by first | exact .inl rfl | exact .inr ⟨_, _, rfl, by simp⟩ | exact .inr ⟨_, _, rfl, by simp [*]⟩) rfl (by simp) rfl rfl (CW.runOps 9999 400 rfl ?_)
  simp [Tryz.ntmps61, Tryz.results61]
  refine CW.callP (phases_p (begin' hv want held)) Tryz.call126 rfl rfl rfl (by first | exact .inl rfl | exact .inr ⟨_, _, rfl, by simp⟩ | exact .inr ⟨_, _, rfl, by simp [*]⟩) rfl (by simp) rfl rfl (CW.runOps 9999 400 rfl ?_)
  simp [Tryz.ntmps61, Tryz.results61]
  have hn : nextP hv want held = (begin' hv want held).steps.find? fun s => !s.none := rfl
  have hj : jobB (begin' hv want held) := ⟨Nat.le_trans (diffA_len _ _) (by omega), Nat.le_trans (diffG_len _ _) hl, hl, hd⟩
  rw [hn]
  clear hn
  generalize begin' hv want held = j at hj ⊢
  refine LoopW.unroll mixed (Plain.retC _ _ _ _ _) rfl ?_
  refine CW.run 9999 400 rfl ?_
  simp [Tryz.ntmps61, Tryz.results61]
  refine LoopW.unroll mixed (Plain.retC _ _ _ _ _) rfl ?_
  refine CW.run 9999 400 rfl ?_
  simp [Tryz.ntmps61, Tryz.results61]
  refine CW.callF (FnOk.bnd (args := [int 3]) (first := [.pro (jobC j)]) (by exact early_p j 3 hj) Tryz.call191 rfl rfl) rfl rfl rfl (by first | exact .inl rfl | exact .inr ⟨_, _, rfl, by simp⟩ | exact .inr ⟨_, _, rfl, by simp [*]⟩) rfl (by simp) (CW.runOps 9999 400 rfl ?_)
  simp [Tryz.ntmps61, Tryz.results61]
  refine CW.callP (empty_p (j.early 3) (early_b hj 3)) Tryz.call127 rfl rfl rfl (by first | exact .inl rfl | exact .inr ⟨_, _, rfl, by simp⟩ | exact .inr ⟨_, _, rfl, by simp [*]⟩) rfl (by simp) rfl rfl (CW.runOps 9999 400 rfl ?_)
  simp [Tryz.ntmps61, Tryz.results61]
  refine run_br_split (fun h1 => ?_) (fun h1 => ?_) <;> simp only [h1] <;> simp [Tryz.ntmps61, Tryz.results61]
  · have h1' : (j.early 3).none = false := by simpa using h1
    have e : (j.steps.find? fun s => !s.none) = some (j.early 3) := by simp [Job.steps, List.find?_cons, h1']
    first | (exact fin0 (by simp [e]) rfl) | (refine ⟨by decide +kernel, ?_⟩; exact fin0 (by simp [e]) rfl)
  have h1' : (j.early 3).none = true := by simpa using h1
  refine LoopW.unroll mixed (Plain.retC _ _ _ _ _) rfl ?_
  refine CW.run 9999 400 rfl ?_
  simp [Tryz.ntmps61, Tryz.results61]
  refine CW.callF (FnOk.bnd (args := [int 2]) (first := [.pro (jobC j)]) (by exact early_p j 2 hj) Tryz.call191 rfl rfl) rfl rfl rfl (by first | exact .inl rfl | exact .inr ⟨_, _, rfl, by simp⟩ | exact .inr ⟨_, _, rfl, by simp [*]⟩) rfl (by simp) (CW.runOps 9999 400 rfl ?_)
  simp [Tryz.ntmps61, Tryz.results61]
  refine CW.callP (empty_p (j.early 2) (early_b hj 2)) Tryz.call127 rfl rfl rfl (by first | exact .inl rfl | exact .inr ⟨_, _, rfl, by simp⟩ | exact .inr ⟨_, _, rfl, by simp [*]⟩) rfl (by simp) rfl rfl (CW.runOps 9999 400 rfl ?_)
  simp [Tryz.ntmps61, Tryz.results61]
  refine run_br_split (fun h2 => ?_) (fun h2 => ?_) <;> simp only [h2] <;> simp [Tryz.ntmps61, Tryz.results61]
  · have h2' : (j.early 2).none = false := by simpa using h2
    have e : (j.steps.find? fun s => !s.none) = some (j.early 2) := by simp [Job.steps, List.find?_cons, h1', h2']
    first | (exact fin0 (by simp [e]) rfl) | (refine ⟨by decide +kernel, ?_⟩; exact fin0 (by simp [e]) rfl)
  have h2' : (j.early 2).none = true := by simpa using h2
  refine LoopW.unroll mixed (Plain.retC _ _ _ _ _) rfl ?_
  refine CW.run 9999 400 rfl ?_
  simp [Tryz.ntmps61, Tryz.results61]
  refine CW.callF (FnOk.bnd (args := [int 1]) (first := [.pro (jobC j)]) (by exact early_p j 1 hj) Tryz.call191 rfl rfl) rfl rfl rfl (by first | exact .inl rfl | exact .inr ⟨_, _, rfl, by simp⟩ | exact .inr ⟨_, _, rfl, by simp [*]⟩) rfl (by simp) (CW.runOps 9999 400 rfl ?_)
  simp [Tryz.ntmps61, Tryz.results61]
  refine CW.callP (empty_p (j.early 1) (early_b hj 1)) Tryz.call127 rfl rfl rfl (by first | exact .inl rfl | exact .inr ⟨_, _, rfl, by simp⟩ | exact .inr ⟨_, _, rfl, by simp [*]⟩) rfl (by simp) rfl rfl (CW.runOps 9999 400 rfl ?_)
  simp [Tryz.ntmps61, Tryz.results61]
  refine run_br_split (fun h3 => ?_) (fun h3 => ?_) <;> simp only [h3] <;> simp [Tryz.ntmps61, Tryz.results61]
  · have h3' : (j.early 1).none = false := by simpa using h3
    have e : (j.steps.find? fun s => !s.none) = some (j.early 1) := by simp [Job.steps, List.find?_cons, h1', h2', h3']
    first | (exact fin0 (by simp [e]) rfl) | (refine ⟨by decide +kernel, ?_⟩; exact fin0 (by simp [e]) rfl)
  have h3' : (j.early 1).none = true := by simpa using h3
  refine LoopW.unroll mixed (Plain.retC _ _ _ _ _) rfl ?_
  refine CW.run 9999 400 rfl ?_
  simp [Tryz.ntmps61, Tryz.results61]
  refine LoopW.unroll mixed (Plain.retC _ _ _ _ _) rfl ?_
  refine CW.run 9999 400 rfl ?_
  simp [Tryz.ntmps61, Tryz.results61]
  refine LoopW.unroll mixed (Plain.retC _ _ _ _ _) rfl ?_
  refine CW.run 9999 400 rfl ?_
  simp [Tryz.ntmps61, Tryz.results61]
  refine CW.callF (FnOk.bnd (args := [int 0]) (first := [.pro (jobC j)]) (by exact doors_p j 0 hj) Tryz.call192 rfl rfl) rfl rfl rfl (by first | exact .inl rfl | exact .inr ⟨_, _, rfl, by simp⟩ | exact .inr ⟨_, _, rfl, by simp [*]⟩) rfl (by simp) (CW.runOps 9999 400 rfl ?_)
  simp [Tryz.ntmps61, Tryz.results61]
  refine CW.callP (empty_p (j.doors 0) (doors_b hj 0)) Tryz.call127 rfl rfl rfl (by first | exact .inl rfl | exact .inr ⟨_, _, rfl, by simp⟩ | exact .inr ⟨_, _, rfl, by simp [*]⟩) rfl (by simp) rfl rfl (CW.runOps 9999 400 rfl ?_)
  simp [Tryz.ntmps61, Tryz.results61]
  refine run_br_split (fun h4 => ?_) (fun h4 => ?_) <;> simp only [h4] <;> simp [Tryz.ntmps61, Tryz.results61]
  · have h4' : (j.doors 0).none = false := by simpa using h4
    have e : (j.steps.find? fun s => !s.none) = some (j.doors 0) := by simp [Job.steps, List.find?_cons, h1', h2', h3', h4']
    first | (exact fin0 (by simp [e]) rfl) | (refine ⟨by decide +kernel, ?_⟩; exact fin0 (by simp [e]) rfl)
  have h4' : (j.doors 0).none = true := by simpa using h4
  refine LoopW.unroll mixed (Plain.retC _ _ _ _ _) rfl ?_
  refine CW.run 9999 400 rfl ?_
  simp [Tryz.ntmps61, Tryz.results61]
  refine LoopW.unroll mixed (Plain.retC _ _ _ _ _) rfl ?_
  refine CW.run 9999 400 rfl ?_
  simp [Tryz.ntmps61, Tryz.results61]
  refine LoopW.unroll mixed (Plain.retC _ _ _ _ _) rfl ?_
  refine CW.run 9999 400 rfl ?_
  simp [Tryz.ntmps61, Tryz.results61]
  refine CW.callF (FnOk.bnd (args := [int 3]) (first := [.pro (jobC j)]) (by exact late_p j 3 hj) Tryz.call193 rfl rfl) rfl rfl rfl (by first | exact .inl rfl | exact .inr ⟨_, _, rfl, by simp⟩ | exact .inr ⟨_, _, rfl, by simp [*]⟩) rfl (by simp) (CW.runOps 9999 400 rfl ?_)
  simp [Tryz.ntmps61, Tryz.results61]
  refine CW.callP (empty_p (j.late 3) (late_b hj 3)) Tryz.call127 rfl rfl rfl (by first | exact .inl rfl | exact .inr ⟨_, _, rfl, by simp⟩ | exact .inr ⟨_, _, rfl, by simp [*]⟩) rfl (by simp) rfl rfl (CW.runOps 9999 400 rfl ?_)
  simp [Tryz.ntmps61, Tryz.results61]
  refine run_br_split (fun h5 => ?_) (fun h5 => ?_) <;> simp only [h5] <;> simp [Tryz.ntmps61, Tryz.results61]
  · have h5' : (j.late 3).none = false := by simpa using h5
    have e : (j.steps.find? fun s => !s.none) = some (j.late 3) := by simp [Job.steps, List.find?_cons, h1', h2', h3', h4', h5']
    first | (exact fin0 (by simp [e]) rfl) | (refine ⟨by decide +kernel, ?_⟩; exact fin0 (by simp [e]) rfl)
  have h5' : (j.late 3).none = true := by simpa using h5
  refine LoopW.unroll mixed (Plain.retC _ _ _ _ _) rfl ?_
  refine CW.run 9999 400 rfl ?_
  simp [Tryz.ntmps61, Tryz.results61]
  refine CW.callF (FnOk.bnd (args := [int 2]) (first := [.pro (jobC j)]) (by exact late_p j 2 hj) Tryz.call193 rfl rfl) rfl rfl rfl (by first | exact .inl rfl | exact .inr ⟨_, _, rfl, by simp⟩ | exact .inr ⟨_, _, rfl, by simp [*]⟩) rfl (by simp) (CW.runOps 9999 400 rfl ?_)
  simp [Tryz.ntmps61, Tryz.results61]
  refine CW.callP (empty_p (j.late 2) (late_b hj 2)) Tryz.call127 rfl rfl rfl (by first | exact .inl rfl | exact .inr ⟨_, _, rfl, by simp⟩ | exact .inr ⟨_, _, rfl, by simp [*]⟩) rfl (by simp) rfl rfl (CW.runOps 9999 400 rfl ?_)
  simp [Tryz.ntmps61, Tryz.results61]
  refine run_br_split (fun h6 => ?_) (fun h6 => ?_) <;> simp only [h6] <;> simp [Tryz.ntmps61, Tryz.results61]
  · have h6' : (j.late 2).none = false := by simpa using h6
    have e : (j.steps.find? fun s => !s.none) = some (j.late 2) := by simp [Job.steps, List.find?_cons, h1', h2', h3', h4', h5', h6']
    first | (exact fin0 (by simp [e]) rfl) | (refine ⟨by decide +kernel, ?_⟩; exact fin0 (by simp [e]) rfl)
  have h6' : (j.late 2).none = true := by simpa using h6
  refine LoopW.unroll mixed (Plain.retC _ _ _ _ _) rfl ?_
  refine CW.run 9999 400 rfl ?_
  simp [Tryz.ntmps61, Tryz.results61]
  refine CW.callF (FnOk.bnd (args := [int 1]) (first := [.pro (jobC j)]) (by exact late_p j 1 hj) Tryz.call193 rfl rfl) rfl rfl rfl (by first | exact .inl rfl | exact .inr ⟨_, _, rfl, by simp⟩ | exact .inr ⟨_, _, rfl, by simp [*]⟩) rfl (by simp) (CW.runOps 9999 400 rfl ?_)
  simp [Tryz.ntmps61, Tryz.results61]
  refine CW.callP (empty_p (j.late 1) (late_b hj 1)) Tryz.call127 rfl rfl rfl (by first | exact .inl rfl | exact .inr ⟨_, _, rfl, by simp⟩ | exact .inr ⟨_, _, rfl, by simp [*]⟩) rfl (by simp) rfl rfl (CW.runOps 9999 400 rfl ?_)
  simp [Tryz.ntmps61, Tryz.results61]
  refine run_br_split (fun h7 => ?_) (fun h7 => ?_) <;> simp only [h7] <;> simp [Tryz.ntmps61, Tryz.results61]
  · have h7' : (j.late 1).none = false := by simpa using h7
    have e : (j.steps.find? fun s => !s.none) = some (j.late 1) := by simp [Job.steps, List.find?_cons, h1', h2', h3', h4', h5', h6', h7']
    first | (exact fin0 (by simp [e]) rfl) | (refine ⟨by decide +kernel, ?_⟩; exact fin0 (by simp [e]) rfl)
  have h7' : (j.late 1).none = true := by simpa using h7
  refine LoopW.unroll mixed (Plain.retC _ _ _ _ _) rfl ?_
  refine CW.run 9999 400 rfl ?_
  simp [Tryz.ntmps61, Tryz.results61]
  refine LoopW.unroll mixed (Plain.retC _ _ _ _ _) rfl ?_
  refine CW.run 9999 400 rfl ?_
  simp [Tryz.ntmps61, Tryz.results61]
  refine LoopW.unroll mixed (Plain.retC _ _ _ _ _) rfl ?_
  refine CW.run 9999 400 rfl ?_
  simp [Tryz.ntmps61, Tryz.results61]
  refine CW.callF (FnOk.bnd (args := [int 1]) (first := [.pro (jobC j)]) (by exact jfree_p j 1 hj) Tryz.call194 rfl rfl) rfl rfl rfl (by first | exact .inl rfl | exact .inr ⟨_, _, rfl, by simp⟩ | exact .inr ⟨_, _, rfl, by simp [*]⟩) rfl (by simp) (CW.runOps 9999 400 rfl ?_)
  simp [Tryz.ntmps61, Tryz.results61]
  refine CW.callP (empty_p (j.free 1) (free_b hj 1)) Tryz.call127 rfl rfl rfl (by first | exact .inl rfl | exact .inr ⟨_, _, rfl, by simp⟩ | exact .inr ⟨_, _, rfl, by simp [*]⟩) rfl (by simp) rfl rfl (CW.runOps 9999 400 rfl ?_)
  simp [Tryz.ntmps61, Tryz.results61]
  refine run_br_split (fun h8 => ?_) (fun h8 => ?_) <;> simp only [h8] <;> simp [Tryz.ntmps61, Tryz.results61]
  · have h8' : (j.free 1).none = false := by simpa using h8
    have e : (j.steps.find? fun s => !s.none) = some (j.free 1) := by simp [Job.steps, List.find?_cons, h1', h2', h3', h4', h5', h6', h7', h8']
    first | (exact fin0 (by simp [e]) rfl) | (refine ⟨by decide +kernel, ?_⟩; exact fin0 (by simp [e]) rfl)
  have h8' : (j.free 1).none = true := by simpa using h8
  refine LoopW.unroll mixed (Plain.retC _ _ _ _ _) rfl ?_
  refine CW.run 9999 400 rfl ?_
  simp [Tryz.ntmps61, Tryz.results61]
  refine CW.callF (FnOk.bnd (args := [int 2]) (first := [.pro (jobC j)]) (by exact jfree_p j 2 hj) Tryz.call194 rfl rfl) rfl rfl rfl (by first | exact .inl rfl | exact .inr ⟨_, _, rfl, by simp⟩ | exact .inr ⟨_, _, rfl, by simp [*]⟩) rfl (by simp) (CW.runOps 9999 400 rfl ?_)
  simp [Tryz.ntmps61, Tryz.results61]
  refine CW.callP (empty_p (j.free 2) (free_b hj 2)) Tryz.call127 rfl rfl rfl (by first | exact .inl rfl | exact .inr ⟨_, _, rfl, by simp⟩ | exact .inr ⟨_, _, rfl, by simp [*]⟩) rfl (by simp) rfl rfl (CW.runOps 9999 400 rfl ?_)
  simp [Tryz.ntmps61, Tryz.results61]
  refine run_br_split (fun h9 => ?_) (fun h9 => ?_) <;> simp only [h9] <;> simp [Tryz.ntmps61, Tryz.results61]
  · have h9' : (j.free 2).none = false := by simpa using h9
    have e : (j.steps.find? fun s => !s.none) = some (j.free 2) := by simp [Job.steps, List.find?_cons, h1', h2', h3', h4', h5', h6', h7', h8', h9']
    first | (exact fin0 (by simp [e]) rfl) | (refine ⟨by decide +kernel, ?_⟩; exact fin0 (by simp [e]) rfl)
  have h9' : (j.free 2).none = true := by simpa using h9
  refine LoopW.unroll mixed (Plain.retC _ _ _ _ _) rfl ?_
  refine CW.run 9999 400 rfl ?_
  simp [Tryz.ntmps61, Tryz.results61]
  refine CW.callF (FnOk.bnd (args := [int 3]) (first := [.pro (jobC j)]) (by exact jfree_p j 3 hj) Tryz.call194 rfl rfl) rfl rfl rfl (by first | exact .inl rfl | exact .inr ⟨_, _, rfl, by simp⟩ | exact .inr ⟨_, _, rfl, by simp [*]⟩) rfl (by simp) (CW.runOps 9999 400 rfl ?_)
  simp [Tryz.ntmps61, Tryz.results61]
  refine CW.callP (empty_p (j.free 3) (free_b hj 3)) Tryz.call127 rfl rfl rfl (by first | exact .inl rfl | exact .inr ⟨_, _, rfl, by simp⟩ | exact .inr ⟨_, _, rfl, by simp [*]⟩) rfl (by simp) rfl rfl (CW.runOps 9999 400 rfl ?_)
  simp [Tryz.ntmps61, Tryz.results61]
  refine run_br_split (fun h10 => ?_) (fun h10 => ?_) <;> simp only [h10] <;> simp [Tryz.ntmps61, Tryz.results61]
  · have h10' : (j.free 3).none = false := by simpa using h10
    have e : (j.steps.find? fun s => !s.none) = some (j.free 3) := by simp [Job.steps, List.find?_cons, h1', h2', h3', h4', h5', h6', h7', h8', h9', h10']
    first | (exact fin0 (by simp [e]) rfl) | (refine ⟨by decide +kernel, ?_⟩; exact fin0 (by simp [e]) rfl)
  have h10' : (j.free 3).none = true := by simpa using h10
  refine LoopW.unroll mixed (Plain.retC _ _ _ _ _) rfl ?_
  refine CW.run 9999 400 rfl ?_
  simp [Tryz.ntmps61, Tryz.results61]
  refine LoopW.unroll mixed (Plain.retC _ _ _ _ _) rfl ?_
  refine CW.run 9999 400 rfl ?_
  simp [Tryz.ntmps61, Tryz.results61]
  have e : (j.steps.find? fun s => !s.none) = none := by simp [Job.steps, List.find?_cons, h1', h2', h3', h4', h5', h6', h7', h8', h9', h10']
  first | (exact fin0 (by simp [e]) rfl) | (refine ⟨by decide +kernel, ?_⟩; exact fin0 (by simp [e]) rfl)
end Go.Proofs.YtbmnaehodmgibaaGreatDoor
end
section
namespace Go.Proofs.YtbmnaehodmgibaaGreatDoor
open Go.AI Go.G
set_option maxRecDepth 20000
theorem frame1_s (f : G.Frame) (hl : f.have_.length ≤ 1000000) : Ct Tryz.prog 16 [st (frameC f)] [] [] (st (frameC f)) [] := by
  refine Ct.of_body Tryz.func16 rfl mixed (by rw [Tryz.ntmps16]; simp) (CW.run 9999 400 rfl ?_)
  simp [Tryz.ntmps16, Tryz.results16]
  refine LoopW.nilCell 1408 8 3 128 46 _ rfl rfl ?_
  refine LoopW.inv mixed (Plain.retC _ _ _ _ _) rfl (ι := {k : Nat // k ≤ (f.have_).length}) (fun k => [(1, .ptr 64 0), (2, .ptr 65 0), (3, .ptr 66 0), (4, int k.1)]) (fun k => [(64, .cells ((frameC f).map .d) 31), (65, .cells ((frameC zFrame).map .d) 46), (66, .cells [int f.type, int f.epoch, int f.kind, int f.nonce, int f.turn, lst (f.adds.map resC), lst (f.gone.map keyC), int f.err, .own 67, lst (f.held.map keyC)] 46), (67, .grow 3 ((f.have_.take k.1).map markC) 128)]) 68 (fun k => (f.have_).length - k.1) ⟨0, by omega⟩ [] (by constructor <;> simp [zFrame]) ?_
  rintro ⟨k, hk1⟩ B hB
  refine CW.run 9999 400 rfl ?_
  simp [zFrame, Tryz.ntmps16, Tryz.results16]
  refine run_br_split (fun h => ?_) (fun h => ?_)
  · have hk : k < (f.have_).length := by simpa using h
    have hr : (f.have_)[k]? = some (f.have_)[k] := List.getElem?_eq_getElem hk
    have hm : (f.have_)[k] ∈ (f.have_) := List.getElem_mem hk
    have ht : (f.have_).take (k + 1) = (f.have_).take k ++ [(f.have_)[k]] := by rw [List.take_add_one, hr]; rfl
    have hd : (f.have_).drop k = (f.have_)[k] :: (f.have_).drop (k + 1) := List.drop_eq_getElem_cons hk
    have hw : IntKind.wrap .i64 ((k : Int) + 1) = k + 1 := wrap_i64 (by omega) (by omega)
    obtain ⟨x, hx⟩ : ∃ x0, (f.have_)[k] = x0 := ⟨_, rfl⟩
    rw [hx] at hr hm ht hd
    simp only [h]
    simp [hr, hw, Tryz.ntmps16, Tryz.results16]
    refine ⟨by omega, ?_⟩
    refine ⟨by decide +kernel, ?_⟩
    refine hB _ ⟨k + 1, by omega⟩ [] ?_ (by simp; omega)
    constructor <;> simp [hw, ht, zFrame]
  · have hkl : k = (f.have_).length := by simp at h; omega
    subst hkl
    simp only [h]
    simp [List.take_length, List.drop_length, Tryz.ntmps16, Tryz.results16]
    have e : List.take f.have_.length (List.map markC f.have_) = List.map markC f.have_ := by rw [← List.map_take, List.take_length]
    first | (exact fin0 (by simp [e]) rfl) | (refine ⟨by decide +kernel, ?_⟩; exact fin0 (by simp [e]) rfl)
theorem plain_s (f : G.Frame) (hl : f.have_.length ≤ 1000000) : Ct Tryz.prog 82 [st (frameC f)] [] [] (st (frameC f)) [] := by
  refine Ct.of_body Tryz.func82 rfl mixed (by rw [Tryz.ntmps82]; simp) (CW.run 9999 400 rfl ?_)
  simp [Tryz.ntmps82, Tryz.results82]
  refine LoopW.nilCell 1408 8 3 122 31 _ rfl rfl ?_
  refine LoopW.inv mixed (Plain.retC _ _ _ _ _) rfl (ι := {k : Nat // k ≤ (f.have_).length}) (fun k => [(1, .ptr 64 0), (2, .ptr 65 0), (3, .ptr 66 0), (4, int k.1)]) (fun k => [(64, .cells ((frameC f).map .d) 46), (65, .cells ((frameC zFrame).map .d) 31), (66, .cells [int f.type, int f.epoch, int f.kind, int f.nonce, int f.turn, lst (f.adds.map resC), lst (f.gone.map keyC), int f.err, .own 67, lst (f.held.map keyC)] 31), (67, .grow 3 ((f.have_.take k.1).map markC) 122)]) 68 (fun k => (f.have_).length - k.1) ⟨0, by omega⟩ [] (by constructor <;> simp [zFrame]) ?_
  rintro ⟨k, hk1⟩ B hB
  refine CW.run 9999 400 rfl ?_
  simp [zFrame, Tryz.ntmps82, Tryz.results82]
  refine run_br_split (fun h => ?_) (fun h => ?_)
  · have hk : k < (f.have_).length := by simpa using h
    have hr : (f.have_)[k]? = some (f.have_)[k] := List.getElem?_eq_getElem hk
    have hm : (f.have_)[k] ∈ (f.have_) := List.getElem_mem hk
    have ht : (f.have_).take (k + 1) = (f.have_).take k ++ [(f.have_)[k]] := by rw [List.take_add_one, hr]; rfl
    have hd : (f.have_).drop k = (f.have_)[k] :: (f.have_).drop (k + 1) := List.drop_eq_getElem_cons hk
    have hw : IntKind.wrap .i64 ((k : Int) + 1) = k + 1 := wrap_i64 (by omega) (by omega)
    obtain ⟨x, hx⟩ : ∃ x0, (f.have_)[k] = x0 := ⟨_, rfl⟩
    rw [hx] at hr hm ht hd
    simp only [h]
    simp [hr, hw, Tryz.ntmps82, Tryz.results82]
    refine ⟨by omega, ?_⟩
    refine ⟨by decide +kernel, ?_⟩
    refine hB _ ⟨k + 1, by omega⟩ [] ?_ (by simp; omega)
    constructor <;> simp [hw, ht, zFrame]
  · have hkl : k = (f.have_).length := by simp at h; omega
    subst hkl
    simp only [h]
    simp [List.take_length, List.drop_length, Tryz.ntmps82, Tryz.results82]
    have e : List.take f.have_.length (List.map markC f.have_) = List.map markC f.have_ := by rw [← List.map_take, List.take_length]
    first | (exact fin0 (by simp [e]) rfl) | (refine ⟨by decide +kernel, ?_⟩; exact fin0 (by simp [e]) rfl)
theorem view1_s (v : View) (hl : v.push.have_.length ≤ 1000000) : Ct Tryz.prog 54 [st (viewC v)] [] [] (st (viewC v)) [] := by
  refine Ct.of_body Tryz.func54 rfl mixed (by rw [Tryz.ntmps54]; simp) (CW.run 9999 400 rfl ?_)
  simp [Tryz.ntmps54, Tryz.results54]
  refine CW.callP (frame1_s v.push hl) Tryz.call16 rfl rfl rfl (by first | exact .inl rfl | exact .inr ⟨_, _, rfl, by simp⟩ | exact .inr ⟨_, _, rfl, by simp [*]⟩) rfl (by simp) rfl rfl (CW.runOps 9999 400 rfl ?_)
  simp [Tryz.ntmps54, Tryz.results54]
  refine ⟨by decide +kernel, ?_⟩
  first | (exact fin0 (by simp) rfl) | (refine ⟨by decide +kernel, ?_⟩; exact fin0 (by simp) rfl)
theorem sess_l (s : Sess) (hl : s.v.push.have_.length ≤ 1000000) : Ct Tryz.prog 13 [st (sessC s)] [] [] (st (sessC s)) [] := by
  refine Ct.of_body Tryz.func13 rfl mixed (by rw [Tryz.ntmps13]; simp) (CW.run 9999 400 rfl ?_)
  simp [Tryz.ntmps13, Tryz.results13]
  refine CW.callP (view1_s s.v hl) Tryz.call54 rfl rfl rfl (by first | exact .inl rfl | exact .inr ⟨_, _, rfl, by simp⟩ | exact .inr ⟨_, _, rfl, by simp [*]⟩) rfl (by simp) rfl rfl (CW.runOps 9999 400 rfl ?_)
  simp [Tryz.ntmps13, Tryz.results13]
  refine ⟨by decide +kernel, ?_⟩
  first | (exact fin0 (by simp) rfl) | (refine ⟨by decide +kernel, ?_⟩; exact fin0 (by simp) rfl)
theorem store_l (s : Store) : Ct Tryz.prog 15 [st (storeC s)] [] [] (st (storeC s)) [] := by
  refine Ct.of_body Tryz.func15 rfl mixed (by rw [Tryz.ntmps15]; simp) (CW.run 9999 400 rfl ?_)
  simp [Tryz.ntmps15, Tryz.results15]
  first | (exact fin0 (by simp) rfl) | (refine ⟨by decide +kernel, ?_⟩; exact fin0 (by simp) rfl)
theorem few20_l (s : Sess) (p : Store) (hs : OkSess s) (hp : OkStore p) : Ct Tryz.prog 10 [st (sessC s), st (storeC p)] [] [] (bool (fewS 10 p && fewV s.v)) [] := by
  refine Ct.of_body Tryz.func10 rfl mixed (by rw [Tryz.ntmps10]; simp) (CW.run 9999 400 rfl ?_)
  simp [Tryz.ntmps10, Tryz.results10]
  have hh := hp.len
  refine LoopW.inv mixed (Plain.retC _ _ _ _ _) rfl (ι := {k : Nat // k ≤ (p.hist).length ∧ (p.hist.take k).all fewL = true}) (fun k => [(2, .ptr 64 0), (3, .ptr 65 0), (5, int k.1)]) (fun k => [(64, .cells ((sessC s).map .d) 35), (65, .cells ((storeC p).map .d) 38)]) 66 (fun k => (p.hist).length - k.1) ⟨0, by omega, by simp⟩ [] (by constructor <;> simp) ?_
  rintro ⟨k, hk1, hi⟩ B hB
  refine CW.run 9999 400 rfl ?_
  simp [Tryz.ntmps10, Tryz.results10]
  refine run_br_split (fun h => ?_) (fun h => ?_)
  · have hk : k < (p.hist).length := by simpa using h
    have hr : (p.hist)[k]? = some (p.hist)[k] := List.getElem?_eq_getElem hk
    have hm : (p.hist)[k] ∈ (p.hist) := List.getElem_mem hk
    have ht : (p.hist).take (k + 1) = (p.hist).take k ++ [(p.hist)[k]] := by rw [List.take_add_one, hr]; rfl
    have hd : (p.hist).drop k = (p.hist)[k] :: (p.hist).drop (k + 1) := List.drop_eq_getElem_cons hk
    have hw : IntKind.wrap .i64 ((k : Int) + 1) = k + 1 := wrap_i64 (by omega) (by omega)
    obtain ⟨x, hx⟩ : ∃ x0, (p.hist)[k] = x0 := ⟨_, rfl⟩
    rw [hx] at hr hm ht hd
    simp only [h]
    simp [hr, hw, Tryz.ntmps10, Tryz.results10]
    refine CW.callP (few_r x (hp.all x hm)) Tryz.call49 rfl rfl rfl (by first | exact .inl rfl | exact .inr ⟨_, _, rfl, by simp⟩ | exact .inr ⟨_, _, rfl, by simp [*]⟩) rfl (by simp) rfl rfl (CW.runOps 9999 400 rfl ?_)
    simp [Tryz.ntmps10, Tryz.results10]
    refine run_br_split (fun h1 => ?_) (fun h1 => ?_) <;> simp only [h1] <;> simp [Tryz.ntmps10, Tryz.results10] <;> (try simp only [Bool.not_eq_true', Bool.not_eq_false', decide_eq_true_eq, decide_eq_false_iff_not] at h1)
    · have e : p.hist.all fewL = false := by rw [List.all_eq_false]; exact ⟨x, hm, by simp [h1]⟩
      first | (exact fin0 (by simp [fewS, e]) rfl) | (refine ⟨by decide +kernel, ?_⟩; exact fin0 (by simp [fewS, e]) rfl)
    · refine hB _ ⟨k + 1, by omega, by simp [ht, hi, h1]⟩ [] ?_ (by simp; omega)
      constructor <;> simp [hw, ht, h1]
  · have hkl : k = (p.hist).length := by simp at h; omega
    subst hkl
    simp only [h]
    simp [List.take_length, List.drop_length, Tryz.ntmps10, Tryz.results10]
    rw [List.take_length] at hi
    refine CW.callP (fewV_r s.v hs.v) Tryz.call50 rfl rfl rfl (by first | exact .inl rfl | exact .inr ⟨_, _, rfl, by simp⟩ | exact .inr ⟨_, _, rfl, by simp [*]⟩) rfl (by simp) rfl rfl (CW.runOps 9999 400 rfl ?_)
    simp [Tryz.ntmps10, Tryz.results10]
    refine run_gd_split (fun h2 => ?_) (fun h2 => ?_) <;> simp only [h2] <;> simp [Tryz.ntmps10, Tryz.results10] <;> (try simp only [Bool.not_eq_true', Bool.not_eq_false', decide_eq_true_eq, decide_eq_false_iff_not] at h2)
    · by_cases c1 : p.hist.length ≤ 10
      · have c1' : (p.hist.length : Int) ≤ 10 := by omega
        first | (exact fin0 (by simp [fewS, hi, c1, c1', h2]) rfl) | (refine ⟨by decide +kernel, ?_⟩; exact fin0 (by simp [fewS, hi, c1, c1', h2]) rfl)
      · have c1' : ¬ (p.hist.length : Int) ≤ 10 := by omega
        first | (exact fin0 (by simp [fewS, hi, c1, c1', h2]) rfl) | (refine ⟨by decide +kernel, ?_⟩; exact fin0 (by simp [fewS, hi, c1, c1', h2]) rfl)
    · first | (exact fin0 (by simp [fewS, hi, h2]) rfl) | (refine ⟨by decide +kernel, ?_⟩; exact fin0 (by simp [fewS, hi, h2]) rfl)
end Go.Proofs.YtbmnaehodmgibaaGreatDoor
end
section
namespace Go.Proofs.YtbmnaehodmgibaaGreatDoor
open Go.AI Go.G
set_option maxRecDepth 20000
theorem pump_s (s : Sess) (p : Store) (hs : OkSess s) (hl : s.v.have_.length ≤ 1000000) (hpl : p.hist.length ≤ 1000000) (hx : idle (soundS s) p = false → AscR (nowL p) ∧ (nowL p).length ≤ 100000) : Ct Tryz.prog 21 [st (sessC s), st (storeC p)] [] [] (.tup [st (sessC (pump s p).1), lst ((pump s p).2.1.map frameC), int (pump s p).2.2]) [] := by
  refine Ct.of_body Tryz.func21 rfl mixed (by rw [Tryz.ntmps21]; simp) (CW.run 9999 400 rfl ?_)
  simp [Tryz.ntmps21, Tryz.results21]
  refine CW.callP (soundS_p s hs hl) Tryz.call55 rfl rfl rfl (by first | exact .inl rfl | exact .inr ⟨_, _, rfl, by simp⟩ | exact .inr ⟨_, _, rfl, by simp [*]⟩) rfl (by simp) rfl rfl (CW.runOps 9999 400 rfl ?_)
  simp [Tryz.ntmps21, Tryz.results21]
  have hq0 := soundS_sane s
  have hqo := soundS_ok hs
  have hh : pump s p = pumpQ (soundS s) p := rfl
  rw [hh]
  clear hh
  generalize soundS s = q at hq0 hqo hx ⊢
  have S := saneS_iff.1 hq0
  have b1 := S.hl
  have b2 := S.dl
  refine CW.callP (now_p p hpl) Tryz.call34 rfl rfl rfl (by first | exact .inl rfl | exact .inr ⟨_, _, rfl, by simp⟩ | exact .inr ⟨_, _, rfl, by simp [*]⟩) rfl (by simp) rfl rfl (CW.runOps 9999 400 rfl ?_)
  simp [Tryz.ntmps21, Tryz.results21]
  refine run_gd_split (fun h1 => ?_) (fun h1 => ?_) <;> simp only [h1] <;> simp [Tryz.ntmps21, Tryz.results21]
  · have hi : idle q p = true := by
      have : q.greeted = false := by simpa using h1
      simp [idle, this]
    first | (exact fin0 (by simp [pumpQ, hi]) rfl) | (refine ⟨by decide +kernel, ?_⟩; exact fin0 (by simp [pumpQ, hi]) rfl)
  have h1' : q.greeted = true := by simpa using h1
  refine run_gd_split (fun h2 => ?_) (fun h2 => ?_) <;> simp only [h2] <;> simp [Tryz.ntmps21, Tryz.results21]
  · have hi : idle q p = true := by simp [idle, h2]
    first | (exact fin0 (by simp [pumpQ, hi, h2]) rfl) | (refine ⟨by decide +kernel, ?_⟩; exact fin0 (by simp [pumpQ, hi, h2]) rfl)
  refine run_gd_split (fun h3 => ?_) (fun h3 => ?_) <;> simp only [h3] <;> simp [Tryz.ntmps21, Tryz.results21]
  · have h3' : ¬ q.stuck = 0 := by simpa using h3
    refine run_br_split (fun h4 => ?_) (fun h4 => ?_) <;> simp only [h4] <;> simp [Tryz.ntmps21, Tryz.results21]
    · have h4' : q.at_ = nowI p := by simpa [nowI] using h4
      have hi : idle q p = true := by simp [idle, h3', h4']
      first | (exact fin0 (by simp [pumpQ, hi, h2]) rfl) | (refine ⟨by decide +kernel, ?_⟩; exact fin0 (by simp [pumpQ, hi, h2]) rfl)
    have h4' : ¬ q.at_ = nowI p := by simpa [nowI] using h4
    have hi : idle q p = false := by simp [idle, h1', h2, h4']
    obtain ⟨ha, hw⟩ := hx hi
    refine CW.callP (next_p q.v.have_ (nowL p) q.v.held hqo.v.have_ (by omega) hw ha (by omega)) Tryz.call61 rfl rfl rfl (by first | exact .inl rfl | exact .inr ⟨_, _, rfl, by simp⟩ | exact .inr ⟨_, _, rfl, by simp [*]⟩) rfl (by simp [nowL]) rfl rfl (CW.runOps 9999 400 rfl ?_)
    simp [nowL, Tryz.ntmps21, Tryz.results21]
    rcases hn : nextP q.v.have_ (lastS (takenS p)) q.v.held with _ | x
    · simp [Tryz.ntmps21, Tryz.results21]
      first | (exact fin0 (by simp [pumpQ, hi, h2, nowL, hn]) rfl) | (refine ⟨by decide +kernel, ?_⟩; exact fin0 (by simp [pumpQ, hi, h2, nowL, hn]) rfl)
    · simp [Tryz.ntmps21, Tryz.results21]
      refine CW.callP (npush_p q.out x.kind) Tryz.call62 rfl rfl rfl (by first | exact .inl rfl | exact .inr ⟨_, _, rfl, by simp⟩ | exact .inr ⟨_, _, rfl, by simp [*]⟩) rfl (by simp) rfl rfl (CW.runOps 9999 400 rfl ?_)
      simp [Tryz.ntmps21, Tryz.results21]
      refine run_br_split (fun h5 => ?_) (fun h5 => ?_) <;> simp only [h5] <;> simp [Tryz.ntmps21, Tryz.results21] <;> (try simp only [Bool.not_eq_true', Bool.not_eq_false', decide_eq_true_eq, decide_eq_false_iff_not] at h5)
      · first | (exact fin0 (by simp [pumpQ, hi, h2, nowL, hn, pumpS, h5]) rfl) | (refine ⟨by decide +kernel, ?_⟩; exact fin0 (by simp [pumpQ, hi, h2, nowL, hn, pumpS, h5]) rfl)
      · refine CW.callP (sent_p q.v (pushF q x (Nonce.push q.out x.kind).2.1)) Tryz.call63 rfl rfl rfl (by first | exact .inl rfl | exact .inr ⟨_, _, rfl, by simp⟩ | exact .inr ⟨_, _, rfl, by simp [*]⟩) rfl (by simp [pushF, h2]) rfl rfl (CW.runOps 9999 400 rfl ?_)
        simp [pushF, h2, Tryz.ntmps21, Tryz.results21]
        refine ⟨by decide +kernel, ?_⟩
        first | (exact fin0 (by simp [pumpQ, hi, h2, nowL, hn, pumpS, h5, pushF, sentV]) rfl) | (refine ⟨by decide +kernel, ?_⟩; exact fin0 (by simp [pumpQ, hi, h2, nowL, hn, pumpS, h5, pushF, sentV]) rfl)
  · have h3' : q.stuck = 0 := by simpa using h3
    have hi : idle q p = false := by simp [idle, h1', h2, h3']
    obtain ⟨ha, hw⟩ := hx hi
    refine CW.callP (next_p q.v.have_ (nowL p) q.v.held hqo.v.have_ (by omega) hw ha (by omega)) Tryz.call61 rfl rfl rfl (by first | exact .inl rfl | exact .inr ⟨_, _, rfl, by simp⟩ | exact .inr ⟨_, _, rfl, by simp [*]⟩) rfl (by simp [nowL]) rfl rfl (CW.runOps 9999 400 rfl ?_)
    simp [nowL, Tryz.ntmps21, Tryz.results21]
    rcases hn : nextP q.v.have_ (lastS (takenS p)) q.v.held with _ | x
    · simp [Tryz.ntmps21, Tryz.results21]
      first | (exact fin0 (by simp [pumpQ, hi, h2, nowL, hn]) rfl) | (refine ⟨by decide +kernel, ?_⟩; exact fin0 (by simp [pumpQ, hi, h2, nowL, hn]) rfl)
    · simp [Tryz.ntmps21, Tryz.results21]
      refine CW.callP (npush_p q.out x.kind) Tryz.call62 rfl rfl rfl (by first | exact .inl rfl | exact .inr ⟨_, _, rfl, by simp⟩ | exact .inr ⟨_, _, rfl, by simp [*]⟩) rfl (by simp) rfl rfl (CW.runOps 9999 400 rfl ?_)
      simp [Tryz.ntmps21, Tryz.results21]
      refine run_br_split (fun h5 => ?_) (fun h5 => ?_) <;> simp only [h5] <;> simp [Tryz.ntmps21, Tryz.results21] <;> (try simp only [Bool.not_eq_true', Bool.not_eq_false', decide_eq_true_eq, decide_eq_false_iff_not] at h5)
      · first | (exact fin0 (by simp [pumpQ, hi, h2, nowL, hn, pumpS, h5]) rfl) | (refine ⟨by decide +kernel, ?_⟩; exact fin0 (by simp [pumpQ, hi, h2, nowL, hn, pumpS, h5]) rfl)
      · refine CW.callP (sent_p q.v (pushF q x (Nonce.push q.out x.kind).2.1)) Tryz.call63 rfl rfl rfl (by first | exact .inl rfl | exact .inr ⟨_, _, rfl, by simp⟩ | exact .inr ⟨_, _, rfl, by simp [*]⟩) rfl (by simp [pushF, h2]) rfl rfl (CW.runOps 9999 400 rfl ?_)
        simp [pushF, h2, Tryz.ntmps21, Tryz.results21]
        refine ⟨by decide +kernel, ?_⟩
        first | (exact fin0 (by simp [pumpQ, hi, h2, nowL, hn, pumpS, h5, pushF, sentV]) rfl) | (refine ⟨by decide +kernel, ?_⟩; exact fin0 (by simp [pumpQ, hi, h2, nowL, hn, pumpS, h5, pushF, sentV]) rfl)
theorem resend_s (s : Sess) (hs : OkSess s) (hl : s.v.have_.length ≤ 1000000) : Ct Tryz.prog 28 [st (sessC s)] [] [] (lst ((resendF s).map frameC)) [] := by
  refine Ct.of_body Tryz.func28 rfl mixed (by rw [Tryz.ntmps28]; simp) (CW.run 9999 400 rfl ?_)
  simp [Tryz.ntmps28, Tryz.results28]
  refine CW.callP (soundS_p s hs hl) Tryz.call55 rfl rfl rfl (by first | exact .inl rfl | exact .inr ⟨_, _, rfl, by simp⟩ | exact .inr ⟨_, _, rfl, by simp [*]⟩) rfl (by simp) rfl rfl (CW.runOps 9999 400 rfl ?_)
  simp [Tryz.ntmps28, Tryz.results28]
  refine run_br_split (fun h1 => ?_) (fun h1 => ?_) <;> simp only [h1] <;> simp [Tryz.ntmps28, Tryz.results28]
  · have h1' : (soundS s).v.open_ = false := by simpa using h1
    first | (exact fin0 (by simp [resendF, h1']) rfl) | (refine ⟨by decide +kernel, ?_⟩; exact fin0 (by simp [resendF, h1']) rfl)
  · have h1' : (soundS s).v.open_ = true := by simpa using h1
    first | (exact fin0 (by simp [resendF, h1']) rfl) | (refine ⟨by decide +kernel, ?_⟩; exact fin0 (by simp [resendF, h1']) rfl)
end Go.Proofs.YtbmnaehodmgibaaGreatDoor
end
section
namespace Go.G
open Go.AI
end Go.G
namespace Go.Proofs.YtbmnaehodmgibaaGreatDoor
open Go.AI Go.G
set_option maxRecDepth 20000
end Go.Proofs.YtbmnaehodmgibaaGreatDoor
end
section
namespace Go.Proofs.YtbmnaehodmgibaaGreatDoor
open Go.AI Go.G
set_option maxRecDepth 20000
theorem xSess_ok (e m : Int) : OkSess (newSess e m) := ⟨zView_ok⟩
theorem xP_ok : OkStore xP := ⟨by simp [xP], by simp [xP]; exact ⟨⟨by simp, by simp⟩, ⟨by simp, by simp [xC, xE]; exact ⟨⟨by decide, by decide, by simp, by simp, by simp⟩, ⟨by decide, by decide, by simp, by simp, by simp⟩⟩⟩⟩⟩
theorem xF_ok : OkFrame xF := ⟨⟨by simp [xF], by simp [xF]⟩, by simp [xF], by simp [xF], by simp [xF]⟩
theorem xG_ok : OkFrame xG := ⟨⟨by simp [xG], by simp [xG, xE]; exact ⟨by decide, by decide, by simp, by simp, by simp⟩⟩, by simp [xG], by simp [xG], by simp [xG]⟩
theorem xS_ok : OkSess xS := ⟨zView_ok⟩
theorem xT_ok : OkSess xT := ⟨⟨by simp [xT], by simp [xT]⟩, by simp [xT], xG_ok⟩
theorem awake20 : CtJ errG Tryz.prog 9 [] [] [] (bool true) [] := by
  refine CtJ.of_body errK Tryz.func9 rfl mixed (by rw [Tryz.ntmps9]; simp) (CI.run 9999 400 rfl ?_)
  simp [Tryz.ntmps9, Tryz.results9]
  have ht : takenS (newS 9) = newS 9 := sane_taken (sane_new 9)
  have p1 := Propose_p (newS 9) [xC, xE] [] (by simp [newS]) (by rw [ht]; exact ⟨by simp [newS, lastS], by simp [newS, lastS]⟩) (by rw [ht]; simp [newS, lastS]) (by simp)
  rw [ht, w1, w2] at p1
  have p2 := handle_s (newSess 4 9) xP xF (xSess_ok 4 9) (by simp [newSess, zView]) xF_ok xP_ok (by simp [xP])
  rw [w3] at p2
  have p3 := pump_s xS xP xS_ok (by simp [xS, zView]) (by simp [xP]) (fun _ => w8)
  rw [w4] at p3
  have p4 := resend_s xT xT_ok (by simp [xT])
  rw [w5] at p4
  have p5 := saneS_p xT xT_ok (by simp [xT])
  rw [w6] at p5
  have g1 : xS.greeted = true := rfl
  have g2 : xG.kind = 3 := rfl
  have g3 : xT.v.open_ = true := rfl
  refine CI.callP (newS_p 9) Tryz.call48 rfl rfl rfl (by first | exact .inl rfl | exact .inr ⟨_, _, rfl, by simp⟩ | exact .inr ⟨_, _, rfl, by simp [*]⟩) rfl (by simp) rfl rfl (CI.runOps 9999 400 rfl ?_)
  simp [Tryz.ntmps9, Tryz.results9]
  refine CI.callJG errK [320] [] (p1 ) Tryz.call47 rfl rfl rfl (by first | exact .inl rfl | exact .inr ⟨_, _, rfl, by simp⟩ | exact .inr ⟨_, _, rfl, by simp [*]⟩) rfl (by simp [giveT, xC, xE]) (by constructor <;> simp [nmOk]) (by simp [gvB, xC, xE]) (by simp) (CI.runOps 9999 400 rfl ?_)
  simp [xC, xE, Tryz.ntmps9, Tryz.results9]
  refine CI.callP (newSess_p 4 9) Tryz.call20 rfl rfl rfl (by first | exact .inl rfl | exact .inr ⟨_, _, rfl, by simp⟩ | exact .inr ⟨_, _, rfl, by simp [*]⟩) rfl (by simp) rfl rfl (CI.runOps 9999 400 rfl ?_)
  simp [Tryz.ntmps9, Tryz.results9]
  refine CI.callP (p2 ) Tryz.call14 rfl rfl rfl (by first | exact .inl rfl | exact .inr ⟨_, _, rfl, by simp⟩ | exact .inr ⟨_, _, rfl, by simp [*]⟩) rfl (by simp [xF]) rfl rfl (CI.runOps 9999 400 rfl ?_)
  simp [xF, Tryz.ntmps9, Tryz.results9]
  refine ⟨by decide +kernel, ?_⟩
  refine CI.callP (p3 ) Tryz.call21 rfl rfl rfl (by first | exact .inl rfl | exact .inr ⟨_, _, rfl, by simp⟩ | exact .inr ⟨_, _, rfl, by simp [*]⟩) rfl (by simp [g1, g2, g3]) rfl rfl (CI.runOps 9999 400 rfl ?_)
  simp [g1, g2, g3, Tryz.ntmps9, Tryz.results9]
  refine CI.callP (p4 ) Tryz.call28 rfl rfl rfl (by first | exact .inl rfl | exact .inr ⟨_, _, rfl, by simp⟩ | exact .inr ⟨_, _, rfl, by simp [*]⟩) rfl (by simp [g1, g2, g3]) rfl rfl (CI.runOps 9999 400 rfl ?_)
  simp [g1, g2, g3, Tryz.ntmps9, Tryz.results9]
  refine CI.callP (p5 ) Tryz.call12 rfl rfl rfl (by first | exact .inl rfl | exact .inr ⟨_, _, rfl, by simp⟩ | exact .inr ⟨_, _, rfl, by simp [*]⟩) rfl (by simp [g1, g2, g3]) rfl rfl (CI.runOps 9999 400 rfl ?_)
  simp [g1, g2, g3, Tryz.ntmps9, Tryz.results9]
  first | (exact fin0 (by simp) rfl) | (refine ⟨by decide +kernel, ?_⟩; exact fin0 (by simp) rfl)
end Go.Proofs.YtbmnaehodmgibaaGreatDoor
end
section
namespace Go.Proofs.YtbmnaehodmgibaaGreatDoor
open Go.ChangeShapes Go.WideShapes Go.ChangeAt Go.RowKit
open Go.AI Go.G
set_option maxRecDepth 20000
theorem sh_i4 : shT Tryz.prog 22 = .arr 4 3 := by kernel_rfl
theorem sh_b4 : shT Tryz.prog 23 = .arr 4 4 := by kernel_rfl
theorem sh_out : shT Tryz.prog 25 = .st [22, 23, 3] := by kernel_rfl
theorem sh_sess : shT Tryz.prog 35 = .st [3, 4, 25, 33, 28, 3] := by kernel_rfl
theorem four {α : Type} {l : List α} (h : l.length = 4) : ∃ a b c d, l = [a, b, c, d] := by
  match l, h with
  | [a, b, c, d], _ => exact ⟨a, b, c, d, rfl⟩
section
variable {n : Nat} {ds : List D}
theorem is_i4 (h : Is Tryz.prog (n + 2) 22 ds) : ∃ a b c d : Int, ds = [iD a, iD b, iD c, iD d] := by
  obtain ⟨es, he, h1, rfl⟩ := is_arr sh_i4 h
  obtain ⟨a, b, c, d, rfl⟩ := four he
  obtain ⟨x, _, e0⟩ := is_int sh_int (h1 a (by simp))
  obtain ⟨y, _, e1⟩ := is_int sh_int (h1 b (by simp))
  obtain ⟨z, _, e2⟩ := is_int sh_int (h1 c (by simp))
  obtain ⟨t, _, e3⟩ := is_int sh_int (h1 d (by simp))
  subst e0; subst e1; subst e2; subst e3
  exact ⟨x, y, z, t, rfl⟩
theorem is_b4 (h : Is Tryz.prog (n + 2) 23 ds) : ∃ a b c d : Bool, ds = [bD a, bD b, bD c, bD d] := by
  obtain ⟨es, he, h1, rfl⟩ := is_arr sh_b4 h
  obtain ⟨a, b, c, d, rfl⟩ := four he
  obtain ⟨x, e0⟩ := is_bool sh_bool (h1 a (by simp))
  obtain ⟨y, e1⟩ := is_bool sh_bool (h1 b (by simp))
  obtain ⟨z, e2⟩ := is_bool sh_bool (h1 c (by simp))
  obtain ⟨t, e3⟩ := is_bool sh_bool (h1 d (by simp))
  subst e0; subst e1; subst e2; subst e3
  exact ⟨x, y, z, t, rfl⟩
theorem is_out (h : Is Tryz.prog (n + 3) 25 ds) : ∃ o : Nonce.Ou, ds = ouC o := by
  obtain ⟨_, _, h1, g1, rfl⟩ := isF_cons (is_st sh_out h)
  obtain ⟨_, _, h2, g2, rfl⟩ := isF_cons g1
  obtain ⟨_, _, h3, g3, rfl⟩ := isF_cons g2
  obtain rfl := isF_nil g3
  obtain ⟨a, b, c, d, rfl⟩ := is_i4 h1
  obtain ⟨x, y, z, t, rfl⟩ := is_b4 h2
  obtain ⟨m, _, rfl⟩ := is_int sh_int h3
  exact ⟨⟨a, b, c, d, x, y, z, t, m⟩, rfl⟩
theorem is_sess (h : Is Tryz.prog (n + 10) 35 ds) : ∃ s : Sess, OkSess s ∧ ds = sessC s := by
  obtain ⟨_, _, h1, g1, rfl⟩ := isF_cons (is_st sh_sess h)
  obtain ⟨_, _, h2, g2, rfl⟩ := isF_cons g1
  obtain ⟨_, _, h3, g3, rfl⟩ := isF_cons g2
  obtain ⟨_, _, h4, g4, rfl⟩ := isF_cons g3
  obtain ⟨_, _, h5, g5, rfl⟩ := isF_cons g4
  obtain ⟨_, _, h6, g6, rfl⟩ := isF_cons g5
  obtain rfl := isF_nil g6
  obtain ⟨a, _, rfl⟩ := is_int sh_int h1
  obtain ⟨b, rfl⟩ := is_bool sh_bool h2
  obtain ⟨o, rfl⟩ := is_out h3
  obtain ⟨v, hv, rfl⟩ := is_view h4
  obtain ⟨e, _, rfl⟩ := is_int sh_err h5
  obtain ⟨q, _, rfl⟩ := is_int sh_int h6
  exact ⟨⟨a, b, o, v, e, q⟩, ⟨hv⟩, by simp⟩
theorem ag_sess : aggT Tryz.prog 35 = true := by kernel_rfl
end
end Go.Proofs.YtbmnaehodmgibaaGreatDoor
end
section
namespace Go.Proofs.YtbmnaehodmgibaaGreatDoor
open Go.ChangeShapes Go.WideShapes Go.ChangeAt Go.RowKit
open Go.AI Go.G
set_option maxRecDepth 20000
section
variable {n : Nat} {ds : List D}
end
theorem err_et : Tryz.prog.globalNamed "errors.errorType" = some 0 := by kernel_rfl
theorem err_rt : (Tryz.prog.cutTypes.find? (·.1 == "internal/reflectlite.rtype")).map (·.2) = some 366 := by kernel_rfl
theorem err_one : ((List.range Tryz.prog.types.size).filter fun t => Tryz.prog.rowNamed t [101, 114, 114, 111, 114]) = [165] := by kernel_rfl
/-- WHAT THE CONDITION GIVES A WALK: the variable's one cell. -/
theorem err_of_laid {laid : List (String × DataW Unit)} (hm : ("errors.errorType", Rows.laid_errors_errorType) ∈ laid) {W : World} (h : laidMetH Tryz.prog laid W) : W.cell? ⟨0, 0, none⟩ = some errV := by
  have h' := (laidMetH_iff.1 h).2
  obtain ⟨name, u, ty, e1, e2, e3, e4, e5⟩ := h' _ (List.mem_filter.2 ⟨hm, rfl⟩)
  have en : name = [101, 114, 114, 111, 114] := (Option.some.inj e1).symm
  subst en
  obtain rfl := Option.some.inj (err_rt.symm.trans e2)
  have hm : ty ∈ (List.range Tryz.prog.types.size).filter fun t => Tryz.prog.rowNamed t [101, 114, 114, 111, 114] := List.mem_filter.2 ⟨List.mem_range.2 e3, e4⟩
  rw [err_one] at hm
  obtain rfl := List.mem_singleton.1 hm
  have hh : typeHandle Tryz.prog 165 = .pointer (some ⟨4, 165, none⟩) := by kernel_rfl
  rw [hh] at e5
  simpa using World.var?_cell err_et e5 0
theorem calls_of_ctJ {f : FuncId} {W : World} {vs : List Value} {avs : List AV} (hg : W.cell? ⟨0, 0, none⟩ = some errV) (h : CtJ errG Tryz.prog f avs [] [] (.d (.v (.bool true))) []) (hr : RVs (fun n => n < W.heap.size) W avs vs) :
    Calls Tryz.prog f vs.toArray W fun e W' => e = .returned (.bool true) ∧ Below W.heap.size W W' := by
  have h0 : 0 < W.heap.size := by
    rcases Nat.eq_zero_or_pos W.heap.size with h0 | h
    · simp [World.cell?, h0] at hg
    · exact h
  refine (h noN (fun n => n < W.heap.size) W vs ⟨h0, hg⟩ (fun _ h => h) hr.length hr.get ⟨fun b k hb => by simp [lookB] at hb, fun b b' k k' x x' n hb => by simp [lookB] at hb⟩ (fun _ _ => rfl)).mono fun e W' ⟨v, σ', I', he, hp, hv⟩ => ?_
  cases hv with
  | d hd => cases hd with
    | v => exact ⟨he, hp.os, hp.tape, hp.output.eq, hp.size, fun k hk => hp.frame k hk (by rintro ⟨b, _, _, hb, _⟩; simp [lookB] at hb)⟩
/-- The settled world, the variable's cell laid. -/
noncomputable def errW (os : Os) : World :=
  let w0 := World.holding Tryz.prog os ⟨#[], #[], []⟩
  { w0 with heap := w0.heap.modify 0 fun
      | .cells _ t frozen => .cells #[errV] t frozen
      | o => o }
theorem laidMet_errW {os : Os} {laid : List (String × DataW Unit)} (args : Array Value) (hf : (errW os).layFits Tryz.prog laid [] = true) (hi : (errW os).layIfaces Tryz.prog laid ((errW os).layVars Tryz.prog laid) = true) :
    laidMet Tryz.prog laid (((errW os).layVars Tryz.prog laid).forCall (fun _ _ => 0) ⟨#[], args, []⟩).memory := by
  have e1 : (laid.filter fun x => (laid.map (·.1)).contains x.1) = laid := List.filter_eq_self.2 fun x hx => List.contains_iff_mem.2 (List.mem_map.2 ⟨x, hx, rfl⟩)
  have e2 : (laid.filter fun x => !(laid.map (·.1)).contains x.1) = [] := List.filter_eq_nil_iff.2 fun x hx => by rw [List.contains_iff_mem.2 (List.mem_map.2 ⟨x, hx, rfl⟩)]; simp
  have h : laidMet Tryz.prog laid ((errW os).layVars Tryz.prog laid) := laidMet_layVars (w0 := errW os) (laid.map (·.1)) [] (by rw [e1]) (by rw [e1]; exact hf) (by rw [e1]; exact hi) (by rw [e2]; exact LaidIn.none)
  exact h.of_heap (by simp [World.memory, World.forCall, Input.heap])
end Go.Proofs.YtbmnaehodmgibaaGreatDoor
end
