/-
  LAYERS 15, 20: the walks of steps, and of what is sent; what arguments are, what is laid.
-/
import Derived.Test.YtmhfcgpmmghakaaGreatDoorWf
import Derived.Test.YtmhfcgpmmghakaaGreatDoorPs
import Derived.Test.YtmhfcgpmmghakaaGreatDoorFd
import Derived.Test.YtmhfcgpmmghakaaGreatDoorFc
set_option linter.unusedSimpArgs false
set_option linter.unusedVariables false
namespace Go.Proofs.YtmhfcgpmmghakaaGreatDoor
open Go.AI Go.G Tryz
set_option maxRecDepth 20000
attribute [simp] ntmps234 results234 ntmps238 results238 ntmps321 results321 ntmps173 results173 ntmps316 results316 ntmps250 results250 ntmps252 results252 ntmps370 results370 ntmps314 results314 ntmps317 results317 ntmps251 results251 ntmps318 results318 ntmps253 results253 ntmps172 results172 ntmps171 results171
noncomputable abbrev jobC (j : Job) : List D := [lD (j.adds.map resC), lD (j.gone.map keyC), zls j.reach, lD (j.have_.map resC), lD (j.held.map keyC)]
abbrev jobB (j : Job) : Prop := j.adds.length ≤ 1000000 ∧ j.gone.length ≤ 1000000 ∧ j.have_.length ≤ 1000000 ∧ j.held.length ≤ 1000000
theorem qew (l : List Res) (kf : D) (p : Res → Bool) (hf : ∀ x ∈ l, FnOk prog (.d kf) [st (resC x)] (bool (p x))) (hl : l.length ≤ 1000000) : Ct prog 234 [lst (l.map resC), .d kf] [] [] (.own 64) [(64, .grow 7 ((l.filter p).map resC) 109)] := by
 refine Ct.B func234 mixed 99 400 ?_
 simp
 refine LoopI.nilOwn 5 7 109 rfl ?_
 refine LoopI.U mixed (l) (fun k => [(0, lst (l.map resC)), (1, .d kf), (5, .own 64), (8, lst (l.map resC)), (9, int l.length), (10, int k.1)]) (fun k => [(64, .grow 7 (((l.take k.1).filter p).map resC) 109)]) 65 [] (by constructor <;> simp) ?_
 rintro ⟨k, hk1⟩ B hB
 refine CI.run 99 400 rfl ?_
 simp
 refine sBI (fun h => ?_) (fun h => ?_)
 ·have hk : k < (l).length := by simpa using h
  obtain ⟨x, hx, hr, hm, ht, hd⟩ := inL hk
  have hw := wr (k := k) (by omega)
  simp only [h]
  simp [hr, hw]
  have hlen : ((l.take k).filter p).length ≤ 1000000 := Nat.le_trans (List.length_filter_le _ _) (by simp; omega)
  refine CI.ff (hf x hm) rfl rfl rfl 99 ?_
  simp
  refine sBI (fun h1 => ?_) (fun h1 => ?_) <;> simp only [h1] <;> simp [hr]
  ·refine ⟨by omega, ?_⟩
   refine hB _ ⟨k + 1, by omega⟩ [] ?_ (by simp; omega)
   constructor <;> simp [hw, ht, List.filter_append, h1]
  ·refine hB _ ⟨k + 1, by omega⟩ [] ?_ (by simp; omega)
   constructor <;> simp [hw, ht, List.filter_append, h1]
 ·have hkl : k = (l).length := by simp at h; omega
  subst hkl
  simp only [h]
  simp [List.take_length, List.drop_length]
  exact ⟨[(64, 64)], by constructor <;> simp [nmF, inB]⟩
theorem qmz (l : List Res) (n : Int) (hl : l.length ≤ 1000000) : Ct prog 238 [lst (l.map resC), int n] [] [] (.own 64) [(64, .grow 7 ((zlr l n).map resC) 109)] := by
 refine Ct.B func238 mixed 1 400 ?_
 simp
 refine CI.s (tm := [(0, lst (l.map resC)), (3, .d (.pro [iD n]))]) (mm := []) (nx := 65) [] [64] (by constructor <;> simp) ?_
 refine CI.run 99 400 rfl ?_
 simp
 refine CI.cc [] (qew l (.fn (.func 307) [] [.pro [iD n]]) (fun r => decide (r.kind = n)) (fun r hr => FnOk.clo (by exact qqg r n) call307 rfl rfl) hl) call234 99 ?_
 simp
 exact ⟨[(64, 193)], by constructor <;> simp [nmF, inB, zlr]⟩
theorem zpl : Ct prog 321 [lst []] [] [] (lst []) [] := by
 refine Ct.B func321 mixed 99 400 ?_
 simp
 refine ⟨?_, ?_⟩
 ·exact fin0 (by simp) rfl
 ·exact fin0 (by simp) rfl
theorem znu (x : Key) (l : List Key) (hl : l.length ≤ 1000000) : Ct prog 321 [lst ((x :: l).map keyC)] [] [] (.own 64) [(64, .grow 2 ((x :: l).map keyC) 203)] := by
 refine Ct.B func321 mixed 99 400 ?_
 simp
 refine ⟨by omega, ?_⟩
 exact ⟨[(64, 384)], by constructor <;> simp [nmF, inB]⟩
theorem ze2 (s : Step) (h : s.adds.length ≤ 1000000 ∧ s.gone.length ≤ 1000000) : Ct prog 173 [st (zu3 s)] [] [] (bool s.none) [] := by
 refine Ct.B func173 mixed 99 400 ?_
 simp
 obtain ⟨h1, h2⟩ := h
 have w : IntKind.wrap .i64 ((s.adds.length : Int) + s.gone.length) = s.adds.length + s.gone.length := zaa (by omega) (by omega)
 have e : decide ((s.adds.length : Int) + s.gone.length = 0) = s.none := by unfold Step.none; exact decide_eq_decide.2 (by omega)
 simp [w]
 rw [e]
 exact fin0 (by simp) rfl
theorem qq5 (j : Job) (r : Res) : Ct prog 316 [st (resC r), .d (.pro [.pro (jobC j)])] [] [] (bool (!decide (r.key ∈ j.reach))) [] := by
 refine Ct.B func316 mixed 99 400 ?_
 simp
 by_cases h : r.key ∈ j.reach
 ·have e1 := zir h
  refine CI.p (zeo r) call103 99 ?_ (ha := by simp [e1])
  simp [e1]
  refine ⟨by decide +kernel, ?_⟩
  exact fin0 (by simp [h]) rfl
 ·have e1 := zhn h
  refine CI.p (zeo r) call103 99 ?_ (ha := by simp [e1])
  simp [e1]
  refine ⟨by decide +kernel, ?_⟩
  exact fin0 (by simp [h]) rfl
theorem zv8 (j : Job) (n : Int) (hj : jobB j) : Ct prog 250 [.d (.pro (jobC j)), int n] [] [] (st (zu3 (j.early n))) [] := by
 refine Ct.B func250 mixed 1 400 ?_
 simp
 refine CI.s (tm := [(1, int n), (2, .d (.pro [.pro (jobC j)])), (4, .ptr 64 0)]) (mm := [(64, .cells [int 0, lst [], lst []] 216)]) (nx := 65) [(64, 128)] [64] (by constructor <;> simp) ?_
 refine CI.run 99 400 rfl ?_
 simp
 obtain ⟨K, hK⟩ : ∃ K, zlr j.adds n = K := ⟨_, rfl⟩
 have hlen : K.length ≤ 1000000 := by rw [← hK]; exact Nat.le_trans (zg3 _ _) hj.1
 have e : (j.early n).adds = K.filter fun r => !(!decide (r.key ∈ j.reach)) := by simp [Job.early, hK]
 have e1 : (j.early n).kind = n := rfl
 have e2 : (j.early n).gone = [] := rfl
 refine CI.cc [] (qmz j.adds n hj.1) call238 99 ?_
 simp
 rw [hK, e, e1, e2]
 clear e e1 e2 hK
 cases K with
 | nil =>
   refine CI.g [385] [] (delE (.fn (.func 316) [] [.pro [.pro (jobC j)]])) call232 99 ?_
   simp
   exact fin0 (by simp) rfl
 | cons x l =>
   refine CI.cc [385] (delC (x :: l) (.fn (.func 316) [] [.pro [.pro (jobC j)]]) (fun r => !decide (r.key ∈ j.reach)) (fun r hr => FnOk.clo (by exact qq5 j r) call316 rfl rfl) hlen) call232 99 ?_
   simp
   exact fin0 (by simp) rfl
theorem zxs (j : Job) (n : Int) (hj : jobB j) : Ct prog 252 [.d (.pro (jobC j)), int n] [] [] (st (zu3 (j.late n))) [] := by
 refine Ct.B func252 mixed 99 400 ?_
 simp
 refine CI.p (qjr j.adds n hj.1) call238 99 ?_
 simp
 exact fin0 (by simp [Job.late, zlr]) rfl
theorem off1 (n : Int) (k_ : Key) : Ct prog 370 [st (keyC k_), .d (.pro [iD n])] [] [] (bool (!decide (k_.kind = n))) [] := by
 refine Ct.B func370 mixed 99 400 ?_
 simp
 exact fin0 (by simp) rfl
theorem qif (l : List Key) (kf : D) (p : Key → Bool) (hf : ∀ x ∈ l, FnOk prog (.d kf) [st (keyC x)] (bool (p x))) (hl : l.length ≤ 1000000) (h1 : idxF p l = -1) : Ct prog 314 [.own 0, .d kf] [] [(0, .grow 2 (l.map keyC) 203)] (.own 0) [(0, .grow 2 (l.map keyC) 203)] := by
 refine Ct.B func314 mixed 99 400 ?_
 simp
 refine CI.cc [0] (zqw l kf p hf (by omega)) call280 99 ?_
 simp
 simp [h1]
 exact ⟨[], by constructor <;> simp [nmF, inB]⟩
theorem qie (l : List Key) (kf : D) (p : Key → Bool) (hf : ∀ x ∈ l, FnOk prog (.d kf) [st (keyC x)] (bool (p x))) (hl : l.length ≤ 1000000) (i : Nat) (x : Key) (h1 : idxF p l = i) (h2 : i < l.length) : Ct prog 314 [.own 0, .d kf] [] [(0, .grow 2 (l.map keyC) 203)] (.sl 0 2 0 (l.filter fun x => !p x).length) [(0, .grow 2 ((l.filter fun x => !p x).map keyC ++ List.replicate (l.length - (l.filter fun x => !p x).length) [iD 0, sD ⟨#[]⟩]) 203)] := by
 refine Ct.B func314 mixed 99 400 ?_
 simp
 refine CI.cc [0] (zqw l kf p hf (by omega)) call280 99 ?_
 simp
 have hne : ¬ (i : Int) = -1 := by omega
 have hwi : IntKind.wrap .i64 ((i : Int) + 1) = i + 1 := zaa (by omega) (by omega)
 simp [h1, hne, hwi]
 have d0 := DelSt.start (x := x) h1 h2
 refine LoopI.inv mixed rfl (ι := {q : Nat × Nat × List Key // DelSt p l q.1 q.2.1 q.2.2}) (fun k => [(0, .own 0), (1, .d kf), (5, int k.1.2.1), (6, int k.1.1)]) (fun k => [(0, .grow 2 (k.1.2.2.map keyC) 203)]) 64 (fun k => l.length - k.1.1) ⟨(i + 1, i, l), d0⟩ [] (by constructor <;> simp) ?_
 rintro ⟨⟨j, i, cur⟩, hd⟩ B hB
 clear h1 h2 hne hwi d0
 have hlen := hd.len
 have hlt := hd.lt
 have hle := hd.le
 simp only at hlen hlt hle
 have w1 : IntKind.wrap .i64 ((j : Int) + 1) = j + 1 := zaa (by omega) (by omega)
 have w2 : IntKind.wrap .i64 ((i : Int) + 1) = i + 1 := zaa (by omega) (by omega)
 refine CI.run 99 400 rfl ?_
 simp [hlen]
 refine sBI (fun h => ?_) (fun h => ?_) <;> simp only [h] <;> simp <;> (try simp only [nT, nF, dT, dF] at h)
 ·have hj : j < l.length := by omega
  have hv : l[j]? = some l[j] := List.getElem?_eq_getElem hj
  have hm : l[j] ∈ l := List.getElem_mem hj
  generalize l[j] = v at hv hm
  have hg := hd.get hv
  have hjc : j < cur.length := by omega
  have hgx : cur[j] = v := by rw [List.getElem?_eq_getElem hjc] at hg; exact Option.some.inj hg
  simp [hjc, hgx]
  refine CI.ff (hf v hm) rfl rfl rfl 99 ?_
  simp
  have hic : i < cur.length := by omega
  refine sBI (fun h2 => ?_) (fun h2 => ?_) <;> simp only [h2] <;> simp [hic]
  ·have hp : p v = false := by simpa using h2
   refine hB _ ⟨(j + 1, i + 1, cur.set i v), hd.keep hv hp⟩ [] ?_ (by simp; omega)
   constructor <;> simp [w1, w2, List.map_set]
  ·have hp : p v = true := by simpa using h2
   refine hB _ ⟨(j + 1, i, cur), hd.del hv hp⟩ [] ?_ (by simp; omega)
   constructor <;> simp [w1]
 ·have hj : j = l.length := by omega
  subst hj
  have e : cur.take i = l.filter (fun x => !p x) := hd.done
  simp [hlen]
  have e2 : List.take i (List.map keyC cur) = List.map keyC (List.filter (fun x => !p x) l) := by rw [← List.map_take, e]
  have e3 : (List.filter (fun x => !p x) l).length = i := by rw [← e, List.length_take]; omega
  refine ⟨by omega, by omega, by omega, ?_⟩
  have e4 : List.drop (i + (l.length - i)) (List.map keyC cur) = [] := by rw [List.drop_eq_nil_iff]; simp; omega
  rw [e2, e3, e4]
  exact ⟨[], by constructor <;> simp [nmF, inB]⟩
theorem qid (l : List Key) (kf : D) (p : Key → Bool) (hf : ∀ x ∈ l, FnOk prog (.d kf) [st (keyC x)] (bool (p x))) (hl : l.length ≤ 1000000) : Ct prog 314 [.own 0, .d kf] [] [(0, .grow 2 (l.map keyC) 203)] (.own 64) [(64, .grow 2 ((l.filter fun x => !p x).map keyC) 203)] := by
 rcases zhp p l with ⟨h1, h2⟩ | ⟨i, x, h1, h2, h3, h4⟩
 ·have e : (l.filter fun x => !p x) = l := by
   rw [List.filter_eq_self]; intro a ha
   have := List.find?_eq_none.1 h2 a ha; simpa using this
  have := Ct.trunc (Or.inl ⟨rfl, rfl⟩) (Nat.le_refl _) (qif l kf p hf hl h1)
  rw [List.take_length] at this
  rw [e]
  exact this
 ·have := Ct.trunc (Or.inr rfl) (by simp) (qie l kf p hf hl i x h1 h2)
  rw [List.take_left' (by simp)] at this
  exact this
theorem qp0 (j : Job) (n : Int) (hj : jobB j) : Ct prog 317 [.d (.pro (jobC j)), int n] [] [] (st (zu3 (j.off n))) [] := by
 refine Ct.B func317 mixed 1 400 ?_
 simp
 refine CI.s (tm := [(0, .d (.pro (jobC j))), (3, .d (.pro [iD n])), (4, .ptr 64 0)]) (mm := [(64, .cells [int 0, lst [], lst []] 216)]) (nx := 65) [(64, 128)] [64] (by constructor <;> simp) ?_
 refine CI.run 99 400 rfl ?_
 simp
 have e : (j.off n).gone = j.gone.filter fun k => !(!decide (k.kind = n)) := by simp [Job.off, zg4]
 have e1 : (j.off n).kind = n := rfl
 have e2 : (j.off n).adds = [] := rfl
 have hlen := hj.2.1
 rw [e, e1, e2]
 clear e e1 e2
 generalize j.gone = G at hlen ⊢
 cases G with
 | nil =>
   refine CI.p zpl call321 99 ?_
   simp
   refine CI.p (zq7 (.fn (.func 370) [] [.pro [iD n]])) call314 99 ?_
   simp
   exact fin0 (by simp) rfl
 | cons x l =>
   refine CI.cc [] (znu x l (by simp at hlen; omega)) call321 99 ?_
   simp
   refine CI.cc [321] (zl6 (x :: l) (.fn (.func 370) [] [.pro [iD n]]) (fun k => !decide (k.kind = n)) (fun k hk => FnOk.clo (by exact off1 n k) call370 rfl rfl) hlen) call314 99 ?_
   simp
   exact fin0 (by simp) rfl
theorem qp1 (j : Job) (n : Int) (x : Key) (l : List Key) (hg : j.gone = x :: l) (hj : jobB j) : Ct prog 317 [.d (.pro (jobC j)), int n] [] [] (.agg [int n, lst [], .own 64]) [(64, .grow 2 ((zg4 j.gone n).map keyC) 203)] := by
 refine Ct.B func317 mixed 1 400 ?_
 simp
 refine CI.s (tm := [(0, .d (.pro (jobC j))), (3, .d (.pro [iD n])), (4, .ptr 64 0)]) (mm := [(64, .cells [int 0, lst [], lst []] 216)]) (nx := 65) [(64, 128)] [64] (by constructor <;> simp) ?_
 refine CI.run 99 400 rfl ?_
 simp
 have e : zg4 j.gone n = j.gone.filter fun k => !(!decide (k.kind = n)) := by simp [zg4]
 have hlen := hj.2.1
 rw [e, hg]
 rw [hg] at hlen
 clear e
 refine CI.cc [] (znu x l (by simp at hlen; omega)) call321 99 ?_
 simp
 refine CI.cc [321] (qid (x :: l) (.fn (.func 370) [] [.pro [iD n]]) (fun k => !decide (k.kind = n)) (fun k hk => FnOk.clo (by exact off1 n k) call370 rfl rfl) hlen) call314 99 ?_
 simp
 exact ⟨[(64, 449)], by constructor <;> simp [nmF, inB]⟩
theorem qnm (j : Job) (n : Int) (hj : jobB j) : Ct prog 251 [.d (.pro (jobC j)), int n] [] [] (st (zu3 (j.doors n))) [] := by
 refine Ct.B func251 mixed 99 400 ?_
 simp
 refine CI.p (zxs j n hj) call252 99 ?_
 simp
 refine CI.p (qp0 j n hj) call317 99 ?_
 simp
 exact fin0 (by simp [Job.doors, Job.late, Job.off]) rfl
theorem qse (j : Job) (k_ : Key) (hj : jobB j) : Ct prog 318 [st (keyC k_), .d (.pro [.pro (jobC j)])] [] [] (bool (!j.freeK k_)) [] := by
 refine Ct.B func318 mixed 99 400 ?_
 simp
 refine CI.p (qju j.held k_ (by have := hj.2.2.2; omega)) call319 99 ?_
 simp
 refine sGI (fun h1 => ?_) (fun h1 => ?_) <;> simp only [h1] <;> simp
 ·have e : (!j.freeK k_) = true := by simp [Job.freeK, h1]
  rw [e]
  refine ⟨by decide +kernel, ?_⟩
  exact fin0 (by simp) rfl
 ·refine CI.p (qgp j.have_ k_ hj.2.2.1) call320 99 ?_
  simp
  have e : (!j.freeK k_) = decide (0 < (zki j.have_ k_).length) := by simp [Job.freeK, h1]
  rw [e]
  refine ⟨by decide +kernel, ?_⟩
  exact fin0 (by simp) rfl
theorem zv0 (j : Job) (n : Int) (hj : jobB j) : Ct prog 253 [.d (.pro (jobC j)), int n] [] [] (st (zu3 (j.free n))) [] := by
 refine Ct.B func253 mixed 1 400 ?_
 simp
 refine CI.s (tm := [(1, int n), (2, .d (.pro [.pro (jobC j)])), (4, .ptr 64 0)]) (mm := [(64, .cells [int 0, lst [], lst []] 216)]) (nx := 65) [(64, 128)] [64] (by constructor <;> simp) ?_
 refine CI.run 99 400 rfl ?_
 simp
 have e : (j.free n).gone = (zg4 j.gone n).filter fun k => !(!j.freeK k) := by simp [Job.free]
 have e1 : (j.free n).kind = n := rfl
 have e2 : (j.free n).adds = [] := rfl
 have hlen : (zg4 j.gone n).length ≤ 1000000 := Nat.le_trans (zjo _ _) hj.2.1
 rw [e, e1, e2]
 clear e e1 e2
 rcases hG : j.gone with _ | ⟨x, l⟩
 ·have o1 : (j.off n).gone = [] := by simp [Job.off, zg4, hG]
  have o2 : (j.off n).kind = n := rfl
  have o3 : (j.off n).adds = [] := rfl
  have o4 : zg4 [] n = [] := rfl
  refine CI.p (qp0 j n hj) call317 99 ?_ (ha := by simp [o1, o2, o3])
  simp [o1, o2, o3]
  refine CI.p (zq7 (.fn (.func 318) [] [.pro [.pro (jobC j)]])) call314 99 ?_
  simp
  exact fin0 (by simp [o4]) rfl
 ·refine CI.cc [] (qp1 j n x l hG hj) call317 99 ?_
  simp
  refine CI.cc [193] (zl6 (zg4 j.gone n) (.fn (.func 318) [] [.pro [.pro (jobC j)]]) (fun k => !j.freeK k) (fun k _ => FnOk.clo (by exact qse j k hj) call318 rfl rfl) hlen) call314 99 ?_
  simp
  exact fin0 (by simp [hG]) rfl
abbrev fnJ (f : FuncId) (j : List D) : D := .fn (.func f) [.pro j] []
noncomputable abbrev ql4 (j : Job) : List (List D) := [[lD [[iD 3], [iD 2], [iD 1]], fnJ 250 (jobC j)], [lD [[iD 0]], fnJ 251 (jobC j)], [lD [[iD 3], [iD 2], [iD 1]], fnJ 252 (jobC j)], [lD [[iD 1], [iD 2], [iD 3]], fnJ 253 (jobC j)]]
theorem qgu (j : Job) : Ct prog 172 [.d (.pro (jobC j))] [] [] (lst (ql4 j)) [] := by
 refine Ct.B func172 mixed 99 400 ?_
 simp
 refine CI.opG [128, 256, 640] 99 400 rfl rfl (by first | exact .inl rfl | exact .inr ⟨_, _, rfl, by simp⟩ | exact .inr ⟨_, _, rfl, by simp [*]⟩) (by simp) ?_
 simp [zod, gvB]
 exact fin0 (by simp) rfl
theorem qn4 (hv want : List Res) (held : List Key) (hh : OkRs hv) (hl : hv.length ≤ 1000000) (hw : want.length ≤ 100000) (ha : AscR want) : Ct prog 171 [lst (hv.map resC), lst (want.map resC), lst (held.map keyC)] [] [] (.d (.pro (jobC (zhe hv want held)))) [] := by
 refine Ct.B func171 mixed 99 400 ?_
 simp
 refine CI.p (qq8 hv want hh hl (by omega)) call249 99 ?_
 simp
 refine CI.p (zvh want ha hw) call243 99 ?_
 simp
 have hrl : (zbc want).length ≤ 100000 := Nat.le_trans (List.length_filter_le _ _) hw
 refine LoopI.U mixed ((zbc want)) (fun k => [(7, .ptr 64 0), (28, lst ((zbc want).map resC)), (29, int (zbc want).length), (30, int k.1)]) (fun k => [(64, .cells [lst ((zfn hv want).map resC), lst ((zgd hv want).map keyC), .own 65, lst (hv.map resC), lst (held.map keyC)] 373), (65, .map true [.int, .str] false (zei (((zbc want).take k.1).map Res.key)))]) 66 [] (by constructor <;> simp [zfe]) ?_
 rintro ⟨k, hk1⟩ B hB
 refine CI.run 99 400 rfl ?_
 simp [zfe]
 refine sBI (fun h => ?_) (fun h => ?_)
 ·have hk : k < ((zbc want)).length := by simpa using h
  obtain ⟨x, hx, hr, hm, ht, hd⟩ := inL hk
  have hw := wr (k := k) (by omega)
  simp only [h]
  simp [hr, hw]
  refine CI.p (zeo x) call103 99 ?_
  simp
  refine ⟨by decide +kernel, ?_⟩
  refine hB _ ⟨k + 1, by omega⟩ [] ?_ (by simp; omega)
  constructor <;> simp [hw, ht]
 ·have hkl : k = ((zbc want)).length := by simp at h; omega
  subst hkl
  simp only [h]
  simp [List.take_length, List.drop_length]
  exact fin0 (by simp [zhe]) rfl
theorem zv9 {j : Job} (hj : jobB j) (n : Int) : (j.early n).adds.length ≤ 1000000 ∧ (j.early n).gone.length ≤ 1000000 :=
 ⟨Nat.le_trans (List.length_filter_le _ _) (Nat.le_trans (zg3 _ _) hj.1), by simp [Job.early]⟩
theorem qd1 {j : Job} (hj : jobB j) (n : Int) : (j.late n).adds.length ≤ 1000000 ∧ (j.late n).gone.length ≤ 1000000 :=
 ⟨Nat.le_trans (zg3 _ _) hj.1, by simp [Job.late]⟩
theorem qnn {j : Job} (hj : jobB j) (n : Int) : (j.doors n).adds.length ≤ 1000000 ∧ (j.doors n).gone.length ≤ 1000000 :=
 ⟨Nat.le_trans (zg3 _ _) hj.1, Nat.le_trans (zjo _ _) hj.2.1⟩
theorem qeq {j : Job} (hj : jobB j) (n : Int) : (j.free n).adds.length ≤ 1000000 ∧ (j.free n).gone.length ≤ 1000000 :=
 ⟨by simp [Job.free], Nat.le_trans (List.length_filter_le _ _) (Nat.le_trans (zjo _ _) hj.2.1)⟩
theorem qjl (hv want : List Res) (held : List Key) (hh : OkRs hv) (hl : hv.length ≤ 1000000) (hw : want.length ≤ 100000) (ha : AscR want) (hd : held.length ≤ 1000000) : Ct prog 113 [lst (hv.map resC), lst (want.map resC), lst (held.map keyC)] [] [] (.tup [st (zu3 ((zoa hv want held).getD ⟨0, [], []⟩)), bool (zoa hv want held).isSome]) [] := by
 refine Ct.of_body func113 rfl mixed (by rw [ntmps113]; simp) (CI.seqScope mixed (Plain.retC _ _ _ _ _) rfl (CI.run 99 400 rfl ?_))
 simp
 refine CI.p (qn4 hv want held hh hl hw ha) call171 99 ?_
 simp
 refine CI.p (qgu (zhe hv want held)) call172 99 ?_
 simp
 have hn : zoa hv want held = (zhe hv want held).steps.find? fun s => !s.none := rfl
 have hj : jobB (zhe hv want held) := ⟨Nat.le_trans (diffA_len _ _) (by omega), Nat.le_trans (diffG_len _ _) hl, hl, hd⟩
 rw [hn]
 clear hn
 generalize zhe hv want held = j at hj ⊢
 refine LoopI.unroll mixed (Plain.retC _ _ _ _ _) rfl ?_
 refine CI.run 99 400 rfl ?_
 simp
 refine LoopI.unroll mixed (Plain.retC _ _ _ _ _) rfl ?_
 refine CI.run 99 400 rfl ?_
 simp
 refine CI.ff (FnOk.bnd (args := [int 3]) (first := [.pro (jobC j)]) (by exact zv8 j 3 hj) call250 rfl rfl) rfl rfl rfl 99 ?_
 simp
 refine CI.p (ze2 (j.early 3) (zv9 hj 3)) call173 99 ?_
 simp
 refine sBI (fun h1 => ?_) (fun h1 => ?_) <;> simp only [h1] <;> simp
 ·have h1' : (j.early 3).none = false := by simpa using h1
  have e : (j.steps.find? fun s => !s.none) = some (j.early 3) := by simp [Job.steps, List.find?_cons, h1']
  exact fin0 (by simp [e]) rfl
 have h1' : (j.early 3).none = true := by simpa using h1
 refine LoopI.unroll mixed (Plain.retC _ _ _ _ _) rfl ?_
 refine CI.run 99 400 rfl ?_
 simp
 refine CI.ff (FnOk.bnd (args := [int 2]) (first := [.pro (jobC j)]) (by exact zv8 j 2 hj) call250 rfl rfl) rfl rfl rfl 99 ?_
 simp
 refine CI.p (ze2 (j.early 2) (zv9 hj 2)) call173 99 ?_
 simp
 refine sBI (fun h2 => ?_) (fun h2 => ?_) <;> simp only [h2] <;> simp
 ·have h2' : (j.early 2).none = false := by simpa using h2
  have e : (j.steps.find? fun s => !s.none) = some (j.early 2) := by simp [Job.steps, List.find?_cons, h1', h2']
  exact fin0 (by simp [e]) rfl
 have h2' : (j.early 2).none = true := by simpa using h2
 refine LoopI.unroll mixed (Plain.retC _ _ _ _ _) rfl ?_
 refine CI.run 99 400 rfl ?_
 simp
 refine CI.ff (FnOk.bnd (args := [int 1]) (first := [.pro (jobC j)]) (by exact zv8 j 1 hj) call250 rfl rfl) rfl rfl rfl 99 ?_
 simp
 refine CI.p (ze2 (j.early 1) (zv9 hj 1)) call173 99 ?_
 simp
 refine sBI (fun h3 => ?_) (fun h3 => ?_) <;> simp only [h3] <;> simp
 ·have h3' : (j.early 1).none = false := by simpa using h3
  have e : (j.steps.find? fun s => !s.none) = some (j.early 1) := by simp [Job.steps, List.find?_cons, h1', h2', h3']
  exact fin0 (by simp [e]) rfl
 have h3' : (j.early 1).none = true := by simpa using h3
 refine LoopI.unroll mixed (Plain.retC _ _ _ _ _) rfl ?_
 refine CI.run 99 400 rfl ?_
 simp
 refine LoopI.unroll mixed (Plain.retC _ _ _ _ _) rfl ?_
 refine CI.run 99 400 rfl ?_
 simp
 refine LoopI.unroll mixed (Plain.retC _ _ _ _ _) rfl ?_
 refine CI.run 99 400 rfl ?_
 simp
 refine CI.ff (FnOk.bnd (args := [int 0]) (first := [.pro (jobC j)]) (by exact qnm j 0 hj) call251 rfl rfl) rfl rfl rfl 99 ?_
 simp
 refine CI.p (ze2 (j.doors 0) (qnn hj 0)) call173 99 ?_
 simp
 refine sBI (fun h4 => ?_) (fun h4 => ?_) <;> simp only [h4] <;> simp
 ·have h4' : (j.doors 0).none = false := by simpa using h4
  have e : (j.steps.find? fun s => !s.none) = some (j.doors 0) := by simp [Job.steps, List.find?_cons, h1', h2', h3', h4']
  exact fin0 (by simp [e]) rfl
 have h4' : (j.doors 0).none = true := by simpa using h4
 refine LoopI.unroll mixed (Plain.retC _ _ _ _ _) rfl ?_
 refine CI.run 99 400 rfl ?_
 simp
 refine LoopI.unroll mixed (Plain.retC _ _ _ _ _) rfl ?_
 refine CI.run 99 400 rfl ?_
 simp
 refine LoopI.unroll mixed (Plain.retC _ _ _ _ _) rfl ?_
 refine CI.run 99 400 rfl ?_
 simp
 refine CI.ff (FnOk.bnd (args := [int 3]) (first := [.pro (jobC j)]) (by exact zxs j 3 hj) call252 rfl rfl) rfl rfl rfl 99 ?_
 simp
 refine CI.p (ze2 (j.late 3) (qd1 hj 3)) call173 99 ?_
 simp
 refine sBI (fun h5 => ?_) (fun h5 => ?_) <;> simp only [h5] <;> simp
 ·have h5' : (j.late 3).none = false := by simpa using h5
  have e : (j.steps.find? fun s => !s.none) = some (j.late 3) := by simp [Job.steps, List.find?_cons, h1', h2', h3', h4', h5']
  exact fin0 (by simp [e]) rfl
 have h5' : (j.late 3).none = true := by simpa using h5
 refine LoopI.unroll mixed (Plain.retC _ _ _ _ _) rfl ?_
 refine CI.run 99 400 rfl ?_
 simp
 refine CI.ff (FnOk.bnd (args := [int 2]) (first := [.pro (jobC j)]) (by exact zxs j 2 hj) call252 rfl rfl) rfl rfl rfl 99 ?_
 simp
 refine CI.p (ze2 (j.late 2) (qd1 hj 2)) call173 99 ?_
 simp
 refine sBI (fun h6 => ?_) (fun h6 => ?_) <;> simp only [h6] <;> simp
 ·have h6' : (j.late 2).none = false := by simpa using h6
  have e : (j.steps.find? fun s => !s.none) = some (j.late 2) := by simp [Job.steps, List.find?_cons, h1', h2', h3', h4', h5', h6']
  exact fin0 (by simp [e]) rfl
 have h6' : (j.late 2).none = true := by simpa using h6
 refine LoopI.unroll mixed (Plain.retC _ _ _ _ _) rfl ?_
 refine CI.run 99 400 rfl ?_
 simp
 refine CI.ff (FnOk.bnd (args := [int 1]) (first := [.pro (jobC j)]) (by exact zxs j 1 hj) call252 rfl rfl) rfl rfl rfl 99 ?_
 simp
 refine CI.p (ze2 (j.late 1) (qd1 hj 1)) call173 99 ?_
 simp
 refine sBI (fun h7 => ?_) (fun h7 => ?_) <;> simp only [h7] <;> simp
 ·have h7' : (j.late 1).none = false := by simpa using h7
  have e : (j.steps.find? fun s => !s.none) = some (j.late 1) := by simp [Job.steps, List.find?_cons, h1', h2', h3', h4', h5', h6', h7']
  exact fin0 (by simp [e]) rfl
 have h7' : (j.late 1).none = true := by simpa using h7
 refine LoopI.unroll mixed (Plain.retC _ _ _ _ _) rfl ?_
 refine CI.run 99 400 rfl ?_
 simp
 refine LoopI.unroll mixed (Plain.retC _ _ _ _ _) rfl ?_
 refine CI.run 99 400 rfl ?_
 simp
 refine LoopI.unroll mixed (Plain.retC _ _ _ _ _) rfl ?_
 refine CI.run 99 400 rfl ?_
 simp
 refine CI.ff (FnOk.bnd (args := [int 1]) (first := [.pro (jobC j)]) (by exact zv0 j 1 hj) call253 rfl rfl) rfl rfl rfl 99 ?_
 simp
 refine CI.p (ze2 (j.free 1) (qeq hj 1)) call173 99 ?_
 simp
 refine sBI (fun h8 => ?_) (fun h8 => ?_) <;> simp only [h8] <;> simp
 ·have h8' : (j.free 1).none = false := by simpa using h8
  have e : (j.steps.find? fun s => !s.none) = some (j.free 1) := by simp [Job.steps, List.find?_cons, h1', h2', h3', h4', h5', h6', h7', h8']
  exact fin0 (by simp [e]) rfl
 have h8' : (j.free 1).none = true := by simpa using h8
 refine LoopI.unroll mixed (Plain.retC _ _ _ _ _) rfl ?_
 refine CI.run 99 400 rfl ?_
 simp
 refine CI.ff (FnOk.bnd (args := [int 2]) (first := [.pro (jobC j)]) (by exact zv0 j 2 hj) call253 rfl rfl) rfl rfl rfl 99 ?_
 simp
 refine CI.p (ze2 (j.free 2) (qeq hj 2)) call173 99 ?_
 simp
 refine sBI (fun h9 => ?_) (fun h9 => ?_) <;> simp only [h9] <;> simp
 ·have h9' : (j.free 2).none = false := by simpa using h9
  have e : (j.steps.find? fun s => !s.none) = some (j.free 2) := by simp [Job.steps, List.find?_cons, h1', h2', h3', h4', h5', h6', h7', h8', h9']
  exact fin0 (by simp [e]) rfl
 have h9' : (j.free 2).none = true := by simpa using h9
 refine LoopI.unroll mixed (Plain.retC _ _ _ _ _) rfl ?_
 refine CI.run 99 400 rfl ?_
 simp
 refine CI.ff (FnOk.bnd (args := [int 3]) (first := [.pro (jobC j)]) (by exact zv0 j 3 hj) call253 rfl rfl) rfl rfl rfl 99 ?_
 simp
 refine CI.p (ze2 (j.free 3) (qeq hj 3)) call173 99 ?_
 simp
 refine sBI (fun h10 => ?_) (fun h10 => ?_) <;> simp only [h10] <;> simp
 ·have h10' : (j.free 3).none = false := by simpa using h10
  have e : (j.steps.find? fun s => !s.none) = some (j.free 3) := by simp [Job.steps, List.find?_cons, h1', h2', h3', h4', h5', h6', h7', h8', h9', h10']
  exact fin0 (by simp [e]) rfl
 have h10' : (j.free 3).none = true := by simpa using h10
 refine LoopI.unroll mixed (Plain.retC _ _ _ _ _) rfl ?_
 refine CI.run 99 400 rfl ?_
 simp
 refine LoopI.unroll mixed (Plain.retC _ _ _ _ _) rfl ?_
 refine CI.run 99 400 rfl ?_
 simp
 have e : (j.steps.find? fun s => !s.none) = none := by simp [Job.steps, List.find?_cons, h1', h2', h3', h4', h5', h6', h7', h8', h9', h10']
 exact fin0 (by simp [e]) rfl
end Go.Proofs.YtmhfcgpmmghakaaGreatDoor
namespace Go.Proofs.YtmhfcgpmmghakaaGreatDoor
open Go.AI Go.G Tryz
set_option maxRecDepth 20000
attribute [simp] ntmps78 results78 ntmps53 results53
theorem qpe (s : Sess) (p : Store) (hs : OkSess s) (hl : s.v.have_.length ≤ 1000000) (hpl : p.hist.length ≤ 1000000) (hx : idle (zbh s) p = false → AscR (nowL p) ∧ (nowL p).length ≤ 100000) : Ct prog 78 [st (zed s), st (zbs p)] [] [] (.tup [st (zed (pump s p).1), lst ((pump s p).2.1.map zaj), int (pump s p).2.2]) [] := by
 refine Ct.B func78 mixed 99 400 ?_
 simp
 refine CI.p (zww s hs hl) call43 99 ?_
 simp
 have hq0 := zmk s
 have hqo := zr4 hs
 have hh : pump s p = zhz (zbh s) p := rfl
 rw [hh]
 clear hh
 generalize zbh s = q at hq0 hqo hx ⊢
 have S := saneS_iff.1 hq0
 have b1 := S.hl
 have b2 := S.dl
 refine CI.p (qg8 p hpl) call44 99 ?_
 simp
 refine sGI (fun h1 => ?_) (fun h1 => ?_) <;> simp only [h1] <;> simp
 ·have hi : idle q p = true := by
   have : q.greeted = false := by simpa using h1
   simp [idle, this]
  exact fin0 (by simp [zhz, hi]) rfl
 have h1' : q.greeted = true := by simpa using h1
 refine sGI (fun h2 => ?_) (fun h2 => ?_) <;> simp only [h2] <;> simp
 ·have hi : idle q p = true := by simp [idle, h2]
  exact fin0 (by simp [zhz, hi, h2]) rfl
 refine sGI (fun h3 => ?_) (fun h3 => ?_) <;> simp only [h3] <;> simp
 ·have h3' : ¬ q.stuck = 0 := by simpa using h3
  refine sBI (fun h4 => ?_) (fun h4 => ?_) <;> simp only [h4] <;> simp
  ·have h4' : q.at_ = nowI p := by simpa [nowI] using h4
   have hi : idle q p = true := by simp [idle, h3', h4']
   exact fin0 (by simp [zhz, hi, h2]) rfl
  have h4' : ¬ q.at_ = nowI p := by simpa [nowI] using h4
  have hi : idle q p = false := by simp [idle, h1', h2, h4']
  obtain ⟨ha, hw⟩ := hx hi
  refine CI.p (qjl q.v.have_ (nowL p) q.v.held hqo.v.have_ (by omega) hw ha (by omega)) call113 99 ?_ (ha := by simp [nowL])
  simp [nowL]
  rcases hn : zoa q.v.have_ (zbg (zar p)) q.v.held with _ | x
  ·simp
   exact fin0 (by simp [zhz, hi, h2, nowL, hn]) rfl
  ·simp
   refine CI.p (qde q.out x.kind) call114 99 ?_
   simp
   refine sBI (fun h5 => ?_) (fun h5 => ?_) <;> simp only [h5] <;> simp <;> (try simp only [nT, nF, dT, dF] at h5)
   ·first | exact fin0 (by simp [zhz, hi, h2, nowL, hn, zn8, h5]) rfl | exact zac (by simp [zhz, hi, h2, nowL, hn, zn8, h5])
   ·refine CI.p (qje q.v (zef q x (Nonce.push q.out x.kind).2.1)) call115 99 ?_ (ha := by simp [zef, h2])
    simp [zef, h2]
    refine ⟨by decide +kernel, ?_⟩
    first | exact fin0 (by simp [zhz, hi, h2, nowL, hn, zn8, h5, zef, zll]) rfl | exact zac (by simp [zhz, hi, h2, nowL, hn, zn8, h5, zef, zll])
 ·have h3' : q.stuck = 0 := by simpa using h3
  have hi : idle q p = false := by simp [idle, h1', h2, h3']
  obtain ⟨ha, hw⟩ := hx hi
  refine CI.p (qjl q.v.have_ (nowL p) q.v.held hqo.v.have_ (by omega) hw ha (by omega)) call113 99 ?_ (ha := by simp [nowL])
  simp [nowL]
  rcases hn : zoa q.v.have_ (zbg (zar p)) q.v.held with _ | x
  ·simp
   exact fin0 (by simp [zhz, hi, h2, nowL, hn]) rfl
  ·simp
   refine CI.p (qde q.out x.kind) call114 99 ?_
   simp
   refine sBI (fun h5 => ?_) (fun h5 => ?_) <;> simp only [h5] <;> simp <;> (try simp only [nT, nF, dT, dF] at h5)
   ·first | exact fin0 (by simp [zhz, hi, h2, nowL, hn, zn8, h5]) rfl | exact zac (by simp [zhz, hi, h2, nowL, hn, zn8, h5])
   ·refine CI.p (qje q.v (zef q x (Nonce.push q.out x.kind).2.1)) call115 99 ?_ (ha := by simp [zef, h2])
    simp [zef, h2]
    refine ⟨by decide +kernel, ?_⟩
    first | exact fin0 (by simp [zhz, hi, h2, nowL, hn, zn8, h5, zef, zll]) rfl | exact zac (by simp [zhz, hi, h2, nowL, hn, zn8, h5, zef, zll])
end Go.Proofs.YtmhfcgpmmghakaaGreatDoor
