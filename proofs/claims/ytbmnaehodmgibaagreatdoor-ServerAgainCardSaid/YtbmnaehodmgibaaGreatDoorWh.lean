/-
  LAYERS 15, 20: the walks of steps, of what is sent, of the law's helpers; what arguments are, what is laid.
-/
import Derived.Test.YtbmnaehodmgibaaGreatDoorWf
import Derived.Test.YtbmnaehodmgibaaGreatDoorWg
import Derived.Test.YtbmnaehodmgibaaGreatDoorPs
import Derived.Test.YtbmnaehodmgibaaGreatDoorFe
import Derived.Test.YtbmnaehodmgibaaGreatDoorFc
import Derived.Test.YtbmnaehodmgibaaGreatDoorWe
import Derived.Test.YtbmnaehodmgibaaGreatDoorWd
import Derived.LaidHandle
import Derived.LaidSub
import Derived.Lay
import Derived.Test.YtbmnaehodmgibaaGreatDoorRows
set_option linter.unusedSimpArgs false
set_option linter.unusedVariables false
section
namespace Go.Proofs.YtbmnaehodmgibaaGreatDoor
open Go.AI Go.G
set_option maxRecDepth 20000
noncomputable abbrev jobC (j : Job) : List D := [lD (j.adds.map resC), lD (j.gone.map keyC), zk0 j.reach, lD (j.have_.map resC), lD (j.held.map keyC)]
abbrev jobB (j : Job) : Prop := j.adds.length ≤ 1000000 ∧ j.gone.length ≤ 1000000 ∧ j.have_.length ≤ 1000000 ∧ j.held.length ≤ 1000000
attribute [simp] Tryz.ntmps162 Tryz.results162
theorem qbh (l : List Res) (kf : D) (p : Res → Bool) (hf : ∀ x ∈ l, FnOk Tryz.prog (.d kf) [st (resC x)] (bool (p x))) (hl : l.length ≤ 1000000) : Ct Tryz.prog 162 [lst (l.map resC), .d kf] [] [] (.own 64) [(64, .grow 7 ((l.filter p).map resC) 85)] := by
 refine Ct.B Tryz.func162 mixed 9999 400 ?_
 simp
 refine LoopW.nilOwn 5 7 85 rfl ?_
 refine LoopW.U mixed (l) (fun k => [(0, lst (l.map resC)), (1, .d kf), (5, .own 64), (8, lst (l.map resC)), (9, int l.length), (10, int k.1)]) (fun k => [(64, .grow 7 (((l.take k.1).filter p).map resC) 85)]) 65 [] (by constructor <;> simp) ?_
 rintro ⟨k, hk1⟩ B hB
 refine CW.run 9999 400 rfl ?_
 simp
 refine sB (fun h => ?_) (fun h => ?_)
 ·have hk : k < (l).length := by simpa using h
  obtain ⟨x, hx, hr, hm, ht, hd⟩ := inL hk
  have hw := wr (k := k) (by omega)
  simp only [h]
  simp [hr, hw]
  have hlen : ((l.take k).filter p).length ≤ 1000000 := Nat.le_trans (List.length_filter_le _ _) (by simp; omega)
  refine CW.ff (hf x hm) rfl rfl rfl 9999 ?_
  simp
  refine sB (fun h1 => ?_) (fun h1 => ?_) <;> simp only [h1] <;> simp [hr] <;> (try simp only [nT, nF, dT, dF] at h1)
  ·refine ⟨by omega, ?_⟩
   refine hB _ ⟨k + 1, by omega⟩ [] ?_ (by simp; omega)
   constructor <;> simp [hw, ht, List.filter_append, h1]
  ·refine hB _ ⟨k + 1, by omega⟩ [] ?_ (by simp; omega)
   constructor <;> simp [hw, ht, List.filter_append, h1]
 ·have hkl : k = (l).length := by simp at h; omega
  subst hkl
  simp only [h]
  simp [List.take_length, List.drop_length]
  first | (refine ⟨[(64, 64)], ?_, ?_, ?_, ?_, ?_, ?_, ?_⟩ <;> simp [nmF, inB]; done) | (refine ⟨by decide +kernel, ?_⟩; refine ⟨[(64, 64)], ?_, ?_, ?_, ?_, ?_, ?_, ?_⟩ <;> simp [nmF, inB])
attribute [simp] Tryz.ntmps252 Tryz.results252
theorem qhi (l : List Res) (n : Int) (hl : l.length ≤ 1000000) : Ct Tryz.prog 252 [lst (l.map resC), int n] [] [] (.own 64) [(64, .grow 7 ((zev l n).map resC) 85)] := by
 refine Ct.B Tryz.func252 mixed 1 400 ?_
 simp
 refine CW.s (tm := [(0, lst (l.map resC)), (3, .d (.pro [iD n]))]) (mm := []) (nx := 65) [] [64] (by constructor <;> simp) ?_
 refine CW.run 9999 400 rfl ?_
 simp
 refine CW.cc [] (qbh l (.fn (.func 308) [] [.pro [iD n]]) (fun r => decide (r.kind = n)) (fun r hr => FnOk.clo (by exact qjs r n) Tryz.call308 rfl rfl) hl) Tryz.call162 9999 ?_
 simp
 first | (refine ⟨[(64, 193)], ?_, ?_, ?_, ?_, ?_, ?_, ?_⟩ <;> simp [nmF, inB, zev]; done) | (refine ⟨by decide +kernel, ?_⟩; refine ⟨[(64, 193)], ?_, ?_, ?_, ?_, ?_, ?_, ?_⟩ <;> simp [nmF, inB, zev])
attribute [simp] Tryz.ntmps309 Tryz.results309
theorem zx6 : Ct Tryz.prog 309 [lst []] [] [] (lst []) [] := by
 refine Ct.B Tryz.func309 mixed 9999 400 ?_
 simp
 refine ⟨?_, ?_⟩
 ·first | exact fin0 (by simp) rfl | exact zaa (by simp)
 ·first | exact fin0 (by simp) rfl | exact zaa (by simp)
theorem zss (x : Key) (l : List Key) (hl : l.length ≤ 1000000) : Ct Tryz.prog 309 [lst ((x :: l).map keyC)] [] [] (.own 64) [(64, .grow 2 ((x :: l).map keyC) 89)] := by
 refine Ct.B Tryz.func309 mixed 9999 400 ?_
 simp
 refine ⟨by omega, ?_⟩
 first | (refine ⟨[(64, 384)], ?_, ?_, ?_, ?_, ?_, ?_, ?_⟩ <;> simp [nmF, inB]; done) | (refine ⟨by decide +kernel, ?_⟩; refine ⟨[(64, 384)], ?_, ?_, ?_, ?_, ?_, ?_, ?_⟩ <;> simp [nmF, inB])
attribute [simp] Tryz.ntmps127 Tryz.results127
theorem zfd (s : Step) (h : s.adds.length ≤ 1000000 ∧ s.gone.length ≤ 1000000) : Ct Tryz.prog 127 [st (zte s)] [] [] (bool s.none) [] := by
 refine Ct.B Tryz.func127 mixed 9999 400 ?_
 simp
 obtain ⟨h1, h2⟩ := h
 have w : IntKind.wrap .i64 ((s.adds.length : Int) + s.gone.length) = s.adds.length + s.gone.length := zae (by omega) (by omega)
 have e : decide ((s.adds.length : Int) + s.gone.length = 0) = s.none := by unfold Step.none; exact decide_eq_decide.2 (by omega)
 simp [w]
 rw [e]
 first | exact fin0 (by simp) rfl | exact zaa (by simp)
attribute [simp] Tryz.ntmps253 Tryz.results253
theorem qkb (j : Job) (r : Res) : Ct Tryz.prog 253 [st (resC r), .d (.pro [.pro (jobC j)])] [] [] (bool (!decide (r.key ∈ j.reach))) [] := by
 refine Ct.B Tryz.func253 mixed 9999 400 ?_
 simp
 by_cases h : r.key ∈ j.reach
 ·have e1 := zh8 h
  refine CW.p (zew r) Tryz.call97 9999 ?_ (ha := by simp [e1])
  simp [e1]
  refine ⟨by decide +kernel, ?_⟩
  first | exact fin0 (by simp [h]) rfl | exact zaa (by simp [h])
 ·have e1 := zhf h
  refine CW.p (zew r) Tryz.call97 9999 ?_ (ha := by simp [e1])
  simp [e1]
  refine ⟨by decide +kernel, ?_⟩
  first | exact fin0 (by simp [h]) rfl | exact zaa (by simp [h])
attribute [simp] Tryz.ntmps191 Tryz.results191
theorem zui (j : Job) (n : Int) (hj : jobB j) : Ct Tryz.prog 191 [.d (.pro (jobC j)), int n] [] [] (st (zte (j.early n))) [] := by
 refine Ct.B Tryz.func191 mixed 1 400 ?_
 simp
 refine CW.s (tm := [(1, int n), (2, .d (.pro [.pro (jobC j)])), (4, .ptr 64 0)]) (mm := [(64, .cells [int 0, lst [], lst []] 135)]) (nx := 65) [(64, 128)] [64] (by constructor <;> simp) ?_
 refine CW.run 9999 400 rfl ?_
 simp
 obtain ⟨K, hK⟩ : ∃ K, zev j.adds n = K := ⟨_, rfl⟩
 have hlen : K.length ≤ 1000000 := by rw [← hK]; exact Nat.le_trans (zgy _ _) hj.1
 have e : (j.early n).adds = K.filter fun r => !(!decide (r.key ∈ j.reach)) := by simp [Job.early, hK]
 have e1 : (j.early n).kind = n := rfl
 have e2 : (j.early n).gone = [] := rfl
 refine CW.cc [] (qhi j.adds n hj.1) Tryz.call252 9999 ?_
 simp
 rw [hK, e, e1, e2]
 clear e e1 e2 hK
 cases K with
 | nil =>
   refine CW.g [385] [] (delE (.fn (.func 253) [] [.pro [.pro (jobC j)]])) Tryz.call113 9999 ?_
   simp
   first | exact fin0 (by simp) rfl | exact zaa (by simp)
 | cons x l =>
   refine CW.cc [385] (delC (x :: l) (.fn (.func 253) [] [.pro [.pro (jobC j)]]) (fun r => !decide (r.key ∈ j.reach)) (fun r hr => FnOk.clo (by exact qkb j r) Tryz.call253 rfl rfl) hlen) Tryz.call113 9999 ?_
   simp
   first | exact fin0 (by simp) rfl | exact zaa (by simp)
attribute [simp] Tryz.ntmps193 Tryz.results193
theorem zvt (j : Job) (n : Int) (hj : jobB j) : Ct Tryz.prog 193 [.d (.pro (jobC j)), int n] [] [] (st (zte (j.late n))) [] := by
 refine Ct.B Tryz.func193 mixed 9999 400 ?_
 simp
 refine CW.p (qe9 j.adds n hj.1) Tryz.call252 9999 ?_
 simp
 first | exact fin0 (by simp [Job.late, zev]) rfl | exact zaa (by simp [Job.late, zev])
attribute [simp] Tryz.ntmps310 Tryz.results310
theorem off1 (n : Int) (k_ : Key) : Ct Tryz.prog 310 [st (keyC k_), .d (.pro [iD n])] [] [] (bool (!decide (k_.kind = n))) [] := by
 refine Ct.B Tryz.func310 mixed 9999 400 ?_
 simp
 first | exact fin0 (by simp) rfl | exact zaa (by simp)
attribute [simp] Tryz.ntmps164 Tryz.results164
theorem qee (l : List Key) (kf : D) (p : Key → Bool) (hf : ∀ x ∈ l, FnOk Tryz.prog (.d kf) [st (keyC x)] (bool (p x))) (hl : l.length ≤ 1000000) (h1 : idxF p l = -1) : Ct Tryz.prog 164 [.own 0, .d kf] [] [(0, .grow 2 (l.map keyC) 89)] (.own 0) [(0, .grow 2 (l.map keyC) 89)] := by
 refine Ct.B Tryz.func164 mixed 9999 400 ?_
 simp
 refine CW.cc [0] (zpf l kf p hf (by omega)) Tryz.call198 9999 ?_
 simp
 simp [h1]
 first | (refine ⟨[], ?_, ?_, ?_, ?_, ?_, ?_, ?_⟩ <;> simp [nmF, inB]; done) | (refine ⟨by decide +kernel, ?_⟩; refine ⟨[], ?_, ?_, ?_, ?_, ?_, ?_, ?_⟩ <;> simp [nmF, inB])
theorem qed (l : List Key) (kf : D) (p : Key → Bool) (hf : ∀ x ∈ l, FnOk Tryz.prog (.d kf) [st (keyC x)] (bool (p x))) (hl : l.length ≤ 1000000) (i : Nat) (x : Key) (h1 : idxF p l = i) (h2 : i < l.length) : Ct Tryz.prog 164 [.own 0, .d kf] [] [(0, .grow 2 (l.map keyC) 89)] (.sl 0 2 0 (l.filter fun x => !p x).length) [(0, .grow 2 ((l.filter fun x => !p x).map keyC ++ List.replicate (l.length - (l.filter fun x => !p x).length) [iD 0, sD ⟨#[]⟩]) 89)] := by
 refine Ct.B Tryz.func164 mixed 9999 400 ?_
 simp
 refine CW.cc [0] (zpf l kf p hf (by omega)) Tryz.call198 9999 ?_
 simp
 have hne : ¬ (i : Int) = -1 := by omega
 have hwi : IntKind.wrap .i64 ((i : Int) + 1) = i + 1 := zae (by omega) (by omega)
 simp [h1, hne, hwi]
 have d0 := DelSt.start (x := x) h1 h2
 refine LoopW.inv mixed (Plain.retC _ _ _ _ _) rfl (ι := {q : Nat × Nat × List Key // DelSt p l q.1 q.2.1 q.2.2}) (fun k => [(0, .own 0), (1, .d kf), (5, int k.1.2.1), (6, int k.1.1)]) (fun k => [(0, .grow 2 (k.1.2.2.map keyC) 89)]) 64 (fun k => l.length - k.1.1) ⟨(i + 1, i, l), d0⟩ [] (by constructor <;> simp) ?_
 rintro ⟨⟨j, i, cur⟩, hd⟩ B hB
 clear h1 h2 hne hwi d0
 have hlen := hd.len
 have hlt := hd.lt
 have hle := hd.le
 simp only at hlen hlt hle
 have w1 : IntKind.wrap .i64 ((j : Int) + 1) = j + 1 := zae (by omega) (by omega)
 have w2 : IntKind.wrap .i64 ((i : Int) + 1) = i + 1 := zae (by omega) (by omega)
 refine CW.run 9999 400 rfl ?_
 simp [hlen]
 refine sB (fun h => ?_) (fun h => ?_) <;> simp only [h] <;> simp <;> (try simp only [nT, nF, dT, dF] at h)
 ·have hj : j < l.length := by omega
  have hv : l[j]? = some l[j] := List.getElem?_eq_getElem hj
  have hm : l[j] ∈ l := List.getElem_mem hj
  generalize l[j] = v at hv hm
  have hg := hd.get hv
  have hjc : j < cur.length := by omega
  have hgx : cur[j] = v := by rw [List.getElem?_eq_getElem hjc] at hg; exact Option.some.inj hg
  simp [hjc, hgx]
  refine CW.ff (hf v hm) rfl rfl rfl 9999 ?_
  simp
  have hic : i < cur.length := by omega
  refine sB (fun h2 => ?_) (fun h2 => ?_) <;> simp only [h2] <;> simp [hic]
  ·have hp : p v = false := by simpa using h2
   refine hB _ ⟨(j + 1, i + 1, cur.set i v), hd.keep hv hp⟩ [] ?_ (by simp; omega)
   constructor <;> simp [w1, w2, List.map_set]
  ·have hp : p v = true := by simpa using h2
   refine hB _ ⟨(j + 1, i, cur), hd.del hv hp⟩ [] ?_ (by simp; omega)
   constructor <;> simp [w1]
 ·have hj : j = l.length := by omega
  subst hj
  have e : cur.take i = l.filter (fun x => !p x) := hd.done
  simp [hlen]
  have e2 : List.take i (List.map keyC cur) = List.map keyC (List.filter (fun x => !p x) l) := by rw [← List.map_take, e]
  have e3 : (List.filter (fun x => !p x) l).length = i := by rw [← e, List.length_take]; omega
  refine ⟨by omega, by omega, by omega, ?_⟩
  have e4 : List.drop (i + (l.length - i)) (List.map keyC cur) = [] := by rw [List.drop_eq_nil_iff]; simp; omega
  rw [e2, e3, e4]
  first | (refine ⟨[], ?_, ?_, ?_, ?_, ?_, ?_, ?_⟩ <;> simp [nmF, inB]; done) | (refine ⟨by decide +kernel, ?_⟩; refine ⟨[], ?_, ?_, ?_, ?_, ?_, ?_, ?_⟩ <;> simp [nmF, inB])
theorem qec (l : List Key) (kf : D) (p : Key → Bool) (hf : ∀ x ∈ l, FnOk Tryz.prog (.d kf) [st (keyC x)] (bool (p x))) (hl : l.length ≤ 1000000) : Ct Tryz.prog 164 [.own 0, .d kf] [] [(0, .grow 2 (l.map keyC) 89)] (.own 64) [(64, .grow 2 ((l.filter fun x => !p x).map keyC) 89)] := by
 rcases zja p l with ⟨h1, h2⟩ | ⟨i, x, h1, h2, h3, h4⟩
 ·have e : (l.filter fun x => !p x) = l := by
   rw [List.filter_eq_self]; intro a ha
   have := List.find?_eq_none.1 h2 a ha; simpa using this
  have := Ct.trunc (Or.inl ⟨rfl, rfl⟩) (Nat.le_refl _) (qee l kf p hf hl h1)
  rw [List.take_length] at this
  rw [e]
  exact this
 ·have := Ct.trunc (Or.inr rfl) (by simp) (qed l kf p hf hl i x h1 h2)
  rw [List.take_left' (by simp)] at this
  exact this
attribute [simp] Tryz.ntmps254 Tryz.results254
theorem qjj (j : Job) (n : Int) (hj : jobB j) : Ct Tryz.prog 254 [.d (.pro (jobC j)), int n] [] [] (st (zte (j.off n))) [] := by
 refine Ct.B Tryz.func254 mixed 1 400 ?_
 simp
 refine CW.s (tm := [(0, .d (.pro (jobC j))), (3, .d (.pro [iD n])), (4, .ptr 64 0)]) (mm := [(64, .cells [int 0, lst [], lst []] 135)]) (nx := 65) [(64, 128)] [64] (by constructor <;> simp) ?_
 refine CW.run 9999 400 rfl ?_
 simp
 have e : (j.off n).gone = j.gone.filter fun k => !(!decide (k.kind = n)) := by simp [Job.off, zgm]
 have e1 : (j.off n).kind = n := rfl
 have e2 : (j.off n).adds = [] := rfl
 have hlen := hj.2.1
 rw [e, e1, e2]
 clear e e1 e2
 generalize j.gone = G at hlen ⊢
 cases G with
 | nil =>
   refine CW.p zx6 Tryz.call309 9999 ?_
   simp
   refine CW.p (zv9 (.fn (.func 310) [] [.pro [iD n]])) Tryz.call164 9999 ?_
   simp
   first | exact fin0 (by simp) rfl | exact zaa (by simp)
 | cons x l =>
   refine CW.cc [] (zss x l (by simp at hlen; omega)) Tryz.call309 9999 ?_
   simp
   refine CW.cc [321] (zpo (x :: l) (.fn (.func 310) [] [.pro [iD n]]) (fun k => !decide (k.kind = n)) (fun k hk => FnOk.clo (by exact off1 n k) Tryz.call310 rfl rfl) hlen) Tryz.call164 9999 ?_
   simp
   first | exact fin0 (by simp) rfl | exact zaa (by simp)
theorem qjk (j : Job) (n : Int) (x : Key) (l : List Key) (hg : j.gone = x :: l) (hj : jobB j) : Ct Tryz.prog 254 [.d (.pro (jobC j)), int n] [] [] (.agg [int n, lst [], .own 64]) [(64, .grow 2 ((zgm j.gone n).map keyC) 89)] := by
 refine Ct.B Tryz.func254 mixed 1 400 ?_
 simp
 refine CW.s (tm := [(0, .d (.pro (jobC j))), (3, .d (.pro [iD n])), (4, .ptr 64 0)]) (mm := [(64, .cells [int 0, lst [], lst []] 135)]) (nx := 65) [(64, 128)] [64] (by constructor <;> simp) ?_
 refine CW.run 9999 400 rfl ?_
 simp
 have e : zgm j.gone n = j.gone.filter fun k => !(!decide (k.kind = n)) := by simp [zgm]
 have hlen := hj.2.1
 rw [e, hg]
 rw [hg] at hlen
 clear e
 refine CW.cc [] (zss x l (by simp at hlen; omega)) Tryz.call309 9999 ?_
 simp
 refine CW.cc [321] (qec (x :: l) (.fn (.func 310) [] [.pro [iD n]]) (fun k => !decide (k.kind = n)) (fun k hk => FnOk.clo (by exact off1 n k) Tryz.call310 rfl rfl) hlen) Tryz.call164 9999 ?_
 simp
 first | (refine ⟨[(64, 449)], ?_, ?_, ?_, ?_, ?_, ?_, ?_⟩ <;> simp [nmF, inB]; done) | (refine ⟨by decide +kernel, ?_⟩; refine ⟨[(64, 449)], ?_, ?_, ?_, ?_, ?_, ?_, ?_⟩ <;> simp [nmF, inB])
attribute [simp] Tryz.ntmps192 Tryz.results192
theorem qhy (j : Job) (n : Int) (hj : jobB j) : Ct Tryz.prog 192 [.d (.pro (jobC j)), int n] [] [] (st (zte (j.doors n))) [] := by
 refine Ct.B Tryz.func192 mixed 9999 400 ?_
 simp
 refine CW.p (zvt j n hj) Tryz.call193 9999 ?_
 simp
 refine CW.p (qjj j n hj) Tryz.call254 9999 ?_
 simp
 first | exact fin0 (by simp [Job.doors, Job.late, Job.off]) rfl | exact zaa (by simp [Job.doors, Job.late, Job.off])
attribute [simp] Tryz.ntmps255 Tryz.results255
theorem xaa (j : Job) (k_ : Key) (hj : jobB j) : Ct Tryz.prog 255 [st (keyC k_), .d (.pro [.pro (jobC j)])] [] [] (bool (!j.freeK k_)) [] := by
 refine Ct.B Tryz.func255 mixed 9999 400 ?_
 simp
 refine CW.p (qff j.held k_ (by have := hj.2.2.2; omega)) Tryz.call95 9999 ?_
 simp
 refine sG (fun h1 => ?_) (fun h1 => ?_) <;> simp only [h1] <;> simp
 ·have e : (!j.freeK k_) = true := by simp [Job.freeK, h1]
  rw [e]
  refine ⟨by decide +kernel, ?_⟩
  first | exact fin0 (by simp) rfl | exact zaa (by simp)
 ·refine CW.p (qcs j.have_ k_ hj.2.2.1) Tryz.call37 9999 ?_
  simp
  have e : (!j.freeK k_) = decide (0 < (zc8 j.have_ k_).length) := by simp [Job.freeK, h1]
  rw [e]
  refine ⟨by decide +kernel, ?_⟩
  first | exact fin0 (by simp) rfl | exact zaa (by simp)
attribute [simp] Tryz.ntmps194 Tryz.results194
theorem zue (j : Job) (n : Int) (hj : jobB j) : Ct Tryz.prog 194 [.d (.pro (jobC j)), int n] [] [] (st (zte (j.free n))) [] := by
 refine Ct.B Tryz.func194 mixed 1 400 ?_
 simp
 refine CW.s (tm := [(1, int n), (2, .d (.pro [.pro (jobC j)])), (4, .ptr 64 0)]) (mm := [(64, .cells [int 0, lst [], lst []] 135)]) (nx := 65) [(64, 128)] [64] (by constructor <;> simp) ?_
 refine CW.run 9999 400 rfl ?_
 simp
 have e : (j.free n).gone = (zgm j.gone n).filter fun k => !(!j.freeK k) := by simp [Job.free]
 have e1 : (j.free n).kind = n := rfl
 have e2 : (j.free n).adds = [] := rfl
 have hlen : (zgm j.gone n).length ≤ 1000000 := Nat.le_trans (zi2 _ _) hj.2.1
 rw [e, e1, e2]
 clear e e1 e2
 rcases hG : j.gone with _ | ⟨x, l⟩
 ·have o1 : (j.off n).gone = [] := by simp [Job.off, zgm, hG]
  have o2 : (j.off n).kind = n := rfl
  have o3 : (j.off n).adds = [] := rfl
  have o4 : zgm [] n = [] := rfl
  refine CW.p (qjj j n hj) Tryz.call254 9999 ?_ (ha := by simp [o1, o2, o3])
  simp [o1, o2, o3]
  refine CW.p (zv9 (.fn (.func 255) [] [.pro [.pro (jobC j)]])) Tryz.call164 9999 ?_
  simp
  first | exact fin0 (by simp [o4]) rfl | exact zaa (by simp [o4])
 ·refine CW.cc [] (qjk j n x l hG hj) Tryz.call254 9999 ?_
  simp
  refine CW.cc [193] (zpo (zgm j.gone n) (.fn (.func 255) [] [.pro [.pro (jobC j)]]) (fun k => !j.freeK k) (fun k _ => FnOk.clo (by exact xaa j k hj) Tryz.call255 rfl rfl) hlen) Tryz.call164 9999 ?_
  simp
  first | exact fin0 (by simp [hG]) rfl | exact zaa (by simp [hG])
abbrev fnJ (f : FuncId) (j : List D) : D := .fn (.func f) [.pro j] []
noncomputable abbrev qgw (j : Job) : List (List D) := [[lD [[iD 3], [iD 2], [iD 1]], fnJ 191 (jobC j)], [lD [[iD 0]], fnJ 192 (jobC j)], [lD [[iD 3], [iD 2], [iD 1]], fnJ 193 (jobC j)], [lD [[iD 1], [iD 2], [iD 3]], fnJ 194 (jobC j)]]
attribute [simp] Tryz.ntmps126 Tryz.results126
theorem qcv (j : Job) : Ct Tryz.prog 126 [.d (.pro (jobC j))] [] [] (lst (qgw j)) [] := by
 refine Ct.B Tryz.func126 mixed 9999 400 ?_
 simp
 refine CW.opG [128, 256, 640] 9999 400 rfl rfl (by first | exact .inl rfl | exact .inr ⟨_, _, rfl, by simp⟩ | exact .inr ⟨_, _, rfl, by simp [*]⟩) (by simp) ?_
 simp [zgb, gvB]
 first | exact fin0 (by simp) rfl | exact zaa (by simp)
attribute [simp] Tryz.ntmps125 Tryz.results125
theorem qia (hv want : List Res) (held : List Key) (hh : OkRs hv) (hl : hv.length ≤ 1000000) (hw : want.length ≤ 100000) (ha : AscR want) : Ct Tryz.prog 125 [lst (hv.map resC), lst (want.map resC), lst (held.map keyC)] [] [] (.d (.pro (jobC (zah hv want held)))) [] := by
 refine Ct.B Tryz.func125 mixed 9999 400 ?_
 simp
 refine CW.p (qfk hv want hh hl (by omega)) Tryz.call90 9999 ?_
 simp
 refine CW.p (zou want ha hw) Tryz.call46 9999 ?_
 simp
 have hrl : (zal want).length ≤ 100000 := Nat.le_trans (List.length_filter_le _ _) hw
 refine LoopW.U mixed ((zal want)) (fun k => [(7, .ptr 64 0), (28, lst ((zal want).map resC)), (29, int (zal want).length), (30, int k.1)]) (fun k => [(64, .cells [lst ((zca hv want).map resC), lst ((zda hv want).map keyC), .own 65, lst (hv.map resC), lst (held.map keyC)] 274), (65, .map true [.int, .str] false (zer (((zal want).take k.1).map Res.key)))]) 66 [] (by constructor <;> simp [zfl]) ?_
 rintro ⟨k, hk1⟩ B hB
 refine CW.run 9999 400 rfl ?_
 simp [zfl]
 refine sB (fun h => ?_) (fun h => ?_)
 ·have hk : k < ((zal want)).length := by simpa using h
  obtain ⟨x, hx, hr, hm, ht, hd⟩ := inL hk
  have hw := wr (k := k) (by omega)
  simp only [h]
  simp [hr, hw]
  refine CW.p (zew x) Tryz.call97 9999 ?_
  simp
  refine ⟨by decide +kernel, ?_⟩
  refine hB _ ⟨k + 1, by omega⟩ [] ?_ (by simp; omega)
  constructor <;> simp [hw, ht]
 ·have hkl : k = ((zal want)).length := by simp at h; omega
  subst hkl
  simp only [h]
  simp [List.take_length, List.drop_length]
  first | exact fin0 (by simp [zah]) rfl | exact zaa (by simp [zah])
theorem zuj {j : Job} (hj : jobB j) (n : Int) : (j.early n).adds.length ≤ 1000000 ∧ (j.early n).gone.length ≤ 1000000 :=
 ⟨Nat.le_trans (List.length_filter_le _ _) (Nat.le_trans (zgy _ _) hj.1), by simp [Job.early]⟩
theorem qao {j : Job} (hj : jobB j) (n : Int) : (j.late n).adds.length ≤ 1000000 ∧ (j.late n).gone.length ≤ 1000000 :=
 ⟨Nat.le_trans (zgy _ _) hj.1, by simp [Job.late]⟩
theorem qhz {j : Job} (hj : jobB j) (n : Int) : (j.doors n).adds.length ≤ 1000000 ∧ (j.doors n).gone.length ≤ 1000000 :=
 ⟨Nat.le_trans (zgy _ _) hj.1, Nat.le_trans (zi2 _ _) hj.2.1⟩
theorem qba {j : Job} (hj : jobB j) (n : Int) : (j.free n).adds.length ≤ 1000000 ∧ (j.free n).gone.length ≤ 1000000 :=
 ⟨by simp [Job.free], Nat.le_trans (List.length_filter_le _ _) (Nat.le_trans (zi2 _ _) hj.2.1)⟩
theorem qe2 (hv want : List Res) (held : List Key) (hh : OkRs hv) (hl : hv.length ≤ 1000000) (hw : want.length ≤ 100000) (ha : AscR want) (hd : held.length ≤ 1000000) : Ct Tryz.prog 61 [lst (hv.map resC), lst (want.map resC), lst (held.map keyC)] [] [] (.tup [st (zte ((zeq hv want held).getD ⟨0, [], []⟩)), bool (zeq hv want held).isSome]) [] := by
 refine Ct.of_body Tryz.func61 rfl mixed (by rw [Tryz.ntmps61]; simp) (CW.seqScope mixed (Plain.retC _ _ _ _ _) rfl (CW.run 9999 400 rfl ?_))
 simp
 refine CW.p (qia hv want held hh hl hw ha) Tryz.call125 9999 ?_
 simp
 refine CW.p (qcv (zah hv want held)) Tryz.call126 9999 ?_
 simp
 have hn : zeq hv want held = (zah hv want held).steps.find? fun s => !s.none := rfl
 have hj : jobB (zah hv want held) := ⟨Nat.le_trans (diffA_len _ _) (by omega), Nat.le_trans (diffG_len _ _) hl, hl, hd⟩
 rw [hn]
 clear hn
 generalize zah hv want held = j at hj ⊢
 refine LoopW.unroll mixed (Plain.retC _ _ _ _ _) rfl ?_
 refine CW.run 9999 400 rfl ?_
 simp
 refine LoopW.unroll mixed (Plain.retC _ _ _ _ _) rfl ?_
 refine CW.run 9999 400 rfl ?_
 simp
 refine CW.ff (FnOk.bnd (args := [int 3]) (first := [.pro (jobC j)]) (by exact zui j 3 hj) Tryz.call191 rfl rfl) rfl rfl rfl 9999 ?_
 simp
 refine CW.p (zfd (j.early 3) (zuj hj 3)) Tryz.call127 9999 ?_
 simp
 refine sB (fun h1 => ?_) (fun h1 => ?_) <;> simp only [h1] <;> simp
 ·have h1' : (j.early 3).none = false := by simpa using h1
  have e : (j.steps.find? fun s => !s.none) = some (j.early 3) := by simp [Job.steps, List.find?_cons, h1']
  first | exact fin0 (by simp [e]) rfl | exact zaa (by simp [e])
 have h1' : (j.early 3).none = true := by simpa using h1
 refine LoopW.unroll mixed (Plain.retC _ _ _ _ _) rfl ?_
 refine CW.run 9999 400 rfl ?_
 simp
 refine CW.ff (FnOk.bnd (args := [int 2]) (first := [.pro (jobC j)]) (by exact zui j 2 hj) Tryz.call191 rfl rfl) rfl rfl rfl 9999 ?_
 simp
 refine CW.p (zfd (j.early 2) (zuj hj 2)) Tryz.call127 9999 ?_
 simp
 refine sB (fun h2 => ?_) (fun h2 => ?_) <;> simp only [h2] <;> simp
 ·have h2' : (j.early 2).none = false := by simpa using h2
  have e : (j.steps.find? fun s => !s.none) = some (j.early 2) := by simp [Job.steps, List.find?_cons, h1', h2']
  first | exact fin0 (by simp [e]) rfl | exact zaa (by simp [e])
 have h2' : (j.early 2).none = true := by simpa using h2
 refine LoopW.unroll mixed (Plain.retC _ _ _ _ _) rfl ?_
 refine CW.run 9999 400 rfl ?_
 simp
 refine CW.ff (FnOk.bnd (args := [int 1]) (first := [.pro (jobC j)]) (by exact zui j 1 hj) Tryz.call191 rfl rfl) rfl rfl rfl 9999 ?_
 simp
 refine CW.p (zfd (j.early 1) (zuj hj 1)) Tryz.call127 9999 ?_
 simp
 refine sB (fun h3 => ?_) (fun h3 => ?_) <;> simp only [h3] <;> simp
 ·have h3' : (j.early 1).none = false := by simpa using h3
  have e : (j.steps.find? fun s => !s.none) = some (j.early 1) := by simp [Job.steps, List.find?_cons, h1', h2', h3']
  first | exact fin0 (by simp [e]) rfl | exact zaa (by simp [e])
 have h3' : (j.early 1).none = true := by simpa using h3
 refine LoopW.unroll mixed (Plain.retC _ _ _ _ _) rfl ?_
 refine CW.run 9999 400 rfl ?_
 simp
 refine LoopW.unroll mixed (Plain.retC _ _ _ _ _) rfl ?_
 refine CW.run 9999 400 rfl ?_
 simp
 refine LoopW.unroll mixed (Plain.retC _ _ _ _ _) rfl ?_
 refine CW.run 9999 400 rfl ?_
 simp
 refine CW.ff (FnOk.bnd (args := [int 0]) (first := [.pro (jobC j)]) (by exact qhy j 0 hj) Tryz.call192 rfl rfl) rfl rfl rfl 9999 ?_
 simp
 refine CW.p (zfd (j.doors 0) (qhz hj 0)) Tryz.call127 9999 ?_
 simp
 refine sB (fun h4 => ?_) (fun h4 => ?_) <;> simp only [h4] <;> simp
 ·have h4' : (j.doors 0).none = false := by simpa using h4
  have e : (j.steps.find? fun s => !s.none) = some (j.doors 0) := by simp [Job.steps, List.find?_cons, h1', h2', h3', h4']
  first | exact fin0 (by simp [e]) rfl | exact zaa (by simp [e])
 have h4' : (j.doors 0).none = true := by simpa using h4
 refine LoopW.unroll mixed (Plain.retC _ _ _ _ _) rfl ?_
 refine CW.run 9999 400 rfl ?_
 simp
 refine LoopW.unroll mixed (Plain.retC _ _ _ _ _) rfl ?_
 refine CW.run 9999 400 rfl ?_
 simp
 refine LoopW.unroll mixed (Plain.retC _ _ _ _ _) rfl ?_
 refine CW.run 9999 400 rfl ?_
 simp
 refine CW.ff (FnOk.bnd (args := [int 3]) (first := [.pro (jobC j)]) (by exact zvt j 3 hj) Tryz.call193 rfl rfl) rfl rfl rfl 9999 ?_
 simp
 refine CW.p (zfd (j.late 3) (qao hj 3)) Tryz.call127 9999 ?_
 simp
 refine sB (fun h5 => ?_) (fun h5 => ?_) <;> simp only [h5] <;> simp
 ·have h5' : (j.late 3).none = false := by simpa using h5
  have e : (j.steps.find? fun s => !s.none) = some (j.late 3) := by simp [Job.steps, List.find?_cons, h1', h2', h3', h4', h5']
  first | exact fin0 (by simp [e]) rfl | exact zaa (by simp [e])
 have h5' : (j.late 3).none = true := by simpa using h5
 refine LoopW.unroll mixed (Plain.retC _ _ _ _ _) rfl ?_
 refine CW.run 9999 400 rfl ?_
 simp
 refine CW.ff (FnOk.bnd (args := [int 2]) (first := [.pro (jobC j)]) (by exact zvt j 2 hj) Tryz.call193 rfl rfl) rfl rfl rfl 9999 ?_
 simp
 refine CW.p (zfd (j.late 2) (qao hj 2)) Tryz.call127 9999 ?_
 simp
 refine sB (fun h6 => ?_) (fun h6 => ?_) <;> simp only [h6] <;> simp
 ·have h6' : (j.late 2).none = false := by simpa using h6
  have e : (j.steps.find? fun s => !s.none) = some (j.late 2) := by simp [Job.steps, List.find?_cons, h1', h2', h3', h4', h5', h6']
  first | exact fin0 (by simp [e]) rfl | exact zaa (by simp [e])
 have h6' : (j.late 2).none = true := by simpa using h6
 refine LoopW.unroll mixed (Plain.retC _ _ _ _ _) rfl ?_
 refine CW.run 9999 400 rfl ?_
 simp
 refine CW.ff (FnOk.bnd (args := [int 1]) (first := [.pro (jobC j)]) (by exact zvt j 1 hj) Tryz.call193 rfl rfl) rfl rfl rfl 9999 ?_
 simp
 refine CW.p (zfd (j.late 1) (qao hj 1)) Tryz.call127 9999 ?_
 simp
 refine sB (fun h7 => ?_) (fun h7 => ?_) <;> simp only [h7] <;> simp
 ·have h7' : (j.late 1).none = false := by simpa using h7
  have e : (j.steps.find? fun s => !s.none) = some (j.late 1) := by simp [Job.steps, List.find?_cons, h1', h2', h3', h4', h5', h6', h7']
  first | exact fin0 (by simp [e]) rfl | exact zaa (by simp [e])
 have h7' : (j.late 1).none = true := by simpa using h7
 refine LoopW.unroll mixed (Plain.retC _ _ _ _ _) rfl ?_
 refine CW.run 9999 400 rfl ?_
 simp
 refine LoopW.unroll mixed (Plain.retC _ _ _ _ _) rfl ?_
 refine CW.run 9999 400 rfl ?_
 simp
 refine LoopW.unroll mixed (Plain.retC _ _ _ _ _) rfl ?_
 refine CW.run 9999 400 rfl ?_
 simp
 refine CW.ff (FnOk.bnd (args := [int 1]) (first := [.pro (jobC j)]) (by exact zue j 1 hj) Tryz.call194 rfl rfl) rfl rfl rfl 9999 ?_
 simp
 refine CW.p (zfd (j.free 1) (qba hj 1)) Tryz.call127 9999 ?_
 simp
 refine sB (fun h8 => ?_) (fun h8 => ?_) <;> simp only [h8] <;> simp
 ·have h8' : (j.free 1).none = false := by simpa using h8
  have e : (j.steps.find? fun s => !s.none) = some (j.free 1) := by simp [Job.steps, List.find?_cons, h1', h2', h3', h4', h5', h6', h7', h8']
  first | exact fin0 (by simp [e]) rfl | exact zaa (by simp [e])
 have h8' : (j.free 1).none = true := by simpa using h8
 refine LoopW.unroll mixed (Plain.retC _ _ _ _ _) rfl ?_
 refine CW.run 9999 400 rfl ?_
 simp
 refine CW.ff (FnOk.bnd (args := [int 2]) (first := [.pro (jobC j)]) (by exact zue j 2 hj) Tryz.call194 rfl rfl) rfl rfl rfl 9999 ?_
 simp
 refine CW.p (zfd (j.free 2) (qba hj 2)) Tryz.call127 9999 ?_
 simp
 refine sB (fun h9 => ?_) (fun h9 => ?_) <;> simp only [h9] <;> simp
 ·have h9' : (j.free 2).none = false := by simpa using h9
  have e : (j.steps.find? fun s => !s.none) = some (j.free 2) := by simp [Job.steps, List.find?_cons, h1', h2', h3', h4', h5', h6', h7', h8', h9']
  first | exact fin0 (by simp [e]) rfl | exact zaa (by simp [e])
 have h9' : (j.free 2).none = true := by simpa using h9
 refine LoopW.unroll mixed (Plain.retC _ _ _ _ _) rfl ?_
 refine CW.run 9999 400 rfl ?_
 simp
 refine CW.ff (FnOk.bnd (args := [int 3]) (first := [.pro (jobC j)]) (by exact zue j 3 hj) Tryz.call194 rfl rfl) rfl rfl rfl 9999 ?_
 simp
 refine CW.p (zfd (j.free 3) (qba hj 3)) Tryz.call127 9999 ?_
 simp
 refine sB (fun h10 => ?_) (fun h10 => ?_) <;> simp only [h10] <;> simp
 ·have h10' : (j.free 3).none = false := by simpa using h10
  have e : (j.steps.find? fun s => !s.none) = some (j.free 3) := by simp [Job.steps, List.find?_cons, h1', h2', h3', h4', h5', h6', h7', h8', h9', h10']
  first | exact fin0 (by simp [e]) rfl | exact zaa (by simp [e])
 have h10' : (j.free 3).none = true := by simpa using h10
 refine LoopW.unroll mixed (Plain.retC _ _ _ _ _) rfl ?_
 refine CW.run 9999 400 rfl ?_
 simp
 refine LoopW.unroll mixed (Plain.retC _ _ _ _ _) rfl ?_
 refine CW.run 9999 400 rfl ?_
 simp
 have e : (j.steps.find? fun s => !s.none) = none := by simp [Job.steps, List.find?_cons, h1', h2', h3', h4', h5', h6', h7', h8', h9', h10']
 first | exact fin0 (by simp [e]) rfl | exact zaa (by simp [e])
end Go.Proofs.YtbmnaehodmgibaaGreatDoor
end
section
namespace Go.Proofs.YtbmnaehodmgibaaGreatDoor
open Go.AI Go.G
set_option maxRecDepth 20000
attribute [simp] Tryz.ntmps16 Tryz.results16
attribute [simp] Tryz.ntmps82 Tryz.results82
theorem zzt (f : G.Frame) (hl : f.have_.length ≤ 1000000) : Ct Tryz.prog 82 [st (zak f)] [] [] (st (zak f)) [] := by
 refine Ct.B Tryz.func82 mixed 9999 400 ?_
 simp
 refine LoopW.nilCell 1408 8 3 122 31 _ rfl rfl ?_
 refine LoopW.U mixed (f.have_) (fun k => [(1, .ptr 64 0), (2, .ptr 65 0), (3, .ptr 66 0), (4, int k.1)]) (fun k => [(64, .cells ((zak f).map .d) 46), (65, .cells ((zak zFrame).map .d) 31), (66, .cells [int f.type, int f.epoch, int f.kind, int f.nonce, int f.turn, lst (f.adds.map resC), lst (f.gone.map keyC), int f.err, .own 67, lst (f.held.map keyC)] 31), (67, .grow 3 ((f.have_.take k.1).map zdv) 122)]) 68 [] (by constructor <;> simp [zFrame]) ?_
 rintro ⟨k, hk1⟩ B hB
 refine CW.run 9999 400 rfl ?_
 simp [zFrame]
 refine sB (fun h => ?_) (fun h => ?_)
 ·have hk : k < (f.have_).length := by simpa using h
  obtain ⟨x, hx, hr, hm, ht, hd⟩ := inL hk
  have hw := wr (k := k) (by omega)
  simp only [h]
  simp [hr, hw]
  refine ⟨by omega, ?_⟩
  refine ⟨by decide +kernel, ?_⟩
  refine hB _ ⟨k + 1, by omega⟩ [] ?_ (by simp; omega)
  constructor <;> simp [hw, ht, zFrame]
 ·have hkl : k = (f.have_).length := by simp at h; omega
  subst hkl
  simp only [h]
  simp [List.take_length, List.drop_length]
  have e : List.take f.have_.length (List.map zdv f.have_) = List.map zdv f.have_ := by rw [← List.map_take, List.take_length]
  first | exact fin0 (by simp [e]) rfl | exact zaa (by simp [e])
attribute [simp] Tryz.ntmps54 Tryz.results54
attribute [simp] Tryz.ntmps57 Tryz.results57
theorem qgh (v : View) (hl : v.push.have_.length ≤ 1000000) : Ct Tryz.prog 57 [st (zjm v)] [] [] (st (zjm v)) [] := by
 refine Ct.B Tryz.func57 mixed 9999 400 ?_
 simp
 refine CW.p (zzt v.push hl) Tryz.call82 9999 ?_
 simp
 refine ⟨by decide +kernel, ?_⟩
 first | exact fin0 (by simp) rfl | exact zaa (by simp)
attribute [simp] Tryz.ntmps13 Tryz.results13
attribute [simp] Tryz.ntmps18 Tryz.results18
theorem qfd (s : Sess) (hl : s.v.push.have_.length ≤ 1000000) : Ct Tryz.prog 18 [st (zcb s)] [] [] (st (zcb s)) [] := by
 refine Ct.B Tryz.func18 mixed 9999 400 ?_
 simp
 refine CW.p (qgh s.v hl) Tryz.call57 9999 ?_
 simp
 refine ⟨by decide +kernel, ?_⟩
 first | exact fin0 (by simp) rfl | exact zaa (by simp)
attribute [simp] Tryz.ntmps15 Tryz.results15
theorem zoe (s : Store) : Ct Tryz.prog 15 [st (za5 s)] [] [] (st (za5 s)) [] := by
 refine Ct.B Tryz.func15 mixed 9999 400 ?_
 simp
 first | exact fin0 (by simp) rfl | exact zaa (by simp)
attribute [simp] Tryz.ntmps10 Tryz.results10
theorem qbi (s : Sess) (p : Store) (hs : OkSess s) (hp : OkStore p) : Ct Tryz.prog 10 [st (zcb s), st (za5 p)] [] [] (bool (fewS 10 p && fewV s.v)) [] := by
 refine Ct.B Tryz.func10 mixed 9999 400 ?_
 simp
 have hh := hp.len
 refine LoopW.inv mixed (Plain.retC _ _ _ _ _) rfl (ι := {k : Nat // k ≤ (p.hist).length ∧ (p.hist.take k).all fewL = true}) (fun k => [(2, .ptr 64 0), (3, .ptr 65 0), (5, int k.1)]) (fun k => [(64, .cells ((zcb s).map .d) 35), (65, .cells ((za5 p).map .d) 38)]) 66 (fun k => (p.hist).length - k.1) ⟨0, by omega, by simp⟩ [] (by constructor <;> simp) ?_
 rintro ⟨k, hk1, hi⟩ B hB
 refine CW.run 9999 400 rfl ?_
 simp
 refine sB (fun h => ?_) (fun h => ?_)
 ·have hk : k < (p.hist).length := by simpa using h
  obtain ⟨x, hx, hr, hm, ht, hd⟩ := inL hk
  have hw := wr (k := k) (by omega)
  simp only [h]
  simp [hr, hw]
  refine CW.p (qhv x (hp.all x hm)) Tryz.call49 9999 ?_
  simp
  refine sB (fun h1 => ?_) (fun h1 => ?_) <;> simp only [h1] <;> simp <;> (try simp only [nT, nF, dT, dF] at h1)
  ·have e : p.hist.all fewL = false := by rw [List.all_eq_false]; exact ⟨x, hm, by simp [h1]⟩
   first | exact fin0 (by simp [fewS, e]) rfl | exact zaa (by simp [fewS, e])
  ·refine hB _ ⟨k + 1, by omega, by simp [ht, hi, h1]⟩ [] ?_ (by simp; omega)
   constructor <;> simp [hw, ht, h1]
 ·have hkl : k = (p.hist).length := by simp at h; omega
  subst hkl
  simp only [h]
  simp [List.take_length, List.drop_length]
  rw [List.take_length] at hi
  refine CW.p (qj3 s.v hs.v) Tryz.call50 9999 ?_
  simp
  refine sG (fun h2 => ?_) (fun h2 => ?_) <;> simp only [h2] <;> simp <;> (try simp only [nT, nF, dT, dF] at h2)
  ·by_cases c1 : p.hist.length ≤ 10
   ·have c1' : (p.hist.length : Int) ≤ 10 := by omega
    first | exact fin0 (by simp [fewS, hi, c1, c1', h2]) rfl | exact zaa (by simp [fewS, hi, c1, c1', h2])
   ·have c1' : ¬ (p.hist.length : Int) ≤ 10 := by omega
    first | exact fin0 (by simp [fewS, hi, c1, c1', h2]) rfl | exact zaa (by simp [fewS, hi, c1, c1', h2])
  ·first | exact fin0 (by simp [fewS, hi, h2]) rfl | exact zaa (by simp [fewS, hi, h2])
theorem qzz (a b : Nonce.Ou) : (a = b) = (a.l0 = b.l0 ∧ a.l1 = b.l1 ∧ a.l2 = b.l2 ∧ a.l3 = b.l3 ∧ a.o0 = b.o0 ∧ a.o1 = b.o1 ∧ a.o2 = b.o2 ∧ a.o3 = b.o3 ∧ a.m = b.m) := by
 obtain ⟨a0, a1, a2, a3, a4, a5, a6, a7, a8⟩ := a
 obtain ⟨b0, b1, b2, b3, b4, b5, b6, b7, b8⟩ := b
 simp only [Nonce.Ou.mk.injEq]
theorem qge (a b : Sess) : (a = b) = (a.epoch = b.epoch ∧ a.greeted = b.greeted ∧ a.out = b.out ∧ a.v = b.v ∧ a.stuck = b.stuck ∧ a.at_ = b.at_) := by
 obtain ⟨a0, a1, a2, a3, a4, a5⟩ := a
 obtain ⟨b0, b1, b2, b3, b4, b5⟩ := b
 simp only [Sess.mk.injEq]
attribute [simp] Tryz.ntmps17 Tryz.results17
theorem qgk (a b : Sess) (ha : OkSess a) : Ct Tryz.prog 17 [st (zcb a), st (zcb b)] [] [] (bool (decide (a = b))) [] := by
 refine Ct.B Tryz.func17 mixed 9999 400 ?_
 simp
 refine sG (fun h1 => ?_) (fun h1 => ?_) <;> simp only [h1] <;> simp
 ·refine sG (fun h2 => ?_) (fun h2 => ?_) <;> simp only [h2] <;> simp
  ·refine sG (fun h3 => ?_) (fun h3 => ?_) <;> simp only [h3] <;> simp
   ·have h3' : a.out = b.out := by
     rw [qzz]
     simpa [and_assoc] using h3
    refine CW.p (qgj a.v b.v ha.v) Tryz.call19 9999 ?_
    simp
    refine sG (fun h4 => ?_) (fun h4 => ?_) <;> simp only [h4] <;> simp
    ·refine sG (fun h5 => ?_) (fun h5 => ?_) <;> simp only [h5] <;> simp
     ·have e : decide (a = b) = decide (a.at_ = b.at_) := by
       simp only [decide_eq_true_eq] at h1 h2 h4 h5
       rw [decide_eq_decide, qge]
       simp [h1, h2, h3', h4, h5]
      rw [e]
      first | exact fin0 (by simp) rfl | exact zaa (by simp)
     ·have e : ¬ a = b := fun h => by subst h; simp at h5
      first | exact fin0 (by simp [e]) rfl | exact zaa (by simp [e])
    ·have e : ¬ a = b := fun h => by subst h; simp at h4
     first | exact fin0 (by simp [e]) rfl | exact zaa (by simp [e])
   ·have e : ¬ a = b := fun h => by subst h; simp at h3
    first | exact fin0 (by simp [e]) rfl | exact zaa (by simp [e])
  ·have e : ¬ a = b := fun h => by subst h; simp at h2
   first | exact fin0 (by simp [e]) rfl | exact zaa (by simp [e])
 ·have e : ¬ a = b := fun h => by subst h; simp at h1
  first | exact fin0 (by simp [e]) rfl | exact zaa (by simp [e])
end Go.Proofs.YtbmnaehodmgibaaGreatDoor
end
section
namespace Go.Proofs.YtbmnaehodmgibaaGreatDoor
open Go.AI Go.G
set_option maxRecDepth 20000
attribute [simp] Tryz.ntmps21 Tryz.results21
theorem zve (s : Sess) (p : Store) (hs : OkSess s) (hl : s.v.have_.length ≤ 1000000) (hpl : p.hist.length ≤ 1000000) (hx : idle (zbh s) p = false → AscR (nowL p) ∧ (nowL p).length ≤ 100000) : Ct Tryz.prog 21 [st (zcb s), st (za5 p)] [] [] (.tup [st (zcb (pump s p).1), lst ((pump s p).2.1.map zak), int (pump s p).2.2]) [] := by
 refine Ct.B Tryz.func21 mixed 9999 400 ?_
 simp
 refine CW.p (zoj s hs hl) Tryz.call55 9999 ?_
 simp
 have hq0 := zlo s
 have hqo := zqg hs
 have hh : pump s p = zec (zbh s) p := rfl
 rw [hh]
 clear hh
 generalize zbh s = q at hq0 hqo hx ⊢
 have S := saneS_iff.1 hq0
 have b1 := S.hl
 have b2 := S.dl
 refine CW.p (qdb p hpl) Tryz.call34 9999 ?_
 simp
 refine sG (fun h1 => ?_) (fun h1 => ?_) <;> simp only [h1] <;> simp
 ·have hi : idle q p = true := by
   have : q.greeted = false := by simpa using h1
   simp [idle, this]
  first | exact fin0 (by simp [zec, hi]) rfl | exact zaa (by simp [zec, hi])
 have h1' : q.greeted = true := by simpa using h1
 refine sG (fun h2 => ?_) (fun h2 => ?_) <;> simp only [h2] <;> simp
 ·have hi : idle q p = true := by simp [idle, h2]
  first | exact fin0 (by simp [zec, hi, h2]) rfl | exact zaa (by simp [zec, hi, h2])
 refine sG (fun h3 => ?_) (fun h3 => ?_) <;> simp only [h3] <;> simp
 ·have h3' : ¬ q.stuck = 0 := by simpa using h3
  refine sB (fun h4 => ?_) (fun h4 => ?_) <;> simp only [h4] <;> simp
  ·have h4' : q.at_ = nowI p := by simpa [nowI] using h4
   have hi : idle q p = true := by simp [idle, h3', h4']
   first | exact fin0 (by simp [zec, hi, h2]) rfl | exact zaa (by simp [zec, hi, h2])
  have h4' : ¬ q.at_ = nowI p := by simpa [nowI] using h4
  have hi : idle q p = false := by simp [idle, h1', h2, h4']
  obtain ⟨ha, hw⟩ := hx hi
  refine CW.p (qe2 q.v.have_ (nowL p) q.v.held hqo.v.have_ (by omega) hw ha (by omega)) Tryz.call61 9999 ?_ (ha := by simp [nowL])
  simp [nowL]
  rcases hn : zeq q.v.have_ (zam (zaw p)) q.v.held with _ | x
  ·simp
   first | exact fin0 (by simp [zec, hi, h2, nowL, hn]) rfl | exact zaa (by simp [zec, hi, h2, nowL, hn])
  ·simp
   refine CW.p (zz0 q.out x.kind) Tryz.call62 9999 ?_
   simp
   refine sB (fun h5 => ?_) (fun h5 => ?_) <;> simp only [h5] <;> simp <;> (try simp only [nT, nF, dT, dF] at h5)
   ·first | exact fin0 (by simp [zec, hi, h2, nowL, hn, zl6, h5]) rfl | exact zaa (by simp [zec, hi, h2, nowL, hn, zl6, h5])
   ·refine CW.p (qe1 q.v (zbe q x (Nonce.push q.out x.kind).2.1)) Tryz.call63 9999 ?_ (ha := by simp [zbe, h2])
    simp [zbe, h2]
    refine ⟨by decide +kernel, ?_⟩
    first | exact fin0 (by simp [zec, hi, h2, nowL, hn, zl6, h5, zbe, zh2]) rfl | exact zaa (by simp [zec, hi, h2, nowL, hn, zl6, h5, zbe, zh2])
 ·have h3' : q.stuck = 0 := by simpa using h3
  have hi : idle q p = false := by simp [idle, h1', h2, h3']
  obtain ⟨ha, hw⟩ := hx hi
  refine CW.p (qe2 q.v.have_ (nowL p) q.v.held hqo.v.have_ (by omega) hw ha (by omega)) Tryz.call61 9999 ?_ (ha := by simp [nowL])
  simp [nowL]
  rcases hn : zeq q.v.have_ (zam (zaw p)) q.v.held with _ | x
  ·simp
   first | exact fin0 (by simp [zec, hi, h2, nowL, hn]) rfl | exact zaa (by simp [zec, hi, h2, nowL, hn])
  ·simp
   refine CW.p (zz0 q.out x.kind) Tryz.call62 9999 ?_
   simp
   refine sB (fun h5 => ?_) (fun h5 => ?_) <;> simp only [h5] <;> simp <;> (try simp only [nT, nF, dT, dF] at h5)
   ·first | exact fin0 (by simp [zec, hi, h2, nowL, hn, zl6, h5]) rfl | exact zaa (by simp [zec, hi, h2, nowL, hn, zl6, h5])
   ·refine CW.p (qe1 q.v (zbe q x (Nonce.push q.out x.kind).2.1)) Tryz.call63 9999 ?_ (ha := by simp [zbe, h2])
    simp [zbe, h2]
    refine ⟨by decide +kernel, ?_⟩
    first | exact fin0 (by simp [zec, hi, h2, nowL, hn, zl6, h5, zbe, zh2]) rfl | exact zaa (by simp [zec, hi, h2, nowL, hn, zl6, h5, zbe, zh2])
attribute [simp] Tryz.ntmps28 Tryz.results28
theorem zos (s : Sess) (hs : OkSess s) (hl : s.v.have_.length ≤ 1000000) : Ct Tryz.prog 28 [st (zcb s)] [] [] (lst ((zd3 s).map zak)) [] := by
 refine Ct.B Tryz.func28 mixed 9999 400 ?_
 simp
 refine CW.p (zoj s hs hl) Tryz.call55 9999 ?_
 simp
 refine sB (fun h1 => ?_) (fun h1 => ?_) <;> simp only [h1] <;> simp
 ·have h1' : (zbh s).v.open_ = false := by simpa using h1
  first | exact fin0 (by simp [zd3, h1']) rfl | exact zaa (by simp [zd3, h1'])
 ·have h1' : (zbh s).v.open_ = true := by simpa using h1
  first | exact fin0 (by simp [zd3, h1']) rfl | exact zaa (by simp [zd3, h1'])
end Go.Proofs.YtbmnaehodmgibaaGreatDoor
end
section
namespace Go.Proofs.YtbmnaehodmgibaaGreatDoor
open Go.AI Go.G
set_option maxRecDepth 20000
theorem qb9 (e m : Int) : OkSess (zan e m) := ⟨zk4⟩
theorem qkv : OkStore xP := ⟨by simp [xP], by simp [xP]; exact ⟨⟨by simp, by simp⟩, ⟨by simp, by simp [xC, xE]; exact ⟨⟨by decide, by decide, by simp, by simp, by simp⟩, ⟨by decide, by decide, by simp, by simp, by simp⟩⟩⟩⟩⟩
theorem qkx : OkFrame xF := ⟨⟨by simp [xF], by simp [xF]⟩, by simp [xF], by simp [xF], by simp [xF]⟩
theorem qkw : OkFrame xG := ⟨⟨by simp [xG], by simp [xG, xE]; exact ⟨by decide, by decide, by simp, by simp, by simp⟩⟩, by simp [xG], by simp [xG], by simp [xG]⟩
theorem qku : OkSess xS := ⟨zk4⟩
theorem qin : OkSess xT := ⟨⟨by simp [xT], by simp [xT]⟩, by simp [xT], qkw⟩
attribute [simp] Tryz.ntmps9 Tryz.results9
theorem qbz : CtJ errG Tryz.prog 9 [] [] [] (bool true) [] := by
 refine CtJ.B errK Tryz.func9 mixed 9999 400 ?_
 simp
 have ht : zaw (newS 9) = newS 9 := zb3 (zu7 9)
 have p1 := qb8 (newS 9) [xC, xE] [] (by simp [newS]) (by rw [ht]; exact ⟨by simp [newS, zam], by simp [newS, zam]⟩) (by rw [ht]; simp [newS, zam]) (by simp)
 rw [ht, w1, w2] at p1
 have p2 := qd2 (zan 4 9) xP xF (qb9 4 9) (by simp [zan, zView]) qkx qkv (by simp [xP])
 rw [w3] at p2
 have p3 := zve xS xP qku (by simp [xS, zView]) (by simp [xP]) (fun _ => w8)
 rw [w4] at p3
 have p4 := zos xT qin (by simp [xT])
 rw [w5] at p4
 have p5 := zzc xT qin (by simp [xT])
 rw [w6] at p5
 have g1 : xS.greeted = true := rfl
 have g2 : xG.kind = 3 := rfl
 have g3 : xT.v.open_ = true := rfl
 refine CI.p (zz6 9) Tryz.call48 9999 ?_
 simp
 refine CI.jg errK [320] [] p1 Tryz.call47 9999 ?_ (ha := by simp [zgb, xC, xE]) (hk := by simp [gvB, xC, xE])
 simp [xC, xE]
 refine CI.p (ziu 4 9) Tryz.call20 9999 ?_
 simp
 refine CI.p p2 Tryz.call14 9999 ?_ (ha := by simp [xF])
 simp [xF]
 refine ⟨by decide +kernel, ?_⟩
 refine CI.p p3 Tryz.call21 9999 ?_ (ha := by simp [g1, g2, g3])
 simp [g1, g2, g3]
 refine CI.p p4 Tryz.call28 9999 ?_ (ha := by simp [g1, g2, g3])
 simp [g1, g2, g3]
 refine CI.p p5 Tryz.call12 9999 ?_ (ha := by simp [g1, g2, g3])
 simp [g1, g2, g3]
 first | exact fin0 (by simp) rfl | exact zaa (by simp)
end Go.Proofs.YtbmnaehodmgibaaGreatDoor
end
section
namespace Go.Proofs.YtbmnaehodmgibaaGreatDoor
open Go.ChangeShapes Go.WideShapes Go.ChangeAt Go.RowKit
open Go.AI Go.G
set_option maxRecDepth 20000
section
variable {n : Nat} {ds : List D}
end
theorem err_et : Tryz.prog.globalNamed "errors.errorType" = some 0 := by kernel_rfl
theorem err_rt : (Tryz.prog.cutTypes.find? (·.1 == "internal/reflectlite.rtype")).map (·.2) = some 366 := by kernel_rfl
theorem err_one : ((List.range Tryz.prog.types.size).filter fun t => Tryz.prog.rowNamed t [101, 114, 114, 111, 114]) = [165] := by kernel_rfl
theorem err_of_laid {laid : List (String × DataW Unit)} (hm : ("errors.errorType", Rows.laid_errors_errorType) ∈ laid) {W : World} (h : laidMetH Tryz.prog laid W) : W.cell? ⟨0, 0, none⟩ = some errV := by
 have h' := (laidMetH_iff.1 h).2
 obtain ⟨name, u, ty, e1, e2, e3, e4, e5⟩ := h' _ (List.mem_filter.2 ⟨hm, rfl⟩)
 have en : name = [101, 114, 114, 111, 114] := (Option.some.inj e1).symm
 subst en
 obtain rfl := Option.some.inj (err_rt.symm.trans e2)
 have hm : ty ∈ (List.range Tryz.prog.types.size).filter fun t => Tryz.prog.rowNamed t [101, 114, 114, 111, 114] := List.mem_filter.2 ⟨List.mem_range.2 e3, e4⟩
 rw [err_one] at hm
 obtain rfl := List.mem_singleton.1 hm
 have hh : typeHandle Tryz.prog 165 = .pointer (some ⟨4, 165, none⟩) := by kernel_rfl
 rw [hh] at e5
 simpa using World.var?_cell err_et e5 0
theorem calls_of_ctJ {f : FuncId} {W : World} {vs : List Value} {avs : List AV} (hg : W.cell? ⟨0, 0, none⟩ = some errV) (h : CtJ errG Tryz.prog f avs [] [] (.d (.v (.bool true))) []) (hr : RVs (fun n => n < W.heap.size) W avs vs) :
  Calls Tryz.prog f vs.toArray W fun e W' => e = .returned (.bool true) ∧ Below W.heap.size W W' := by
 have h0 : 0 < W.heap.size := by
  rcases Nat.eq_zero_or_pos W.heap.size with h0 | h
  ·simp [World.cell?, h0] at hg
  ·exact h
 refine (h noN (fun n => n < W.heap.size) W vs ⟨h0, hg⟩ (fun _ h => h) hr.length hr.get ⟨fun b k hb => by simp [zab] at hb, fun b b' k k' x x' n hb => by simp [zab] at hb⟩ (fun _ _ => rfl)).mono fun e W' ⟨v, σ', I', he, hp, hv⟩ => ?_
 cases hv with
 | d hd => cases hd with
   | v => exact ⟨he, hp.os, hp.tape, hp.output.eq, hp.size, fun k hk => hp.frame k hk (by rintro ⟨b, _, _, hb, _⟩; simp [zab] at hb)⟩
noncomputable def errW (os : Os) : World :=
 let w0 := World.holding Tryz.prog os ⟨#[], #[], []⟩
 { w0 with heap := w0.heap.modify 0 fun
    | .cells _ t frozen => .cells #[errV] t frozen
    | o => o }
theorem laidMet_errW {os : Os} {laid : List (String × DataW Unit)} (args : Array Value) (hf : (errW os).layFits Tryz.prog laid [] = true) (hi : (errW os).layIfaces Tryz.prog laid ((errW os).layVars Tryz.prog laid) = true) :
  laidMet Tryz.prog laid (((errW os).layVars Tryz.prog laid).forCall (fun _ _ => 0) ⟨#[], args, []⟩).memory := by
 have e1 : (laid.filter fun x => (laid.map (·.1)).contains x.1) = laid := List.filter_eq_self.2 fun x hx => List.contains_iff_mem.2 (List.mem_map.2 ⟨x, hx, rfl⟩)
 have e2 : (laid.filter fun x => !(laid.map (·.1)).contains x.1) = [] := List.filter_eq_nil_iff.2 fun x hx => by rw [List.contains_iff_mem.2 (List.mem_map.2 ⟨x, hx, rfl⟩)]; simp
 have h : laidMet Tryz.prog laid ((errW os).layVars Tryz.prog laid) := laidMet_layVars (w0 := errW os) (laid.map (·.1)) [] (by rw [e1]) (by rw [e1]; exact hf) (by rw [e1]; exact hi) (by rw [e2]; exact LaidIn.none)
 exact h.of_heap (by simp [World.memory, World.forCall, Input.heap])
end Go.Proofs.YtbmnaehodmgibaaGreatDoor
end
