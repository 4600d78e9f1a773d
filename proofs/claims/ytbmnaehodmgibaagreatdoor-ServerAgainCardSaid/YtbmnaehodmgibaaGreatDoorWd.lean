/-
  LAYERS 5, 6, 9: the walks of configurations, of what is missing, of stores; what a store's arguments are.
-/
import Derived.Test.YtbmnaehodmgibaaGreatDoorPm
import Derived.Test.YtbmnaehodmgibaaGreatDoorWc
import Derived.Test.YtbmnaehodmgibaaGreatDoorWb
import Derived.Test.YtbmnaehodmgibaaGreatDoorPl
set_option linter.unusedSimpArgs false
set_option linter.unusedVariables false
section
namespace Go.Proofs.YtbmnaehodmgibaaGreatDoor
open Go.AI Go.G
set_option maxRecDepth 20000
attribute [simp] Tryz.ntmps183 Tryz.results183
theorem qg4 (l : List Res) (hl : l.length ≤ 1000000) : Ct Tryz.prog 183 [lst (l.map resC)] [] [] (.d (.mp true [.int, .str] false (zer (l.map Res.key)))) [] := by
 refine Ct.B Tryz.func183 mixed 9999 400 ?_
 simp
 refine LoopW.U mixed (l) (fun k => [(3, .own 64), (7, lst (l.map resC)), (8, int l.length), (9, int k.1)]) (fun k => [(64, .map true [.int, .str] false (zer ((l.take k.1).map Res.key)))]) 65 [] (by constructor <;> simp [zfl]) ?_
 rintro ⟨k, hk1⟩ B hB
 refine CW.run 9999 400 rfl ?_
 simp [zfl]
 refine sB (fun h => ?_) (fun h => ?_)
 ·have hk : k < (l).length := by simpa using h
  obtain ⟨x, hx, hr, hm, ht, hd⟩ := inL hk
  have hw := wr (k := k) (by omega)
  simp only [h]
  simp [hr, hw]
  refine CW.p (zew x) Tryz.call97 9999 ?_
  simp
  refine hB _ ⟨k + 1, by omega⟩ [] ?_ (by simp; omega)
  constructor <;> simp [hw, ht]
 ·have hkl : k = (l).length := by simp at h; omega
  subst hkl
  simp only [h]
  simp [List.take_length, List.drop_length]
  first | exact fin0 (by simp) rfl | exact zaa (by simp)
attribute [simp] Tryz.ntmps220 Tryz.results220
theorem qae (l : List Res) (hl : l.length ≤ 30000) : Ct Tryz.prog 220 [lst (l.map resC)] [] [] (lst ((zmc l).map keyC)) [] := by
 refine Ct.B Tryz.func220 mixed 9999 400 ?_
 simp
 refine CW.p (qg4 l (by omega)) Tryz.call183 9999 ?_
 simp
 refine LoopW.nilOwn 4 2 89 rfl ?_
 refine LoopW.U mixed (l) (fun k => [(3, .d (.mp true [.int, .str] false (zer (l.map Res.key)))), (4, .own 64), (11, lst (l.map resC)), (12, int l.length), (13, int k.1)]) (fun k => [(64, .grow 2 ((zjw (l.take k.1) l).map keyC) 89)]) 65 [] (by constructor <;> simp) ?_
 rintro ⟨k, hk1⟩ B hB
 refine CW.run 9999 400 rfl ?_
 simp
 refine sB (fun h => ?_) (fun h => ?_)
 ·have hk : k < (l).length := by simpa using h
  obtain ⟨x, hx, hr, hm, ht, hd⟩ := inL hk
  have hw := wr (k := k) (by omega)
  simp only [h]
  simp [hr, hw]
  have hml := ziv (l.take k) l
  have hr33 := zfi x
  have htk : (l.take k).length ≤ 30000 := by simp; omega
  refine CW.p (zvb x) Tryz.call96 9999 ?_
  simp
  refine LoopW.U mixed ((za2 x)) (fun kj => [(3, .d (.mp true [.int, .str] false (zer (l.map Res.key)))), (4, .own 64), (11, lst (l.map resC)), (12, int l.length), (13, int k), (18, lst ((za2 x).map keyC)), (19, int (za2 x).length), (20, int kj.1)]) (fun kj => [(64, .grow 2 ((zjw (l.take k) l ++ ((za2 x).take kj.1).filter (noR l)).map keyC) 89)]) 65 [] (by constructor <;> simp) ?_
  rintro ⟨kj, hk1j⟩ Bj hBj
  refine CW.run 9999 400 rfl ?_
  simp
  refine sB (fun hj => ?_) (fun hj => ?_)
  ·have hkj : kj < ((za2 x)).length := by simpa using hj
   obtain ⟨q, hxj, hrj, hmj, htj, hdj⟩ := inL hkj
   have hwj := wr (k := kj) (by omega)
   simp only [hj]
   simp [hrj, hwj]
   have hfl : (((za2 x).take kj).filter (noR l)).length ≤ 33 := Nat.le_trans (List.length_filter_le _ _) (by simp; omega)
   by_cases h1 : q ∈ l.map Res.key
   ·have hL := zh8 h1
    have h1' : noR l q = false := by simp [noR, mem_keys.1 h1]
    simp [hL]
    refine hBj _ ⟨kj + 1, by omega⟩ [] ?_ (by simp; omega)
    constructor <;> simp [hwj, htj, List.filter_append, h1', hwj]
   ·have hL := zhf h1
    have h1' : noR l q = true := by
     cases h : (getR l q).isSome
     ·simp [noR, h]
     ·exact absurd (mem_keys.2 h) h1
    simp [hL, hrj]
    refine ⟨by omega, ?_⟩
    refine hBj _ ⟨kj + 1, by omega⟩ [] ?_ (by simp; omega)
    constructor <;> simp [hwj, htj, List.filter_append, h1', hwj]
  ·have hklj : kj = ((za2 x)).length := by simp at hj; omega
   subst hklj
   simp only [hj]
   simp [List.take_length, List.drop_length, hw]
   refine hB _ ⟨k + 1, by omega⟩ [] ?_ (by simp; omega)
   constructor <;> simp [hw, ht, zxm]
 ·have hkl : k = (l).length := by simp at h; omega
  subst hkl
  simp only [h]
  simp [List.take_length, List.drop_length]
  have hml := ziv l l
  refine CW.cc [64] (zu2 (zjw l l) (by omega)) Tryz.call169 9999 ?_
  simp
  refine CW.cc [64] (zje (zii (zjw l l)) (by rw [zdt]; omega)) Tryz.call171 9999 ?_
  simp
  rw [zxl]
  first | exact fin0 (by simp) rfl | exact zaa (by simp)
attribute [simp] Tryz.ntmps308 Tryz.results308
theorem qjs (r : Res) (n : Int) : Ct Tryz.prog 308 [st (resC r), .d (.pro [iD n])] [] [] (bool (decide (r.kind = n))) [] := by
 refine Ct.B Tryz.func308 mixed 9999 400 ?_
 simp
 first | exact fin0 (by simp) rfl | exact zaa (by simp)
attribute [simp] Tryz.ntmps252 Tryz.results252
theorem qe9 (l : List Res) (n : Int) (hl : l.length ≤ 1000000) : Ct Tryz.prog 252 [lst (l.map resC), int n] [] [] (lst ((l.filter fun r => decide (r.kind = n)).map resC)) [] := by
 refine Ct.B Tryz.func252 mixed 1 400 ?_
 simp
 refine CW.s (tm := [(0, lst (l.map resC)), (3, .d (.pro [iD n]))]) (mm := []) (nx := 65) [] [64] (by constructor <;> simp) ?_
 refine CW.run 9999 400 rfl ?_
 simp
 refine CW.p (zpk l (.fn (.func 308) [] [.pro [iD n]]) (fun r => decide (r.kind = n)) (fun r hr => FnOk.clo (by exact qjs r n) Tryz.call308 rfl rfl) hl) Tryz.call162 9999 ?_
 simp
 first | exact fin0 (by simp) rfl | exact zaa (by simp)
end Go.Proofs.YtbmnaehodmgibaaGreatDoor
end
section
namespace Go.Proofs.YtbmnaehodmgibaaGreatDoor
open Go.AI Go.G
set_option maxRecDepth 20000
attribute [simp] Tryz.ntmps219 Tryz.results219
theorem zlj (l : List Res) : Ct Tryz.prog 219 [lst (l.map resC)] [] [] (int (tabE l)) [] := by
 refine Ct.B Tryz.func219 mixed 9999 400 ?_
 simp
 refine sB (fun h0 => ?_) (fun h0 => ?_) <;> simp only [h0] <;> simp <;> (try simp only [nT, nF, dT, dF] at h0)
 ·have e : tabE l = 3 := by simp only [tabE]; rw [if_pos (by omega)]
  first | exact fin0 (by simp [e]) rfl | exact zaa (by simp [e])
 have h64 : ¬ 64 < l.length := by omega
 have hl : l.length ≤ 64 := by omega
 refine LoopW.inv mixed (Plain.retC _ _ _ _ _) rfl (ι := {k : Nat // k ≤ (l).length ∧ (l.take k).all (fun r => decide (zbl r = 0)) = true}) (fun k => [(0, lst (l.map resC)), (13, lst (l.map resC)), (14, int l.length), (15, int k.1)]) (fun k => []) 64 (fun k => (l).length - k.1) ⟨0, by omega, by simp⟩ [] (by constructor <;> simp) ?_
 rintro ⟨k, hk1, hi⟩ B hB
 refine CW.run 9999 400 rfl ?_
 simp
 refine sB (fun h => ?_) (fun h => ?_)
 ·have hk : k < (l).length := by simpa using h
  obtain ⟨x, hx, hr, hm, ht, hd⟩ := inL hk
  have hw := wr (k := k) (by omega)
  simp only [h]
  simp [hr, hw]
  refine CW.p (zy9 x) Tryz.call137 9999 ?_
  simp
  refine sB (fun h1 => ?_) (fun h1 => ?_) <;> simp only [h1] <;> simp <;> (try simp only [nT, nF, dT, dF] at h1)
  ·have e : tabE l = zbl x := by rw [← zpi hi hr h1]; exact zyx h64 (by rw [zpi hi hr h1]; exact h1)
   first | exact fin0 (by simp [e]) rfl | exact zaa (by simp [e])
  ·refine hB _ ⟨k + 1, by omega, by simp [ht, hi, h1]⟩ [] ?_ (by simp; omega)
   constructor <;> simp [hw, ht, h1]
 ·have hkl : k = (l).length := by simp at h; omega
  subst hkl
  simp only [h]
  simp [List.take_length, List.drop_length]
  rw [List.take_length] at hi
  have hf := zn1 hi
  clear hi hB
  refine LoopW.inv mixed (Plain.retC _ _ _ _ _) rfl (ι := {k : Nat // k ≤ (l).length ∧ AscR (l.take k)}) (fun k => [(0, lst (l.map resC)), (25, lst (l.map resC)), (26, int l.length), (27, int k.1)]) (fun k => []) 64 (fun k => (l).length - k.1) ⟨0, by omega, by simp⟩ [] (by constructor <;> simp) ?_
  rintro ⟨k, hk1, hi⟩ B hB
  refine CW.run 9999 400 rfl ?_
  simp
  refine sB (fun h => ?_) (fun h => ?_)
  ·have hk : k < (l).length := by simpa using h
   obtain ⟨x, hx, hr, hm, ht, hd⟩ := inL hk
   have hw := wr (k := k) (by omega)
   simp only [h]
   simp [hr, hw]
   cases k with
   | zero =>
     simp
     refine ⟨by decide +kernel, ?_⟩
     refine hB _ ⟨0 + 1, by omega, by rw [ht]; simp [AscR, Asc]⟩ [] ?_ (by simp; omega)
     constructor <;> simp [hw]
   | succ m =>
     have hk' : m < l.length := by omega
     have hy : l[m]? = some l[m] := List.getElem?_eq_getElem hk'
     generalize l[m] = y at hy
     have w0 : IntKind.wrap .i64 (m : Int) = m := zae (by omega) (by omega)
     have w1 : IntKind.wrap .i64 ((m : Int) + 1 + 1) = (m : Int) + 1 + 1 := zae (by omega) (by omega)
     have c0 : (0 : Int) < (m : Int) + 1 := by omega
     have c1 : (0 : Int) ≤ (m : Int) + 1 := by omega
     have c2 : (m : Int) < l.length := by omega
     simp [c0, w0, c2, hy]
     have c3 : (m : Int) + 1 < l.length := by omega
     refine CW.p (zew y) Tryz.call97 9999 ?_ (ha := by simp [c1, c3, hr])
     simp [c1, c3, hr]
     refine CW.p (zew x) Tryz.call97 9999 ?_
     simp
     refine CW.p (qbt y.key x.key) Tryz.call170 9999 ?_
     simp
     refine ⟨by decide +kernel, ?_⟩
     refine sB (fun h3 => ?_) (fun h3 => ?_) <;> simp only [h3] <;> simp [hr, hy] <;> (try simp only [nT, nF, dT, dF] at h3)
     ·have e : tabE l = 2 := zyy h64 hf (fun ha => by have := qkk ha hy hr; omega)
      first | exact fin0 (by simp [e]) rfl | exact zaa (by simp [e])
     ·have h4 : cmpK y.key x.key = -1 := by have := zdl y.key x.key; omega
      refine hB _ ⟨m + 1 + 1, by omega, by rw [ht]; exact qep _ _ hi (fun z hz => by rw [zr4 hy] at hz; cases hz; exact h4)⟩ [] ?_ (by simp; omega)
      constructor <;> simp [w1]
  ·have hkl : k = (l).length := by simp at h; omega
   subst hkl
   simp only [h]
   simp [List.take_length, List.drop_length]
   rw [List.take_length] at hi
   clear hB
   refine CW.p (qe9 l 0 (by omega)) Tryz.call252 9999 ?_
   simp
   have hKl : (l.filter fun r => decide (r.kind = 0)).length ≤ 64 := Nat.le_trans (List.length_filter_le _ _) hl
   have hports : ze3 l = (l.filter fun r => decide (r.kind = 0)).map Res.port := rfl
   generalize (l.filter fun r => decide (r.kind = 0)) = K at hKl hports
   refine LoopW.inv mixed (Plain.retC _ _ _ _ _) rfl (ι := {k : Nat // k ≤ (K).length ∧ ((K.take k).map Res.port).Nodup}) (fun k => [(7, .own 64), (50, lst (K.map resC)), (51, int K.length), (52, int k.1)]) (fun k => [(64, .map false [.int] false (zmf ((K.take k.1).map Res.port)))]) 65 (fun k => (K).length - k.1) ⟨0, by omega, by simp⟩ [] (by constructor <;> simp [zry]) ?_
   rintro ⟨k, hk1, hi⟩ B hB
   refine CW.run 9999 400 rfl ?_
   simp [zry]
   refine sB (fun h => ?_) (fun h => ?_)
   ·have hk : k < (K).length := by simpa using h
    obtain ⟨x, hx, hr, hm, ht, hd⟩ := inL hk
    have hw := wr (k := k) (by omega)
    simp only [h]
    simp [hr, hw]
    by_cases hP : x.port ∈ (K.take k).map Res.port
    ·have hL := qgv hP
     rw [List.map_take] at hL
     have e : tabE l = 13 := by
      rw [zjn h64 hf ‹AscR l›, if_neg]
      rw [hports]
      intro hn
      have hs := hn.sublist ((List.take_sublist (k + 1) K).map Res.port)
      rw [ht, List.map_append, List.map_cons, List.map_nil, znp] at hs
      exact hs.2 hP
     simp [hL]
     first | exact fin0 (by simp [e]) rfl | exact zaa (by simp [e])
    ·have hL := qcu hP
     rw [List.map_take] at hL
     simp [hL]
     refine hB _ ⟨k + 1, by omega, by rw [ht, List.map_append, List.map_cons, List.map_nil, znp]; exact ⟨hi, hP⟩⟩ [] ?_ (by simp; omega)
     constructor <;> simp [hw, ht]
   ·have hkl : k = (K).length := by simp at h; omega
    subst hkl
    simp only [h]
    simp [List.take_length, List.drop_length]
    rw [List.take_length] at hi
    have e : tabE l = 0 := by rw [zjn h64 hf ‹AscR l›, hports, if_pos hi]
    first | exact fin0 (by simp [e]) rfl | exact zaa (by simp [e])
end Go.Proofs.YtbmnaehodmgibaaGreatDoor
end
section
namespace Go.Proofs.YtbmnaehodmgibaaGreatDoor
open Go.AI Go.G
set_option maxRecDepth 20000
attribute [simp] Tryz.ntmps88 Tryz.results88
theorem zmz (n : Int) : Ct Tryz.prog 88 [int n] [] [] (int (capN n)) [] := by
 refine Ct.B Tryz.func88 mixed 9999 400 ?_
 simp
 have e := zwc n
 first | exact fin0 (by simp [e]) rfl | exact zaa (by simp [e])
attribute [simp] Tryz.ntmps48 Tryz.results48
theorem zz6 (n : Int) : Ct Tryz.prog 48 [int n] [] [] (st (za5 (newS n))) [] := by
 refine Ct.B Tryz.func48 mixed 9999 400 ?_
 simp
 refine CW.p (zmz n) Tryz.call88 9999 ?_
 simp
 first | exact fin0 (by simp [newS]) rfl | exact zaa (by simp [newS])
attribute [simp] Tryz.ntmps214 Tryz.results214
attribute [simp] Tryz.ntmps92 Tryz.results92
theorem ztd (s : Store) : Ct Tryz.prog 92 [st (za5 s)] [] [] (st (za5 (zaw s))) [] := by
 refine Ct.B Tryz.func92 mixed 9999 400 ?_
 simp
 refine CW.p (zmz s.cap) Tryz.call88 9999 ?_
 simp
 refine sB (fun h1 => ?_) (fun h1 => ?_) <;> simp only [h1] <;> simp <;> (try simp only [nT, nF, dT, dF] at h1)
 ·have h0 : s.hist = [] := by first | exact h1 | exact List.eq_nil_of_length_eq_zero (by omega)
  refine CW.p (zz6 (capN s.cap)) Tryz.call48 9999 ?_
  simp
  rw [zyv h0]
  first | exact fin0 (by simp [newS, zji]) rfl | exact zaa (by simp [newS, zji])
 ·have h0 : ¬ s.hist = [] := by first | exact h1 | exact fun e => h1 (by rw [e]; rfl)
  rw [zg8 h0]
  first | exact fin0 (by simp) rfl | exact zaa (by simp)
attribute [simp] Tryz.ntmps151 Tryz.results151
attribute [simp] Tryz.ntmps41 Tryz.results41
theorem at_p (s : Store) (i : Int) : Ct Tryz.prog 41 [st (za5 s), int i] [] [] (atA s i) [] := by
 refine Ct.B Tryz.func41 mixed 9999 400 ?_
 simp
 refine CW.p (ztd s) Tryz.call92 9999 ?_
 simp
 refine sG (fun h1 => ?_) (fun h1 => ?_) <;> simp only [h1] <;> simp <;> (try simp only [nT, nF, dT, dF] at h1)
 ·have e := qkf (s := s) h1
  first | exact fin0 (by simp [e]) rfl | exact zaa (by simp [e])
 refine sB (fun h2 => ?_) (fun h2 => ?_) <;> simp only [h2] <;> simp <;> (try simp only [nT, nF, dT, dF] at h2)
 ·have e := qkj (s := s) (i := i) (by omega)
  first | exact fin0 (by simp [e]) rfl | exact zaa (by simp [e])
 ·obtain ⟨l, ⟨hh, e3⟩, e1, e⟩ := qkh (s := s) h1 (by omega)
  have c1 : 0 ≤ i := by omega
  have c2 : i < (zaw s).hist.length := by omega
  simp [e1, c1, c2, e3]
  first | exact fin0 (by simp [e]) rfl | exact zaa (by simp [e])
attribute [simp] Tryz.ntmps210 Tryz.results210
attribute [simp] Tryz.ntmps307 Tryz.results307
theorem qj2 (s : Store) (k_ : Key) (v : Int) (hs : OkStore s) : Ct Tryz.prog 307 [st (za5 s), st (keyC k_), int v] [] [] (xab s k_ v) [] := by
 refine Ct.B Tryz.func307 mixed 9999 400 ?_
 simp
 refine CW.p (at_p s v) Tryz.call41 9999 ?_
 simp
 refine CW.p (qj0 ((atS s v).getD []) k_ (qz1 hs v).len) Tryz.call35 9999 ?_
 simp
 cases hg : getR ((atS s v).getD []) k_ with
 | none =>
   have e := zx0 hg
   simp
   first | exact fin0 (by simp [e, zRes]) rfl | exact zaa (by simp [e, zRes])
 | some r =>
   have e := zxz hg
   simp
   refine sB (fun h1 => ?_) (fun h1 => ?_) <;> simp only [h1] <;> simp <;> (try simp only [nT, nF, dT, dF] at h1)
   ·rw [if_pos h1] at e
    first | exact fin0 (by simp [e]) rfl | exact zaa (by simp [e])
   ·rw [if_neg h1] at e
    first | exact fin0 (by simp [e, zRes]) rfl | exact zaa (by simp [e, zRes])
attribute [simp] Tryz.ntmps146 Tryz.results146
attribute [simp] Tryz.ntmps306 Tryz.results306
theorem xac (s : Store) (m : G.Mark) (hs : OkStore s) : Ct Tryz.prog 306 [st (zdv m), .d (.pro (za5 s))] [] [] (st (resC (ofM s m))) [] := by
 refine Ct.B Tryz.func306 mixed 9999 400 ?_
 simp
 refine CW.p (qj2 s m.k m.ver hs) Tryz.call307 9999 ?_
 simp
 cases hg : zk1 s m.k m.ver with
 | none =>
   have e : ofM s m = qen m := by simp [ofM, hg]
   simp
   first | exact fin0 (by simp [e, qen]) rfl | exact zaa (by simp [e, qen])
 | some r =>
   have e : ofM s m = r := by simp [ofM, hg]
   simp
   first | exact fin0 (by simp [e]) rfl | exact zaa (by simp [e])
attribute [simp] Tryz.ntmps250 Tryz.results250
theorem qd9 (s : Store) : Ct Tryz.prog 250 [st (za5 s)] [] [] (.d (.fn (.func 306) [] [.pro (za5 s)])) [] := by
 refine Ct.B Tryz.func250 mixed 9999 400 ?_
 simp
 first | exact fin0 (by simp) rfl | exact zaa (by simp)
attribute [simp] Tryz.ntmps187 Tryz.results187
theorem qhh (s : Store) (l : List G.Mark) (hs : OkStore s) (hl : l.length ≤ 1000) : Ct Tryz.prog 187 [st (za5 s), lst (l.map zdv)] [] [] (lst ((zci s l).map resC)) [] := by
 refine Ct.B Tryz.func187 mixed 9999 400 ?_
 simp
 refine CW.p (qd9 s) Tryz.call250 9999 ?_
 simp
 refine LoopW.U mixed (l) (fun k => [(5, .d (.fn (.func 306) [] [.pro (za5 s)])), (6, lst ((zci s (l.take k.1)).map resC)), (11, lst (l.map zdv)), (12, int l.length), (13, int k.1)]) (fun k => []) 64 [] (by constructor <;> simp [zr8]) ?_
 rintro ⟨k, hk1⟩ B hB
 refine CW.run 9999 400 rfl ?_
 simp [zr8]
 refine sB (fun h => ?_) (fun h => ?_)
 ·have hk : k < (l).length := by simpa using h
  obtain ⟨x, hx, hr, hm, ht, hd⟩ := inL hk
  have hw := wr (k := k) (by omega)
  simp only [h]
  simp [hr, hw]
  have hlen := zmi s (l.take k)
  have htk : (l.take k).length ≤ 1000 := by simp; omega
  refine CW.ff (FnOk.clo (args := [st (zdv x)]) (by exact xac s x hs) Tryz.call306 rfl rfl) rfl rfl rfl 9999 ?_
  simp
  refine CW.p (qex (zci s (l.take k)) (ofM s x) (by omega)) Tryz.call218 9999 ?_
  simp
  refine hB _ ⟨k + 1, by omega⟩ [] ?_ (by simp; omega)
  constructor <;> simp [hw, ht, zxr]
 ·have hkl : k = (l).length := by simp at h; omega
  subst hkl
  simp only [h]
  simp [List.take_length, List.drop_length]
  first | exact fin0 (by simp) rfl | exact zaa (by simp)
end Go.Proofs.YtbmnaehodmgibaaGreatDoor
end
section
namespace Go.Proofs.YtbmnaehodmgibaaGreatDoor
open Go.ChangeShapes Go.WideShapes Go.ChangeAt Go.RowKit
open Go.AI Go.G
set_option maxRecDepth 20000
theorem qgd : shT Tryz.prog 36 = .sl 26 := by kernel_rfl
theorem qcj : shT Tryz.prog 38 = .st [3, 36] := by kernel_rfl
variable {n : Nat} {ds : List D}
theorem qho (h : Is Tryz.prog (n + 8) 36 ds) : ∃ l : List (List Res), (l.length ≤ 9223372036854775807 ∧ ∀ x ∈ l, OkRs x) ∧ ds = [lD (l.map rsC)] := by
 obtain ⟨es, he, h1, rfl⟩ := qax qgd h
 obtain ⟨l, hl, rfl⟩ := zj0 (fun c => qhm) h1
 exact ⟨l, ⟨zsb he, hl⟩, rfl⟩
theorem zvw (h : Is Tryz.prog (n + 9) 38 ds) : ∃ s : Store, OkStore s ∧ ds = za5 s := by
 obtain ⟨_, _, h1, g1, rfl⟩ := zb7 (qdt qcj h)
 obtain ⟨_, _, h2, g2, rfl⟩ := zb7 g1
 obtain rfl := zpd g2
 obtain ⟨a, _, rfl⟩ := znu zni h1
 obtain ⟨l, ⟨h3, h4⟩, rfl⟩ := qho h2
 exact ⟨⟨a, l⟩, ⟨h3, h4⟩, rfl⟩
theorem zwk : aggT Tryz.prog 38 = true := by kernel_rfl
end Go.Proofs.YtbmnaehodmgibaaGreatDoor
end
