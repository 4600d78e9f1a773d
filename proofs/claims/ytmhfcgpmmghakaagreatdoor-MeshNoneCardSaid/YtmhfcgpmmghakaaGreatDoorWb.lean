/-
  LAYERS 3 to 14: the walks of keys, references, configurations, of the program and of the reference.
-/
import Derived.Test.YtmhfcgpmmghakaaGreatDoorWa
import Derived.Test.YtmhfcgpmmghakaaGreatDoorPl
set_option linter.unusedSimpArgs false
set_option linter.unusedVariables false
namespace Go.Proofs.YtmhfcgpmmghakaaGreatDoor
open Go.AI Go.G Tryz
set_option maxRecDepth 20000
attribute [simp] ntmps103 results103
theorem zeo (r : Res) : Ct prog 103 [st (resC r)] [] [] (st (keyC r.key)) [] := by
 refine Ct.B func103 mixed 99 400 ?_
 simp
 exact fin0 (by simp [Res.key]) rfl
end Go.Proofs.YtmhfcgpmmghakaaGreatDoor
namespace Go.Proofs.YtmhfcgpmmghakaaGreatDoor
open Go.AI Go.G Tryz
set_option maxRecDepth 20000
attribute [simp] ntmps50 results50
theorem qh8 (r : Res) (hl : r.rules.length ≤ 9223372036854775807) : Ct prog 50 [st (resC r)] [] [] (bool (zg8 r)) [] := by
 refine Ct.B func50 mixed 99 400 ?_
 simp
 refine LoopI.inv mixed rfl (ι := {k : Nat // k ≤ (r.rules).length ∧ (r.rules.take k).all zd1 = true}) (fun k => [(1, .ptr 64 0), (3, int k.1)]) (fun k => [(64, .cells ((resC r).map .d) 109)]) 65 (fun k => (r.rules).length - k.1) ⟨0, by omega, by simp⟩ [] (by constructor <;> simp) ?_
 rintro ⟨k, hk1, hi⟩ B hB
 refine CI.run 99 400 rfl ?_
 simp
 refine sBI (fun h => ?_) (fun h => ?_)
 ·have hk : k < (r.rules).length := by simpa using h
  obtain ⟨x, hx, hr, hm, ht, hd⟩ := inL hk
  have hw := wr (k := k) (by omega)
  simp only [h]
  simp [hr, hw]
  have ef : zd1 x = false → zg8 r = false := fun e => by
   have : r.rules.all zd1 = false := by rw [List.all_eq_false]; exact ⟨x, hm, by simp [e]⟩
   simp only [zg8, this, Bool.false_and]
  have s1 := zay x.host
  have s2 := zay x.pre
  refine sGI (fun h1 => ?_) (fun h1 => ?_) <;> simp only [h1] <;> simp [hr] <;> (try simp only [nT, nF, dT, dF] at h1)
  ·first | exact fin0 (by simp [ef (by simp [zd1]; omega)]) rfl | exact zac (by simp [ef (by simp [zd1]; omega)])
  refine sGI (fun h2 => ?_) (fun h2 => ?_) <;> simp only [h2] <;> simp [hr] <;> (try simp only [nT, nF, dT, dF] at h2)
  ·first | exact fin0 (by simp [ef (by simp [zd1]; omega)]) rfl | exact zac (by simp [ef (by simp [zd1]; omega)])
  refine sBI (fun h3 => ?_) (fun h3 => ?_) <;> simp only [h3] <;> simp [hr] <;> (try simp only [nT, nF, dT, dF] at h3)
  ·first | exact fin0 (by simp [ef (by simp [zd1]; omega)]) rfl | exact zac (by simp [ef (by simp [zd1]; omega)])
  ·have e : zd1 x = true := by simp [zd1]; omega
   refine hB _ ⟨k + 1, by omega, by simp [ht, hi, e]⟩ [] ?_ (by simp; omega)
   constructor <;> simp [hw, ht, e]
 ·have hkl : k = (r.rules).length := by simp at h; omega
  subst hkl
  simp only [h]
  simp [List.take_length, List.drop_length]
  rw [List.take_length] at hi
  have s3 := zay r.name
  have s4 := zay r.to
  refine sGI (fun g1 => ?_) (fun g1 => ?_) <;> simp only [g1] <;> simp <;> (try simp only [nT, nF, dT, dF] at g1)
  ·have a1 : r.rules.length ≤ 20 := by omega
   refine sGI (fun g2 => ?_) (fun g2 => ?_) <;> simp only [g2] <;> simp <;> (try simp only [nT, nF, dT, dF] at g2)
   ·have a2 : r.hosts.length ≤ 20 := by omega
    refine sGI (fun g3 => ?_) (fun g3 => ?_) <;> simp only [g3] <;> simp <;> (try simp only [nT, nF, dT, dF] at g3)
    ·have a3 : (bs r.name).length ≤ 100 := by omega
     by_cases g4 : (bs r.to).length ≤ 100
     ·exact fin0 (by simp [zg8, hi, a1, a2, a3, g4, s4]; try omega) rfl
     ·exact fin0 (by simp [zg8, hi, a1, a2, a3, g4, s4]; try omega) rfl
    ·have a3 : ¬ (bs r.name).length ≤ 100 := by omega
     exact fin0 (by simp [zg8, a3]) rfl
   ·have a2 : ¬ r.hosts.length ≤ 20 := by omega
    exact fin0 (by simp [zg8, a2]) rfl
  ·have a1 : ¬ r.rules.length ≤ 20 := by omega
   exact fin0 (by simp [zg8, a1]) rfl
end Go.Proofs.YtmhfcgpmmghakaaGreatDoor
namespace Go.Proofs.YtmhfcgpmmghakaaGreatDoor
open Go.AI Go.G Tryz
set_option maxRecDepth 20000
attribute [simp] ntmps29 results29
theorem qsh (l : List Res) (hl : OkRs l) : Ct prog 29 [lst (l.map resC)] [] [] (bool (fewL l)) [] := by
 refine Ct.B func29 mixed 99 400 ?_
 simp
 have hh := hl.len
 refine LoopI.inv mixed rfl (ι := {k : Nat // k ≤ (l).length ∧ (l.take k).all zg8 = true}) (fun k => [(0, lst (l.map resC)), (3, int k.1)]) (fun k => []) 64 (fun k => (l).length - k.1) ⟨0, by omega, by simp⟩ [] (by constructor <;> simp) ?_
 rintro ⟨k, hk1, hi⟩ B hB
 refine CI.run 99 400 rfl ?_
 simp
 refine sBI (fun h => ?_) (fun h => ?_)
 ·have hk : k < (l).length := by simpa using h
  obtain ⟨x, hx, hr, hm, ht, hd⟩ := inL hk
  have hw := wr (k := k) (by omega)
  simp only [h]
  simp [hr, hw]
  refine CI.p (qh8 x (hl.all x hm).rules) call50 99 ?_
  simp
  refine sBI (fun h1 => ?_) (fun h1 => ?_) <;> simp only [h1] <;> simp <;> (try simp only [nT, nF, dT, dF] at h1)
  ·have e : l.all zg8 = false := by rw [List.all_eq_false]; exact ⟨x, hm, by simp [h1]⟩
   exact fin0 (by simp [fewL, e]) rfl
  ·refine hB _ ⟨k + 1, by omega, by simp [ht, hi, h1]⟩ [] ?_ (by simp; omega)
   constructor <;> simp [hw, ht, h1]
 ·have hkl : k = (l).length := by simp at h; omega
  subst hkl
  simp only [h]
  simp [List.take_length, List.drop_length]
  rw [List.take_length] at hi
  exact fin0 (by simp [fewL, hi]; try omega) rfl
end Go.Proofs.YtmhfcgpmmghakaaGreatDoor
namespace Go.Proofs.YtmhfcgpmmghakaaGreatDoor
open Go.AI Go.G Tryz
set_option maxRecDepth 20000
attribute [simp] ntmps355 results355 ntmps304 results304 ntmps303 results303 ntmps236 results236 ntmps302 results302 ntmps231 results231 ntmps161 results161 ntmps234 results234 ntmps235 results235 ntmps233 results233
theorem qeb (a : Int) : Ct prog 355 [int a] [] [] (bool false) [] := by
 refine Ct.B func355 mixed 99 400 ?_
 simp
 exact fin0 (by simp) rfl
theorem zt9 (a b : Int) : Ct prog 304 [int a, int b] [] [] (int (if a < b then -1 else if b < a then 1 else 0)) [] := by
 refine Ct.B func304 mixed 99 400 ?_
 simp
 refine CI.p (qeb a) call355 99 ?_
 simp
 refine CI.p (qeb b) call355 99 ?_
 simp
 refine sBI (fun h1 => ?_) (fun h1 => ?_) <;> simp only [h1] <;> simp <;> (try simp only [nT, nF, dT, dF] at h1)
 ·first | exact fin0 (by simp [h1]) rfl | exact zac (by simp [h1])
 refine sBI (fun h2 => ?_) (fun h2 => ?_) <;> simp only [h2] <;> simp <;> (try simp only [nT, nF, dT, dF] at h2)
 ·first | exact fin0 (by simp [h1, h2]) rfl | exact zac (by simp [h1, h2])
 ·first | exact fin0 (by simp [h1, h2]) rfl | exact zac (by simp [h1, h2])
def orI (l : List Int) : Int := (l.find? fun x => !decide (x = 0)).getD 0
theorem or_p (l : List Int) (hl : l.length ≤ 9223372036854775807) : Ct prog 303 [.own 0] [(0, .grow 1 (l.map intC) 3)] [] (int (orI l)) [] := by
 refine Ct.B func303 mixed 99 400 ?_
 simp
 refine LoopI.inv mixed rfl (ι := {k : Nat // k ≤ (l).length ∧ (l.take k).all (fun x => !!decide (x = 0)) = true}) (fun k => [(3, int 0), (6, .own 0), (7, int l.length), (8, int k.1)]) (fun k => [(0, .grow 1 (l.map intC) 3)]) 64 (fun k => (l).length - k.1) ⟨0, by omega, by simp⟩ [] (by constructor <;> simp) ?_
 rintro ⟨k, hk1, hi⟩ B hB
 refine CI.run 99 400 rfl ?_
 simp
 refine sBI (fun h => ?_) (fun h => ?_)
 ·have hk : k < (l).length := by simpa using h
  obtain ⟨x, hx, hr, hm, ht, hd⟩ := inL hk
  have hw := wr (k := k) (by omega)
  simp only [h]
  simp [hr, hw, hk]
  refine sBI (fun h1 => ?_) (fun h1 => ?_) <;> simp only [h1] <;> simp [hx] <;> (try simp only [nT, nF, dT, dF] at h1)
  ·rw [hx] at h1
   have e : orI l = x := by simp [orI, zq4 hi hr (by simpa using h1)]
   exact ⟨[], by constructor <;> simp [nmF, inB, e, hx]⟩
  ·rw [hx] at h1
   refine hB _ ⟨k + 1, by omega, by rw [ht, List.all_append, hi]; simp [h1]⟩ [] ?_ (by simp; omega)
   constructor <;> simp [hw]
 ·have hkl : k = (l).length := by simp at h; omega
  subst hkl
  simp only [h]
  simp [List.take_length, List.drop_length]
  rw [List.take_length] at hi
  have e : orI l = 0 := by simp [orI, znm hi]
  exact ⟨[], by constructor <;> simp [nmF, inB, e]⟩
theorem qe9 (a b : Key) : Ct prog 236 [st (keyC a), st (keyC b)] [] [] (int (cmpK a b)) [] := by
 refine Ct.B func236 mixed 99 400 ?_
 simp
 refine CI.p (zt9 a.kind b.kind) call304 99 ?_
 simp
 refine CI.p (qsn a.name b.name) call305 99 ?_
 simp
 refine CI.cc [896] (or_p [if a.kind < b.kind then -1 else if b.kind < a.kind then 1 else 0, cmpS a.name b.name] (by simp)) call303 99 ?_
 simp
 refine ⟨by decide +kernel, ?_⟩
 have e : orI [if a.kind < b.kind then -1 else if b.kind < a.kind then 1 else 0, cmpS a.name b.name] = cmpK a b := by
  unfold orI cmpK
  by_cases h1 : a.kind < b.kind
  ·simp [h1]
  ·by_cases h2 : b.kind < a.kind
   ·simp [h1, h2]
   ·by_cases h3 : cmpS a.name b.name = 0 <;> simp [h1, h2, h3]
 exact fin0 (by simp [e]) rfl
theorem isP (k_ : Key) (r : Res) : Ct prog 302 [st (resC r), .d (.pro (keyC k_))] [] [] (bool (decide (r.key = k_))) [] := by
 refine Ct.B func302 mixed 99 400 ?_
 simp
 refine CI.p (zeo r) call103 99 ?_
 simp
 rw [zo8]
 refine ⟨by decide +kernel, ?_⟩
 exact fin0 (by simp) rfl
theorem is_p (k_ : Key) : Ct prog 231 [st (keyC k_)] [] [] (.d (.fn (.func 302) [] [.pro (keyC k_)])) [] := by
 refine Ct.B func231 mixed 99 400 ?_
 simp
 exact fin0 (by simp) rfl
theorem qnf (l : List Res) (k_ : Key) (hl : l.length ≤ 9223372036854775807) : Ct prog 161 [lst (l.map resC), st (keyC k_)] [] [] (getA l k_) [] := by
 refine Ct.B func161 mixed 99 400 ?_
 simp
 refine CI.p (is_p k_) call231 99 ?_
 simp
 refine CI.p (zqv l (.fn (.func 302) [] [.pro (keyC k_)]) (fun r => decide (r.key = k_)) (fun r hr => FnOk.clo (by exact isP k_ r) call302 rfl rfl) hl) call230 99 ?_
 simp
 rcases zhp (fun r : Res => decide (r.key = k_)) l with ⟨h1, h2⟩ | ⟨i, x, h1, h2, h3, h4⟩
 ·have e : getR l k_ = none := h2
  simp [h1]
  exact fin0 (by simp [e, zRes]) rfl
 ·have e : getR l k_ = some x := h4
  have hx : l[i] = x := by rw [List.getElem?_eq_getElem h2] at h3; exact Option.some.inj h3
  simp [h1, h2, h3, hx]
  exact fin0 (by simp [e]) rfl
theorem zq5 (l : List Res) (kf : D) (p : Res → Bool) (hf : ∀ x ∈ l, FnOk prog (.d kf) [st (resC x)] (bool (p x))) (hl : l.length ≤ 1000000) : Ct prog 234 [lst (l.map resC), .d kf] [] [] (lst ((l.filter p).map resC)) [] := by
 refine Ct.B func234 mixed 99 400 ?_
 simp
 refine LoopI.nilOwn 5 7 109 rfl ?_
 refine LoopI.U mixed (l) (fun k => [(0, lst (l.map resC)), (1, .d kf), (5, .own 64), (8, lst (l.map resC)), (9, int l.length), (10, int k.1)]) (fun k => [(64, .grow 7 (((l.take k.1).filter p).map resC) 109)]) 65 [] (by constructor <;> simp) ?_
 rintro ⟨k, hk1⟩ B hB
 refine CI.run 99 400 rfl ?_
 simp
 refine sBI (fun h => ?_) (fun h => ?_)
 ·have hk : k < (l).length := by simpa using h
  obtain ⟨x, hx, hr, hm, ht, hd⟩ := inL hk
  have hw := wr (k := k) (by omega)
  simp only [h]
  simp [hr, hw]
  have hlen : ((l.take k).filter p).length ≤ 1000000 := Nat.le_trans (List.length_filter_le _ _) (by simp; omega)
  refine CI.ff (hf x hm) rfl rfl rfl 99 ?_
  simp
  refine sBI (fun h1 => ?_) (fun h1 => ?_) <;> simp only [h1] <;> simp [hr]
  ·refine ⟨by omega, ?_⟩
   refine hB _ ⟨k + 1, by omega⟩ [] ?_ (by simp; omega)
   constructor <;> simp [hw, ht, List.filter_append, h1]
  ·refine hB _ ⟨k + 1, by omega⟩ [] ?_ (by simp; omega)
   constructor <;> simp [hw, ht, List.filter_append, h1]
 ·have hkl : k = (l).length := by simp at h; omega
  subst hkl
  simp only [h]
  simp [List.take_length, List.drop_length]
  exact fin0 (by simp) rfl
theorem qoo (k_ : Key) (c : Int) (r : Res) : Ct prog 235 [st (resC r), .d (.pro (keyC k_)), .d (.pro [iD c])] [] [] (bool (decide (cmpK r.key k_ = c))) [] := by
 refine Ct.B func235 mixed 99 400 ?_
 simp
 refine CI.p (zeo r) call103 99 ?_
 simp
 refine CI.p (qe9 r.key k_) call236 99 ?_
 simp
 refine ⟨by decide +kernel, ?_⟩
 exact fin0 (by simp) rfl
theorem qja (l : List Res) (k_ : Key) (c : Int) (hl : l.length ≤ 1000000) : Ct prog 233 [int c, .d (.pro [lD (l.map resC)]), .d (.pro (keyC k_))] [] [] (lst ((ziq l k_ c).map resC)) [] := by
 refine Ct.B func233 mixed 1 400 ?_
 simp
 refine CI.s (tm := [(1, .d (.pro [lD (l.map resC)])), (2, .d (.pro (keyC k_))), (3, .d (.pro [iD c]))]) (mm := []) (nx := 65) [] [64] (by constructor <;> simp) ?_
 refine CI.run 99 400 rfl ?_
 simp
 refine CI.p (zq5 l (.fn (.func 235) [] [.pro (keyC k_), .pro [iD c]]) (fun r => decide (cmpK r.key k_ = c)) (fun r hr => FnOk.clo (by exact qoo k_ c r) call235 rfl rfl) hl) call234 99 ?_
 simp
 exact fin0 (by simp) rfl
end Go.Proofs.YtmhfcgpmmghakaaGreatDoor
namespace Go.Proofs.YtmhfcgpmmghakaaGreatDoor
open Go.AI Go.G Tryz
set_option maxRecDepth 20000
attribute [simp] ntmps306 results306 ntmps237 results237 ntmps163 results163 ntmps160 results160 ntmps230 results230 ntmps232 results232 ntmps162 results162 ntmps110 results110 ntmps371 results371 ntmps319 results319
abbrev qok : List D := [iD 0, sD ⟨#[]⟩, iD 0, iD 0, sD ⟨#[]⟩, .v (.slice none 0 0), .v (.slice none 0 0)]
theorem qsc (n : Int) (h0 : 0 < n) (h1 : n ≤ 2000000) : Ct prog 306 [.d (.v (.slice none 0 0)), int n] [] [] (.sl 64 7 0 0) [(64, .grow 7 (List.replicate n.toNat qok) 109)] := by
 refine Ct.B func306 mixed 99 400 ?_
 simp
 have g1 : ¬ n < 0 := by omega
 have g2 := zaa (n := n) (by omega) (by omega)
 simp [g1, g2, h0]
 refine ⟨⟨by omega, by omega⟩, by omega, ?_⟩
 exact ⟨[(64, 1216)], by constructor <;> simp [nmF, inB, qok]⟩
theorem qno (a b c : List Res) (h0 : 0 < a.length + b.length + c.length) (h1 : a.length + b.length + c.length ≤ 2000000) : Ct prog 237 [.own 0] [(0, .grow 1 [[lD (a.map resC)], [lD (b.map resC)], [lD (c.map resC)]] 22)] [] (.own 64) [(64, .grow 7 ((a ++ b ++ c).map resC) 109)] := by
 refine Ct.B func237 mixed 99 400 ?_
 simp
 have w1 : IntKind.wrap .i64 (a.length : Int) = a.length := zaa (by omega) (by omega)
 have w2 : IntKind.wrap .i64 ((a.length : Int) + b.length) = a.length + b.length := zaa (by omega) (by omega)
 have w3 : IntKind.wrap .i64 ((a.length : Int) + b.length + c.length) = a.length + b.length + c.length := zaa (by omega) (by omega)
 have v1 : ¬ ((a.length : Int) < 0) := by omega
 have v2 : ¬ ((a.length : Int) + b.length < 0) := by omega
 have v3 : ¬ ((a.length : Int) + b.length + c.length < 0) := by omega
 refine LoopI.unroll mixed (Plain.retC _ _ _ _ _) rfl ?_
 refine CI.run 99 400 rfl ?_
 simp [w1, v1]
 refine LoopI.unroll mixed (Plain.retC _ _ _ _ _) rfl ?_
 refine CI.run 99 400 rfl ?_
 simp [w2, v2]
 refine LoopI.unroll mixed (Plain.retC _ _ _ _ _) rfl ?_
 refine CI.run 99 400 rfl ?_
 simp [w3, v3]
 refine LoopI.unroll mixed (Plain.retC _ _ _ _ _) rfl ?_
 refine CI.run 99 400 rfl ?_
 simp
 refine CI.cc [] (qsc ((a.length : Int) + b.length + c.length) (by omega) (by omega)) call306 99 ?_
 simp
 refine LoopI.unroll mixed (Plain.retC _ _ _ _ _) rfl ?_
 refine CI.run 99 400 rfl ?_
 simp
 refine ⟨by omega, ?_⟩
 refine LoopI.unroll mixed (Plain.retC _ _ _ _ _) rfl ?_
 refine CI.run 99 400 rfl ?_
 simp
 refine ⟨by omega, ?_⟩
 refine LoopI.unroll mixed (Plain.retC _ _ _ _ _) rfl ?_
 refine CI.run 99 400 rfl ?_
 simp
 refine ⟨by omega, ?_⟩
 refine LoopI.unroll mixed (Plain.retC _ _ _ _ _) rfl ?_
 refine CI.run 99 400 rfl ?_
 simp
 exact ⟨[(64, 4992)], by constructor <;> simp [nmF, inB]⟩
theorem qi9 (l : List Res) (r : Res) (hl : l.length ≤ 1000000) : Ct prog 163 [lst (l.map resC), st (resC r)] [] [] (lst ((zey l r).map resC)) [] := by
 refine Ct.B func163 mixed 2 400 ?_
 simp
 refine CI.p (zeo r) call103 2 ?_
 simp
 refine CI.s (tm := [(2, .d (.pro [lD (l.map resC)])), (3, .ptr 64 0), (5, .d (.pro (keyC r.key)))]) (mm := [(64, .cells ((resC r).map .d) 109)]) (nx := 65) [(64, 128)] [64, 384] (by constructor <;> simp) ?_
 refine CI.run 99 400 rfl ?_
 simp
 refine CI.ff (FnOk.clo (args := [int (-1)]) (by exact qja l r.key (-1) hl) call233 rfl rfl) rfl rfl rfl 99 ?_
 simp
 refine CI.ff (FnOk.clo (args := [int 1]) (by exact qja l r.key 1 hl) call233 rfl rfl) rfl rfl rfl 99 ?_
 simp
 have h1 := zrp l r
 simp only [zey, List.length_append, List.length_cons, List.length_nil] at h1
 refine CI.cc [577] (qno (ziq l r.key (-1)) [r] (ziq l r.key 1) (by simp; omega) (by simp only [List.length_cons, List.length_nil]; omega)) call237 99 ?_
 simp
 exact zac (by simp)
theorem zx9 : Ct prog 160 [lst []] [] [] (lst []) [] := by
 refine Ct.B func160 mixed 99 400 ?_
 simp
 refine ⟨?_, ?_⟩
 ·exact fin0 (by simp) rfl
 ·exact fin0 (by simp) rfl
theorem zq8 (x : Res) (l : List Res) (hl : l.length ≤ 1000000) : Ct prog 160 [lst ((x :: l).map resC)] [] [] (.own 64) [(64, .grow 7 ((x :: l).map resC) 109)] := by
 refine Ct.B func160 mixed 99 400 ?_
 simp
 refine ⟨by omega, ?_⟩
 exact ⟨[(64, 384)], by constructor <;> simp [nmF, inB]⟩
theorem qhw (l : List Res) (kf : D) (p : Res → Bool) (hf : ∀ x ∈ l, FnOk prog (.d kf) [st (resC x)] (bool (p x))) (hl : l.length ≤ 9223372036854775807) : Ct prog 230 [.own 0, .d kf] [(0, .grow 7 (l.map resC) 109)] [] (int (idxF p l)) [] := by
 refine Ct.B func230 mixed 99 400 ?_
 simp
 refine LoopI.inv mixed rfl (ι := {k : Nat // k ≤ (l).length ∧ (l.take k).all (fun x => !p x) = true}) (fun k => [(0, .own 0), (1, .d kf), (7, int l.length), (8, int k.1)]) (fun k => [(0, .grow 7 (l.map resC) 109)]) 64 (fun k => (l).length - k.1) ⟨0, by omega, by simp⟩ [] (by constructor <;> simp) ?_
 rintro ⟨k, hk1, hi⟩ B hB
 refine CI.run 99 400 rfl ?_
 simp
 refine sBI (fun h => ?_) (fun h => ?_)
 ·have hk : k < (l).length := by simpa using h
  obtain ⟨r, hx, hr, hm, ht, hd⟩ := inL hk
  have hw := wr (k := k) (by omega)
  simp only [h]
  simp [hr, hw, hk]
  refine CI.ff (hf r hm) rfl rfl rfl 99 ?_ (ha := by simp [hx])
  simp [hx]
  refine sBI (fun hp => ?_) (fun hp => ?_) <;> simp only [hp] <;> simp
  ·have e := zek hi hr hp
   exact ⟨[], by constructor <;> simp [nmF, inB, e]⟩
  ·refine hB _ ⟨k + 1, by omega, by simp [ht, hi, hp]⟩ [] ?_ (by simp; omega)
   constructor <;> simp [hw, ht, hp]
 ·have hkl : k = (l).length := by simp at h; omega
  subst hkl
  simp only [h]
  simp [List.take_length, List.drop_length]
  rw [List.take_length] at hi
  have e : idxF p l = -1 := zb1 (fun x hx => by have := List.all_eq_true.1 hi x hx; simpa using this)
  exact ⟨[], by constructor <;> simp [nmF, inB, e]⟩
theorem delE (kf : D) : Ct prog 232 [lst [], .d kf] [] [] (lst []) [] := by
 refine Ct.B func232 mixed 99 400 ?_
 simp
 refine CI.p (zqv [] kf (fun _ => false) (fun x hx => by simp at hx) (by simp)) call230 99 ?_
 simp
 simp [idxF]
 exact fin0 (by simp) rfl
theorem delC (l : List Res) (kf : D) (p : Res → Bool) (hf : ∀ x ∈ l, FnOk prog (.d kf) [st (resC x)] (bool (p x))) (hl : l.length ≤ 1000000) : Ct prog 232 [.own 0, .d kf] [] [(0, .grow 7 (l.map resC) 109)] (lst ((l.filter fun x => !p x).map resC)) [] := by
 refine Ct.B func232 mixed 99 400 ?_
 simp
 refine CI.cc [0] (qhw l kf p hf (by omega)) call230 99 ?_
 simp
 rcases zhp p l with ⟨h1, h2⟩ | ⟨i, x, h1, h2, h3, h4⟩
 ·have e : (l.filter fun x => !p x) = l := by
   rw [List.filter_eq_self]; intro a ha
   have := List.find?_eq_none.1 h2 a ha; simpa using this
  simp [h1]
  exact ⟨[], by constructor <;> simp [nmF, inB, e]⟩
 ·have hne : ¬ (i : Int) = -1 := by omega
  have hwi : IntKind.wrap .i64 ((i : Int) + 1) = i + 1 := zaa (by omega) (by omega)
  simp [h1, hne, hwi]
  have d0 := DelSt.start (x := x) h1 h2
  refine LoopI.inv mixed rfl (ι := {q : Nat × Nat × List Res // DelSt p l q.1 q.2.1 q.2.2}) (fun k => [(0, .own 0), (1, .d kf), (5, int k.1.2.1), (6, int k.1.1)]) (fun k => [(0, .grow 7 (k.1.2.2.map resC) 109)]) 64 (fun k => l.length - k.1.1) ⟨(i + 1, i, l), d0⟩ [] (by constructor <;> simp) ?_
  rintro ⟨⟨j, i, cur⟩, hd⟩ B hB
  clear h1 h2 h3 h4 hne hwi d0
  have hlen := hd.len
  have hlt := hd.lt
  have hle := hd.le
  simp only at hlen hlt hle
  have w1 : IntKind.wrap .i64 ((j : Int) + 1) = j + 1 := zaa (by omega) (by omega)
  have w2 : IntKind.wrap .i64 ((i : Int) + 1) = i + 1 := zaa (by omega) (by omega)
  refine CI.run 99 400 rfl ?_
  simp [hlen]
  refine sBI (fun h => ?_) (fun h => ?_) <;> simp only [h] <;> simp <;> (try simp only [nT, nF, dT, dF] at h)
  ·have hj : j < l.length := by omega
   have hv : l[j]? = some l[j] := List.getElem?_eq_getElem hj
   have hm : l[j] ∈ l := List.getElem_mem hj
   generalize l[j] = v at hv hm
   have hg := hd.get hv
   have hjc : j < cur.length := by omega
   have hgx : cur[j] = v := by rw [List.getElem?_eq_getElem hjc] at hg; exact Option.some.inj hg
   simp [hjc, hgx]
   refine CI.ff (hf v hm) rfl rfl rfl 99 ?_
   simp
   have hic : i < cur.length := by omega
   refine sBI (fun h2 => ?_) (fun h2 => ?_) <;> simp only [h2] <;> simp [hic]
   ·have hp : p v = false := by simpa using h2
    refine hB _ ⟨(j + 1, i + 1, cur.set i v), hd.keep hv hp⟩ [] ?_ (by simp; omega)
    constructor <;> simp [w1, w2, List.map_set]
   ·have hp : p v = true := by simpa using h2
    refine hB _ ⟨(j + 1, i, cur), hd.del hv hp⟩ [] ?_ (by simp; omega)
    constructor <;> simp [w1]
  ·have hj : j = l.length := by omega
   subst hj
   have e : cur.take i = l.filter (fun x => !p x) := hd.done
   simp [hlen]
   have e2 : List.take i (List.map resC cur) = List.map resC (List.filter (fun x => !p x) l) := by rw [← List.map_take, e]
   have e3 : (List.filter (fun x => !p x) l).length = i := by rw [← e, List.length_take]; omega
   refine ⟨by omega, by omega, by omega, ?_⟩
   rw [e2]
   exact ⟨[], by constructor <;> simp [nmF, inB, e3, List.take_append, show i ≤ i + (l.length - i + (l.length - (i + (l.length - i)))) from by omega]⟩
theorem qa2 (l : List Res) (k_ : Key) (hl : l.length ≤ 1000000) : Ct prog 162 [lst (l.map resC), st (keyC k_)] [] [] (lst ((zbi l k_).map resC)) [] := by
 refine Ct.B func162 mixed 99 400 ?_
 simp
 cases l with
 | nil =>
   refine CI.p zx9 call160 99 ?_
   simp
   refine CI.p (is_p k_) call231 99 ?_
   simp
   refine CI.p (delE (.fn (.func 302) [] [.pro (keyC k_)])) call232 99 ?_
   simp
   exact zac (by simp)
 | cons x l =>
   refine CI.cc [] (zq8 x l (by simp at hl; omega)) call160 99 ?_
   simp
   refine CI.p (is_p k_) call231 99 ?_
   simp
   refine CI.cc [256] (delC (x :: l) (.fn (.func 302) [] [.pro (keyC k_)]) (fun r => decide (r.key = k_)) (fun r hr => FnOk.clo (by exact isP k_ r) call302 rfl rfl) hl) call232 99 ?_
   simp
   exact zac (by simp)
theorem zqc (l adds : List Res) (gone : List Key) (hl : l.length + adds.length ≤ 1000000) (hg : gone.length ≤ 9223372036854775807) : Ct prog 110 [lst (l.map resC), lst (adds.map resC), lst (gone.map keyC)] [] [] (lst ((za3 l adds gone).map resC)) [] := by
 refine Ct.B func110 mixed 99 400 ?_
 simp
 refine LoopI.U mixed (gone) (fun k => [(0, lst (((gone.take k.1).foldl zbi l).map resC)), (1, lst (adds.map resC)), (11, lst (gone.map keyC)), (12, int gone.length), (13, int k.1)]) (fun k => []) 64 [] (by constructor <;> simp) ?_
 rintro ⟨k, hk1⟩ B hB
 refine CI.run 99 400 rfl ?_
 simp
 refine sBI (fun h => ?_) (fun h => ?_)
 ·have hk : k < (gone).length := by simpa using h
  obtain ⟨x, hx, hr, hm, ht, hd⟩ := inL hk
  have hw := wr (k := k) (by omega)
  simp only [h]
  simp [hr, hw]
  have h1 := zcr (gone.take k) l
  refine CI.p (qa2 ((gone.take k).foldl zbi l) x (by omega)) call162 99 ?_
  simp
  refine hB _ ⟨k + 1, by omega⟩ [] ?_ (by simp; omega)
  constructor <;> simp [hw, ht, List.foldl_append]
 ·have hkl : k = (gone).length := by simp at h; omega
  subst hkl
  simp only [h]
  simp [List.take_length, List.drop_length]
  have h1 := zcr gone l
  refine LoopI.U mixed (adds) (fun k => [(0, lst (((adds.take k.1).foldl zey (gone.foldl zbi l)).map resC)), (21, lst (adds.map resC)), (22, int adds.length), (23, int k.1)]) (fun k => []) 64 [] (by constructor <;> simp) ?_
  rintro ⟨k, hk1⟩ B hB
  refine CI.run 99 400 rfl ?_
  simp
  refine sBI (fun h => ?_) (fun h => ?_)
  ·have hk : k < (adds).length := by simpa using h
   obtain ⟨x, hx, hr, hm, ht, hd⟩ := inL hk
   have hw := wr (k := k) (by omega)
   simp only [h]
   simp [hr, hw]
   have h2 := zd7 (adds.take k) (gone.foldl zbi l)
   have h3 : (adds.take k).length ≤ adds.length := by simp; omega
   refine CI.p (qi9 ((adds.take k).foldl zey (gone.foldl zbi l)) x (by omega)) call163 99 ?_
   simp
   refine hB _ ⟨k + 1, by omega⟩ [] ?_ (by simp; omega)
   constructor <;> simp [hw, ht, List.foldl_append]
  ·have hkl : k = (adds).length := by simp at h; omega
   subst hkl
   simp only [h]
   simp [List.take_length, List.drop_length]
   exact fin0 (by simp [za3]) rfl
theorem qqm (l : List Key) (k_ : Key) (hl : l.length ≤ 9223372036854775807) : Ct prog 371 [lst (l.map keyC), st (keyC k_)] [] [] (int (idxF (fun x => decide (k_ = x)) l)) [] := by
 refine Ct.B func371 mixed 99 400 ?_
 simp
 refine LoopI.inv mixed rfl (ι := {k : Nat // k ≤ (l).length ∧ (l.take k).all (fun x => !decide (k_ = x)) = true}) (fun k => [(0, lst (l.map keyC)), (3, .ptr 64 0), (6, lst (l.map keyC)), (7, int l.length), (8, int k.1)]) (fun k => [(64, .cells ((keyC k_).map .d) 203)]) 65 (fun k => (l).length - k.1) ⟨0, by omega, by simp⟩ [] (by constructor <;> simp) ?_
 rintro ⟨k, hk1, hi⟩ B hB
 refine CI.run 99 400 rfl ?_
 simp
 refine sBI (fun h => ?_) (fun h => ?_)
 ·have hk : k < (l).length := by simpa using h
  obtain ⟨r, hx, hr, hm, ht, hd⟩ := inL hk
  have hw := wr (k := k) (by omega)
  simp only [h]
  simp [hr, hw]
  rw [zo8]
  refine ⟨by decide +kernel, ?_⟩
  refine sBI (fun h1 => ?_) (fun h1 => ?_) <;> simp only [h1] <;> simp [hr]
  ·have e := zek hi hr (by simpa using h1)
   exact fin0 (by simp [e]) rfl
  ·refine hB _ ⟨k + 1, by omega, by simp [ht, hi, h1]⟩ [] ?_ (by simp; omega)
   constructor <;> simp [hw, ht, h1]
 ·have hkl : k = (l).length := by simp at h; omega
  subst hkl
  simp only [h]
  simp [List.take_length, List.drop_length]
  rw [List.take_length] at hi
  have e : idxF (fun x => decide (k_ = x)) l = -1 := zb1 (fun x hx => by have := List.all_eq_true.1 hi x hx; simpa using this)
  exact fin0 (by simp [e]) rfl
theorem qju (l : List Key) (k_ : Key) (hl : l.length ≤ 9223372036854775807) : Ct prog 319 [lst (l.map keyC), st (keyC k_)] [] [] (bool (decide (k_ ∈ l))) [] := by
 refine Ct.B func319 mixed 99 400 ?_
 simp
 refine CI.p (qqm l k_ hl) call371 99 ?_
 simp
 rw [zev]
 have e : (l.any fun x => decide (k_ = x)) = decide (k_ ∈ l) := by rw [Bool.eq_iff_iff]; simp
 exact fin0 (by simp [e]) rfl
end Go.Proofs.YtmhfcgpmmghakaaGreatDoor
