/-
  LAYERS 10 to 12: the walks of records, frames, streams and links.
-/
import Derived.Test.YtmhfcgpmmghakaaGreatDoorWa
import Derived.Test.YtmhfcgpmmghakaaGreatDoorPq
import Derived.Test.YtmhfcgpmmghakaaGreatDoorFd
import Derived.Test.YtmhfcgpmmghakaaGreatDoorWh
import Derived.Test.YtmhfcgpmmghakaaGreatDoorWf
set_option linter.unusedSimpArgs false
set_option linter.unusedVariables false
namespace Go.Proofs.YtmhfcgpmmghakaaGreatDoor
open Go.AI Go.G Tryz
set_option maxRecDepth 20000
attribute [simp] ntmps180 results180 ntmps92 results92 ntmps175 results175 ntmps255 results255 ntmps179 results179 ntmps119 results119 ntmps262 results262 ntmps123 results123
attribute [simp] byteC
abbrev nilS : AV := .d (.v (.slice none 0 0))
theorem qnx (n : Int) : Ct prog 180 [int n] [] [] (int (bndN n)) [] := by
 refine Ct.B func180 mixed 99 400 ?_
 simp
 have e := qit n
 exact fin0 (by simp [e]) rfl
theorem qii : Ct prog 92 [nilS] [] [] (nilS) [] := by
 refine Ct.B func92 mixed 99 400 ?_
 simp
 exact fin0 (by simp) rfl
theorem zwd (x : UInt8) (l : List UInt8) (hl : l.length ≤ 1000000) : Ct prog 92 [lst ((x :: l).map byteC)] [] [] (.own 64) [(64, .grow 1 ((x :: l).map byteC) 5)] := by
 refine Ct.B func92 mixed 99 400 ?_
 simp
 refine ⟨by omega, ?_⟩
 exact ⟨[(64, 384)], by constructor <;> simp [nmF, inB]⟩
theorem qp3 (n : Int) : Ct prog 175 [nilS, int n] [] [] (.own 64) [(64, .grow 1 ((numB n).map byteC) 5)] := by
 refine Ct.B func175 mixed 99 400 ?_
 simp
 refine CI.p qii call92 99 ?_
 simp
 refine CI.p (qnx n) call180 99 ?_
 simp
 obtain ⟨m, e0, e1, e2⟩ := zl9 n
 simp [e0]
 refine LoopI.nilOwn 5 1 5 rfl ?_
 refine LoopI.inv mixed rfl (ι := {z : List UInt8 × Nat × Nat // NumI m z.1 z.2.1 z.2.2}) (fun k => [(1, int k.1.2.1), (5, .own 64)]) (fun k => [(64, .grow 1 (k.1.1.map byteC) 5)]) 65 (fun k => k.1.2.2) ⟨([], m, 5), .start e1⟩ [] (by constructor <;> simp) ?_
 rintro ⟨⟨q, n, f⟩, hI⟩ B hB
 simp only at hI
 refine CI.run 99 400 rfl ?_
 simp
 have hs := hI.small
 have hql : q.length ≤ 5 := by have := hI.l; omega
 have hf := hI.f1
 have w1 := zxl n hs
 have w2 : (n : Int).fdiv (2 ^ min 7 IntKind.i64.bits) = ((n / 128 : Nat) : Int) := qdc n
 refine sBI (fun h1 => ?_) (fun h1 => ?_) <;> simp only [h1] <;> simp [w1, w2] <;> (try simp only [nT, nF, dT, dF] at h1)
 ·refine ⟨by omega, ?_⟩
  refine hB _ ⟨(q ++ [UInt8.ofNat (n % 128 + 128)], n / 128, f - 1), hI.step (by omega)⟩ [] ?_ (by simp; omega)
  constructor <;> simp [w2]
 ·have h1' : n < 128 := by omega
  have w3 := zxm n h1'
  have e3 := hI.last h1'
  simp [w3]
  refine ⟨by omega, ?_⟩
  exact ⟨[(64, 449)], by constructor <;> simp [nmF, inB, e2, ← e3]⟩
theorem qp4 (x : UInt8) (l : List UInt8) (n : Int) (hl : l.length ≤ 1000000) : Ct prog 175 [lst ((x :: l).map byteC), int n] [] [] (.own 64) [(64, .grow 1 ((x :: l ++ numB n).map byteC) 5)] := by
 refine Ct.B func175 mixed 99 400 ?_
 simp
 refine CI.cc [] (zwd x l hl) call92 99 ?_
 simp
 refine CI.p (qnx n) call180 99 ?_
 simp
 obtain ⟨m, e0, e1, e2⟩ := zl9 n
 simp [e0]
 refine LoopI.inv mixed rfl (ι := {z : List UInt8 × Nat × Nat // NumI m z.1 z.2.1 z.2.2}) (fun k => [(1, int k.1.2.1), (5, .own 64)]) (fun k => [(64, .grow 1 ((x :: l ++ k.1.1).map byteC) 5)]) 65 (fun k => k.1.2.2) ⟨([], m, 5), .start e1⟩ [] (by constructor <;> simp) ?_
 rintro ⟨⟨q, n, f⟩, hI⟩ B hB
 simp only at hI
 refine CI.run 99 400 rfl ?_
 simp
 have hs := hI.small
 have hql : q.length ≤ 5 := by have := hI.l; omega
 have hf := hI.f1
 have w1 := zxl n hs
 have w2 : (n : Int).fdiv (2 ^ min 7 IntKind.i64.bits) = ((n / 128 : Nat) : Int) := qdc n
 refine sBI (fun h1 => ?_) (fun h1 => ?_) <;> simp only [h1] <;> simp [w1, w2] <;> (try simp only [nT, nF, dT, dF] at h1)
 ·refine ⟨by omega, ?_⟩
  refine hB _ ⟨(q ++ [UInt8.ofNat (n % 128 + 128)], n / 128, f - 1), hI.step (by omega)⟩ [] ?_ (by simp; omega)
  constructor <;> simp [w2]
 ·have h1' : n < 128 := by omega
  have w3 := zxm n h1'
  have e3 := hI.last h1'
  simp [w3]
  refine ⟨by omega, ?_⟩
  exact ⟨[(64, 449)], by constructor <;> simp [nmF, inB, e2, ← e3]⟩
theorem qor (x : UInt8) (l : List UInt8) (s : Str) (hl : l.length ≤ 1000000) (hs : (bs s).length ≤ 1000000) : Ct prog 255 [lst ((x :: l).map byteC), str s] [] [] (.own 64) [(64, .grow 1 ((x :: l ++ zb9 s).map byteC) 5)] := by
 refine Ct.B func255 mixed 99 400 ?_
 simp
 have h5 := zad ((bs s).length : Int)
 have e : List.map (fun c : UInt8 => [D.v (.int .u8 c.toNat)]) (ByteArray.toList s) = (bs s).map byteC := zu2 s
 have e1 : ByteArray.size s = (bs s).length := zay s
 refine CI.cc [] (qp4 x l (bs s).length hl) call175 99 ?_ (ha := by simp [e, e1]) (hk := by simp [e, e1])
 simp [e, e1]
 refine ⟨by omega, ?_⟩
 exact ⟨[(64, 448)], by constructor <;> simp [nmF, inB, zb9]⟩
theorem qp5 (n : Int) : Ct prog 175 [nilS, int n] [] [] (lst ((numB n).map byteC)) [] := (qp3 n).data
theorem zch (x : UInt8) (l : List UInt8) (n : Int) (hl : l.length ≤ 1000000) : Ct prog 175 [lst ((x :: l).map byteC), int n] [] [] (lst ((x :: l ++ numB n).map byteC)) [] := (qp4 x l n hl).data
theorem zid (x : UInt8) (l : List UInt8) (s : Str) (hl : l.length ≤ 1000000) (hs : (bs s).length ≤ 1000000) : Ct prog 255 [lst ((x :: l).map byteC), str s] [] [] (lst ((x :: l ++ zb9 s).map byteC)) [] := (qor x l s hl hs).data
theorem ql6 (n : Int) (t : List UInt8) (h0 : 0 ≤ n) (h : n ≤ 2147483647) (ht : t.length ≤ 1000000) : Ct prog 179 [.ptr 0 0] [(0, .cells [lst ((numB n ++ t).map byteC), int 0] 229)] [] (.tup [int n, int (numB n).length, int 0]) [] := by
 refine Ct.B func179 mixed 99 400 ?_
 simp
 have hq5 := zad n
 obtain ⟨M, e, m1, m2, m3⟩ := qqx (numB n).length t.length hq5
 refine ⟨⟨by split <;> omega, by split <;> omega⟩, ?_⟩
 refine ⟨by decide +kernel, ?_⟩
 simp only [e, m3]
 obtain ⟨m, rfl⟩ : ∃ m : Nat, n = m := ⟨n.toNat, by omega⟩
 have hq : numB (m : Int) = numF 5 m := by obtain ⟨x, e0, e1, e2⟩ := zl9 (m : Int); rw [zwh h0 h] at e0; rw [e2]; congr 1; omega
 have hs := ParI.start (m := m) (by omega)
 rw [← hq] at hs
 generalize numB (m : Int) = q at *
 refine LoopI.inv mixed rfl (ι := {z : Nat × Nat × Nat // ParI m q z.1 z.2.1 z.2.2}) (fun k => [(0, .ptr 0 0), (5, int k.1.2.1), (20, int k.1.1), (19, int M), (18, lst ((q ++ t).map byteC |>.take M))]) (fun k => [(0, .cells [lst ((q ++ t).map byteC), int 0] 229)]) 64 (fun k => 5 - k.1.1) ⟨(0, 0, m), hs⟩ [] (by constructor <;> simp [m3]) ?_
 rintro ⟨⟨k, n0, r⟩, hI⟩ B hB
 simp only at hI
 have hk4 := hI.k4
 have w0 : IntKind.wrap .i64 ((k : Int) * 7) = ((7 * k : Nat) : Int) := by rw [zaa (by omega) (by omega)]; omega
 have w1 : IntKind.wrap .u64 (7 * (k : Int)) = 7 * (k : Int) := by show (7 * (k : Int)) % 2 ^ 64 = _; omega
 have wk : IntKind.wrap .i64 ((k : Int) + 1) = k + 1 := zaa (by omega) (by omega)
 have w3 : (7 * (k : Int)).toNat = 7 * k := by omega
 have w2 : min (7 * k) IntKind.i64.bits = 7 * k := by show min (7 * k) 64 = _; omega
 by_cases hr : r < 128
 ·obtain ⟨a1, a2⟩ := hI.last hr
  have hkM : k < M := by omega
  have hkq : k < q.length := by omega
  obtain ⟨p1, p2⟩ := qjh hk4 hI.n0 hr
  have l1 : zkv .u8 (r : Int) 128 = r := by rw [zxp r (by omega)]; omega
  have l2 : IntKind.wrap .i64 (r : Int) = r := zaa (by omega) (by omega)
  have b0 : ((q[k]).toNat : Int) = r := by rw [List.getElem?_eq_getElem hkq] at a1; rw [Option.some.inj a1, zwq _ (by omega)]
  refine CI.run 99 400 rfl ?_
  simp [m3, hkM, hkq, b0, List.getElem?_append, w0, w1, w2, w3, l1, l2, p1, p2]
  refine ⟨by omega, ?_⟩
  refine sBI (fun g1 => ?_) (fun g1 => ?_) <;> simp only [g1] <;> simp <;> (try simp only [nT, nF, dT, dF] at g1)
  ·omega
  have e5 : (n0 : Int) + 2 ^ (7 * k) * r = m := by exact_mod_cast hI.m.symm
  have e6 : (q.length : Int) = k + 1 := by omega
  have e7 : r = 0 → k = 0 := fun h => by have := hI.pos; omega
  refine sGI (fun g2 => ?_) (fun g2 => ?_) <;> simp only [g2] <;> simp [Nat.pos_iff_ne_zero]
  ·have e8 := e7 (of_decide_eq_true g2)
   simp [e8]
   rw [e8] at e5 e6
   simp at e5 e6
   exact ⟨[], by constructor <;> simp [nmF, inB, e5, e6]⟩
  ·exact ⟨[], by constructor <;> simp [nmF, inB, wk, e5, e6]⟩
 ·obtain ⟨a1, a2, a3⟩ := hI.more hr
  have hkM : k < M := by omega
  have hkq : k < q.length := by omega
  obtain ⟨p1, p2⟩ := qjh hk4 hI.n0 (c := r % 128) (by omega)
  have l1 : zkv .u8 ((r : Int) % 128 + 128) 128 = ((r % 128 : Nat) : Int) := by
   have := zxp (r % 128 + 128) (by omega)
   rw [show ((r : Int) % 128 + 128) = ((r % 128 + 128 : Nat) : Int) by omega, this]; omega
  have l2 := zaa (n := (r : Int) % 128) (by omega) (by omega)
  rw [show ((r % 128 : Nat) : Int) = (r : Int) % 128 by omega] at p1 p2
  have b0 : ((q[k]).toNat : Int) = (r : Int) % 128 + 128 := by rw [List.getElem?_eq_getElem hkq] at a1; rw [Option.some.inj a1, zwq _ (by omega)]; omega
  refine CI.run 99 400 rfl ?_
  simp [m3, hkM, hkq, b0, List.getElem?_append, w0, w1, w2, w3, l1, l2, p1, p2]
  refine ⟨by omega, ?_⟩
  refine sBI (fun g1 => ?_) (fun g1 => ?_) <;> simp only [g1] <;> simp <;> (try simp only [nT, nF, dT, dF] at g1)
  ·refine hB _ ⟨(k + 1, n0 + 2 ^ (7 * k) * (r % 128), r / 128), a3⟩ [] ?_ (by simp; omega)
   constructor <;> simp [wk]
  ·omega
theorem zbt (n lim : Int) (t : List UInt8) (h0 : 0 ≤ n) (h1 : n ≤ bndN lim) (ht : t.length ≤ 1000000) : Ct prog 119 [.ptr 0 0, int lim] [] [(0, .cells [lst ((numB n ++ t).map byteC), int 0] 229)] (int n) [(0, .cells [lst (t.map byteC), int 0] 229)] := by
 refine Ct.B func119 mixed 99 400 ?_
 simp
 have hb : bndN lim ≤ 2147483647 := by unfold bndN; omega
 refine CI.cc [0] (ql6 n t h0 (by omega) ht) call179 99 ?_
 simp
 refine CI.p (qnx lim) call180 99 ?_
 simp
 refine sBI (fun h3 => ?_) (fun h3 => ?_) <;> simp only [h3] <;> simp <;> (try simp only [nT, nF, dT, dF] at h3)
 ·omega
 have e := zt3 (numB n) t
 refine ⟨by omega, ?_⟩
 exact ⟨[], by constructor <;> simp [nmF, inB, e]⟩
theorem zim (s : Str) (lim : Int) (t : List UInt8) (h1 : ((bs s).length : Int) ≤ bndN lim) (ht : (bs s).length + t.length ≤ 1000000) : Ct prog 262 [.ptr 0 0, int lim] [] [(0, .cells [lst ((zb9 s ++ t).map byteC), int 0] 229)] (str s) [(0, .cells [lst (t.map byteC), int 0] 229)] := by
 refine Ct.B func262 mixed 99 400 ?_
 simp
 have hb : bndN lim ≤ 2147483647 := by unfold bndN; omega
 refine CI.cc [0] (zbt (bs s).length lim (bs s ++ t) (by omega) h1 (by simp; omega)) call119 99 ?_ (ha := by simp [zb9]) (hk := by simp [zb9])
 simp [zb9]
 refine sBI (fun h3 => ?_) (fun h3 => ?_) <;> simp only [h3] <;> simp <;> (try simp only [nT, nF, dT, dF] at h3)
 ·omega
 have e := zt3 (bs s) t
 have e1 := qj9 s
 refine ⟨by omega, ?_⟩
 exact ⟨[], by constructor <;> simp [nmF, inB, e, e1]⟩
theorem zp8 : Ct prog 123 [.ptr 0 0] [] [(0, .cells [lst [], int 0] 229)] (int 0) [(0, .cells [lst [], int 0] 229)] := by
 refine Ct.B func123 mixed 99 400 ?_
 simp
 exact ⟨[], by constructor <;> simp [nmF, inB]⟩
end Go.Proofs.YtmhfcgpmmghakaaGreatDoor
namespace Go.Proofs.YtmhfcgpmmghakaaGreatDoor
open Go.AI Go.G Tryz
set_option maxRecDepth 20000
attribute [simp] ntmps326 results326 ntmps372 results372 ntmps324 results324 ntmps256 results256 ntmps258 results258 ntmps322 results322 ntmps257 results257 ntmps323 results323 ntmps259 results259 ntmps254 results254 ntmps260 results260 ntmps176 results176 ntmps373 results373 ntmps325 results325 ntmps261 results261 ntmps177 results177 ntmps178 results178
theorem qic (x : UInt8) (b : List UInt8) (l : List Int) (kf : D) (lay : Int → List UInt8) (m B : Nat) (hB : B ≤ 900000) (hf : ∀ y ∈ l, ∀ b' : List UInt8, b'.length ≤ B → FnOk prog (.d kf) [lst ((x :: b').map byteC), int y] (lst ((x :: b' ++ lay y).map byteC))) (hly : ∀ y ∈ l, (lay y).length ≤ m) (hs : b.length + 5 + l.length * m ≤ B) (hl : l.length ≤ 200000) : Ct prog 326 [lst ((x :: b).map byteC), lst (l.map intC), .d kf] [] [] (lst ((x :: b ++ zal l lay).map byteC)) [] := by
 refine Ct.B func326 mixed 99 400 ?_
 simp
 have hn := zad l.length
 refine CI.p (zch x b l.length (by omega)) call175 99 ?_
 simp
 refine LoopI.U mixed (l) (fun k => [(0, lst ((x :: (b ++ numB l.length ++ (l.take k.1).flatMap lay)).map byteC)), (2, .d kf), (13, lst (l.map intC)), (14, int l.length), (15, int k.1)]) (fun k => []) 65 [] (by constructor <;> simp) ?_
 rintro ⟨k, hk1⟩ B hB
 refine CI.run 99 400 rfl ?_
 simp
 refine sBI (fun h => ?_) (fun h => ?_)
 ·have hk : k < (l).length := by simpa using h
  obtain ⟨y, hx, hr, hm, ht, hd⟩ := inL hk
  have hw := wr (k := k) (by omega)
  simp only [h]
  simp [hr, hw]
  have hk2 := zfl l k hly
  refine CI.ff (hf y hm (b ++ numB l.length ++ (l.take k).flatMap lay) (by simp only [List.length_append]; omega)) rfl rfl rfl 99 ?_
  simp
  refine hB _ ⟨k + 1, by omega⟩ [] ?_ (by simp; omega)
  constructor <;> simp [hw, ht, zal]
 ·have hkl : k = (l).length := by simp at h; omega
  subst hkl
  simp only [h]
  simp [List.take_length, List.drop_length]
  exact fin0 (by simp [zal]) rfl
theorem qq6 (x : UInt8) (b : List UInt8) (l : List Weight) (kf : D) (lay : Weight → List UInt8) (m B : Nat) (hB : B ≤ 900000) (hf : ∀ y ∈ l, ∀ b' : List UInt8, b'.length ≤ B → FnOk prog (.d kf) [lst ((x :: b').map byteC), st (wC y)] (lst ((x :: b' ++ lay y).map byteC))) (hly : ∀ y ∈ l, (lay y).length ≤ m) (hs : b.length + 5 + l.length * m ≤ B) (hl : l.length ≤ 200000) : Ct prog 372 [lst ((x :: b).map byteC), lst (l.map wC), .d kf] [] [] (lst ((x :: b ++ zal l lay).map byteC)) [] := by
 refine Ct.B func372 mixed 99 400 ?_
 simp
 have hn := zad l.length
 refine CI.p (zch x b l.length (by omega)) call175 99 ?_
 simp
 refine LoopI.U mixed (l) (fun k => [(0, lst ((x :: (b ++ numB l.length ++ (l.take k.1).flatMap lay)).map byteC)), (2, .d kf), (13, lst (l.map wC)), (14, int l.length), (15, int k.1)]) (fun k => []) 65 [] (by constructor <;> simp) ?_
 rintro ⟨k, hk1⟩ B hB
 refine CI.run 99 400 rfl ?_
 simp
 refine sBI (fun h => ?_) (fun h => ?_)
 ·have hk : k < (l).length := by simpa using h
  obtain ⟨y, hx, hr, hm, ht, hd⟩ := inL hk
  have hw := wr (k := k) (by omega)
  simp only [h]
  simp [hr, hw]
  have hk2 := zfl l k hly
  refine CI.ff (hf y hm (b ++ numB l.length ++ (l.take k).flatMap lay) (by simp only [List.length_append]; omega)) rfl rfl rfl 99 ?_
  simp
  refine hB _ ⟨k + 1, by omega⟩ [] ?_ (by simp; omega)
  constructor <;> simp [hw, ht, zal]
 ·have hkl : k = (l).length := by simp at h; omega
  subst hkl
  simp only [h]
  simp [List.take_length, List.drop_length]
  exact fin0 (by simp [zal]) rfl
theorem qe0 (x : UInt8) (b : List UInt8) (l : List Rule) (kf : D) (lay : Rule → List UInt8) (m B : Nat) (hB : B ≤ 900000) (hf : ∀ y ∈ l, ∀ b' : List UInt8, b'.length ≤ B → FnOk prog (.d kf) [lst ((x :: b').map byteC), st (zaz y)] (lst ((x :: b' ++ lay y).map byteC))) (hly : ∀ y ∈ l, (lay y).length ≤ m) (hs : b.length + 5 + l.length * m ≤ B) (hl : l.length ≤ 200000) : Ct prog 324 [lst ((x :: b).map byteC), lst (l.map zaz), .d kf] [] [] (lst ((x :: b ++ zal l lay).map byteC)) [] := by
 refine Ct.B func324 mixed 99 400 ?_
 simp
 have hn := zad l.length
 refine CI.p (zch x b l.length (by omega)) call175 99 ?_
 simp
 refine LoopI.U mixed (l) (fun k => [(0, lst ((x :: (b ++ numB l.length ++ (l.take k.1).flatMap lay)).map byteC)), (2, .d kf), (13, lst (l.map zaz)), (14, int l.length), (15, int k.1)]) (fun k => []) 65 [] (by constructor <;> simp) ?_
 rintro ⟨k, hk1⟩ B hB
 refine CI.run 99 400 rfl ?_
 simp
 refine sBI (fun h => ?_) (fun h => ?_)
 ·have hk : k < (l).length := by simpa using h
  obtain ⟨y, hx, hr, hm, ht, hd⟩ := inL hk
  have hw := wr (k := k) (by omega)
  simp only [h]
  simp [hr, hw]
  have hk2 := zfl l k hly
  refine CI.ff (hf y hm (b ++ numB l.length ++ (l.take k).flatMap lay) (by simp only [List.length_append]; omega)) rfl rfl rfl 99 ?_
  simp
  refine hB _ ⟨k + 1, by omega⟩ [] ?_ (by simp; omega)
  constructor <;> simp [hw, ht, zal]
 ·have hkl : k = (l).length := by simp at h; omega
  subst hkl
  simp only [h]
  simp [List.take_length, List.drop_length]
  exact fin0 (by simp [zal]) rfl
theorem qib (x : UInt8) (b : List UInt8) (l : List Key) (kf : D) (lay : Key → List UInt8) (m B : Nat) (hB : B ≤ 900000) (hf : ∀ y ∈ l, ∀ b' : List UInt8, b'.length ≤ B → FnOk prog (.d kf) [lst ((x :: b').map byteC), st (keyC y)] (lst ((x :: b' ++ lay y).map byteC))) (hly : ∀ y ∈ l, (lay y).length ≤ m) (hs : b.length + 5 + l.length * m ≤ B) (hl : l.length ≤ 200000) : Ct prog 256 [lst ((x :: b).map byteC), lst (l.map keyC), .d kf] [] [] (lst ((x :: b ++ zal l lay).map byteC)) [] := by
 refine Ct.B func256 mixed 99 400 ?_
 simp
 have hn := zad l.length
 refine CI.p (zch x b l.length (by omega)) call175 99 ?_
 simp
 refine LoopI.U mixed (l) (fun k => [(0, lst ((x :: (b ++ numB l.length ++ (l.take k.1).flatMap lay)).map byteC)), (2, .d kf), (13, lst (l.map keyC)), (14, int l.length), (15, int k.1)]) (fun k => []) 65 [] (by constructor <;> simp) ?_
 rintro ⟨k, hk1⟩ B hB
 refine CI.run 99 400 rfl ?_
 simp
 refine sBI (fun h => ?_) (fun h => ?_)
 ·have hk : k < (l).length := by simpa using h
  obtain ⟨y, hx, hr, hm, ht, hd⟩ := inL hk
  have hw := wr (k := k) (by omega)
  simp only [h]
  simp [hr, hw]
  have hk2 := zfl l k hly
  refine CI.ff (hf y hm (b ++ numB l.length ++ (l.take k).flatMap lay) (by simp only [List.length_append]; omega)) rfl rfl rfl 99 ?_
  simp
  refine hB _ ⟨k + 1, by omega⟩ [] ?_ (by simp; omega)
  constructor <;> simp [hw, ht, zal]
 ·have hkl : k = (l).length := by simp at h; omega
  subst hkl
  simp only [h]
  simp [List.take_length, List.drop_length]
  exact fin0 (by simp [zal]) rfl
theorem qia (x : UInt8) (b : List UInt8) (l : List Res) (kf : D) (lay : Res → List UInt8) (m B : Nat) (hB : B ≤ 900000) (hf : ∀ y ∈ l, ∀ b' : List UInt8, b'.length ≤ B → FnOk prog (.d kf) [lst ((x :: b').map byteC), st (resC y)] (lst ((x :: b' ++ lay y).map byteC))) (hly : ∀ y ∈ l, (lay y).length ≤ m) (hs : b.length + 5 + l.length * m ≤ B) (hl : l.length ≤ 200000) : Ct prog 258 [lst ((x :: b).map byteC), lst (l.map resC), .d kf] [] [] (lst ((x :: b ++ zal l lay).map byteC)) [] := by
 refine Ct.B func258 mixed 99 400 ?_
 simp
 have hn := zad l.length
 refine CI.p (zch x b l.length (by omega)) call175 99 ?_
 simp
 refine LoopI.U mixed (l) (fun k => [(0, lst ((x :: (b ++ numB l.length ++ (l.take k.1).flatMap lay)).map byteC)), (2, .d kf), (13, lst (l.map resC)), (14, int l.length), (15, int k.1)]) (fun k => []) 65 [] (by constructor <;> simp) ?_
 rintro ⟨k, hk1⟩ B hB
 refine CI.run 99 400 rfl ?_
 simp
 refine sBI (fun h => ?_) (fun h => ?_)
 ·have hk : k < (l).length := by simpa using h
  obtain ⟨y, hx, hr, hm, ht, hd⟩ := inL hk
  have hw := wr (k := k) (by omega)
  simp only [h]
  simp [hr, hw]
  have hk2 := zfl l k hly
  refine CI.ff (hf y hm (b ++ numB l.length ++ (l.take k).flatMap lay) (by simp only [List.length_append]; omega)) rfl rfl rfl 99 ?_
  simp
  refine hB _ ⟨k + 1, by omega⟩ [] ?_ (by simp; omega)
  constructor <;> simp [hw, ht, zal]
 ·have hkl : k = (l).length := by simp at h; omega
  subst hkl
  simp only [h]
  simp [List.take_length, List.drop_length]
  exact fin0 (by simp [zal]) rfl
theorem zz7 (x : Key) (kf : FuncId) (b : Bool) (hf : FnOk prog (.d (fnD kf)) [st (keyC x)] (bool b)) : Ct prog 322 [st (keyC x), .d (.pro [fnD kf])] [] [] (bool (!b)) [] := by
 refine Ct.B func322 mixed 99 400 ?_
 simp
 refine CI.ff hf rfl rfl rfl 99 ?_
 simp
 exact fin0 (by simp) rfl
theorem qeu (l : List Key) (kf : FuncId) (may : Key → Bool) (hf : ∀ x ∈ l, FnOk prog (.d (fnD kf)) [st (keyC x)] (bool (may x))) (hl : l.length ≤ 1000000) : Ct prog 257 [lst (l.map keyC), .d (fnD kf)] [] [] (lst (((l.filter may).take 64).map keyC)) [] := by
 refine Ct.B func257 mixed 1 400 ?_
 simp
 refine CI.s (tm := [(0, lst (l.map keyC)), (3, .d (.pro [fnD kf]))]) (mm := []) (nx := 65) [] [64] (by constructor <;> simp) ?_
 refine CI.run 99 400 rfl ?_
 simp
 have hg : ∀ x ∈ l, FnOk prog (.d (.fn (.func 322) [] [.pro [fnD kf]])) [st (keyC x)] (bool (!may x)) := fun x hx => FnOk.clo (zz7 x kf (may x) (hf x hx)) call322 rfl rfl
 have hfl : (l.filter may).length ≤ 1000000 := Nat.le_trans (List.length_filter_le _ _) hl
 have ht := zry keyC (l.filter fun x => may x)
 cases l with
 | nil =>
   refine CI.p zpl call321 99 ?_
   simp
   refine CI.p (zq7 (.fn (.func 322) [] [.pro [fnD kf]])) call314 99 ?_
   simp
   exact fin0 (by simp) rfl
 | cons x l =>
   refine CI.cc [] (znu x l (by simp at hl; omega)) call321 99 ?_
   simp
   refine CI.cc [129] (zl6 (x :: l) (.fn (.func 322) [] [.pro [fnD kf]]) (fun y => !may y) hg hl) call314 99 ?_
   simp
   refine ⟨⟨by split <;> omega, by split <;> omega⟩, ?_⟩
   exact fin0 (by simp [ht]) rfl
theorem zz6 (x : Res) (kf : FuncId) (b : Bool) (hf : FnOk prog (.d (fnD kf)) [st (resC x)] (bool b)) : Ct prog 323 [st (resC x), .d (.pro [fnD kf])] [] [] (bool (!b)) [] := by
 refine Ct.B func323 mixed 99 400 ?_
 simp
 refine CI.ff hf rfl rfl rfl 99 ?_
 simp
 exact fin0 (by simp) rfl
theorem qes (l : List Res) (kf : FuncId) (may : Res → Bool) (hf : ∀ x ∈ l, FnOk prog (.d (fnD kf)) [st (resC x)] (bool (may x))) (hl : l.length ≤ 1000000) : Ct prog 259 [lst (l.map resC), .d (fnD kf)] [] [] (lst (((l.filter may).take 64).map resC)) [] := by
 refine Ct.B func259 mixed 1 400 ?_
 simp
 refine CI.s (tm := [(0, lst (l.map resC)), (3, .d (.pro [fnD kf]))]) (mm := []) (nx := 65) [] [64] (by constructor <;> simp) ?_
 refine CI.run 99 400 rfl ?_
 simp
 have hg : ∀ x ∈ l, FnOk prog (.d (.fn (.func 323) [] [.pro [fnD kf]])) [st (resC x)] (bool (!may x)) := fun x hx => FnOk.clo (zz6 x kf (may x) (hf x hx)) call323 rfl rfl
 have hfl : (l.filter may).length ≤ 1000000 := Nat.le_trans (List.length_filter_le _ _) hl
 have ht := zry resC (l.filter fun x => may x)
 cases l with
 | nil =>
   refine CI.p zx9 call160 99 ?_
   simp
   refine CI.p (delE (.fn (.func 323) [] [.pro [fnD kf]])) call232 99 ?_
   simp
   exact fin0 (by simp) rfl
 | cons x l =>
   refine CI.cc [] (zq8 x l (by simp at hl; omega)) call160 99 ?_
   simp
   refine CI.cc [129] (delC (x :: l) (.fn (.func 323) [] [.pro [fnD kf]]) (fun y => !may y) hg hl) call232 99 ?_
   simp
   refine ⟨⟨by split <;> omega, by split <;> omega⟩, ?_⟩
   exact fin0 (by simp [ht]) rfl
theorem qel (k_ : Key) : Ct prog 254 [st (keyC k_)] [] [] (bool (okK k_)) [] := by
 refine Ct.B func254 mixed 99 400 ?_
 simp
 rw [qpz]
 refine sGI (fun h1 => ?_) (fun h1 => ?_) <;> simp only [h1] <;> simp
 ·refine sGI (fun h2 => ?_) (fun h2 => ?_) <;> simp only [h2] <;> simp
  ·refine CI.p (zea k_.name) call283 99 ?_
   simp
   exact fin0 (by simp [h1, h2]) rfl
  ·exact fin0 (by simp [h1, h2]) rfl
 ·exact fin0 (by simp [h1]) rfl
theorem qce (r : Res) : Ct prog 260 [st (resC r)] [] [] (bool (decide (zaw r = 0))) [] := by
 refine Ct.B func260 mixed 99 400 ?_
 simp
 refine CI.p (zk3 r) call206 99 ?_
 simp
 exact fin0 (by simp) rfl
theorem zxb (x : UInt8) (b : List UInt8) (k_ : Key) (hk : okK k_ = true) (hb : b.length ≤ 200000) : Ct prog 176 [lst ((x :: b).map byteC), st (keyC k_)] [] [] (lst ((x :: b ++ zbn k_).map byteC)) [] := by
 refine Ct.B func176 mixed 99 400 ?_
 simp
 have hi := zxu hk
 have hn := zad k_.kind
 refine CI.p (qel k_) call254 99 ?_ (ha := by simp [hk])
 simp [hk]
 refine CI.p (zch x b k_.kind (by omega)) call175 99 ?_
 simp
 refine CI.p (zid x (b ++ numB k_.kind) k_.name (by simp; omega) (by omega)) call255 99 ?_
 simp
 refine ⟨by decide +kernel, ?_⟩
 exact fin0 (by simp [zbn]) rfl
theorem qpb (x : UInt8) (b : List UInt8) (w : Weight) (hw : WIn w) (hb : b.length ≤ 200000) : Ct prog 373 [lst ((x :: b).map byteC), st (wC w)] [] [] (lst ((x :: b ++ zbe w).map byteC)) [] := by
 refine Ct.B func373 mixed 99 400 ?_
 simp
 have h1 := hw.c
 have hn := za2 hw.c
 refine CI.p (zid x b w.cluster (by omega) (by omega)) call255 99 ?_
 simp
 refine CI.p (zch x (b ++ zb9 w.cluster) w.w (by simp; omega)) call175 99 ?_
 simp
 refine ⟨by decide +kernel, ?_⟩
 exact fin0 (by simp [zbe]) rfl
theorem qcp (x : UInt8) (b : List UInt8) (r : Rule) (hr : RuleIn r) (hb : b.length ≤ 189000) : Ct prog 325 [lst ((x :: b).map byteC), st (zaz r)] [] [] (lst ((x :: b ++ ruleBy r).map byteC)) [] := by
 refine Ct.B func325 mixed 99 400 ?_
 simp
 have h1 := hr.host
 have h2 := hr.pre
 have n1 := za2 h1
 have n2 := za2 h2
 have h3 := hr.split
 refine CI.p (zid x b r.host (by omega) (by omega)) call255 99 ?_
 simp
 refine CI.p (zid x (b ++ zb9 r.host) r.pre (by simp; omega) (by omega)) call255 99 ?_
 simp
 refine CI.p (qq6 x (b ++ zb9 r.host ++ zb9 r.pre) r.split (fnD 373) zbe 22 200000 (by omega) (fun y hy b' hb' => FnOk.of (qpb x b' y (hr.each y hy) hb') call373 rfl rfl) (fun y hy => zfp (hr.each y hy)) (by simp; omega) (by omega)) call372 99 ?_
 simp
 refine ⟨by decide +kernel, ?_⟩
 exact fin0 (by simp [ruleBy]) rfl
theorem qr0 (x : UInt8) (b : List UInt8) (r : Res) (hs : zaw r = 0) (hb : b.length ≤ 187000) : Ct prog 261 [lst ((x :: b).map byteC), st (resC r)] [] [] (lst ((x :: b ++ resB r).map byteC)) [] := by
 refine Ct.B func261 mixed 99 400 ?_
 simp
 have I := zk8 hs
 have n1 := zad r.kind
 have n2 := za2 I.name
 have n3 := zad r.ver
 have n4 := zad r.port
 have i1 := I.name
 have i2 := I.rules
 have i3 := I.hosts
 have i4 := I.to
 refine CI.p (qce r) call260 99 ?_ (ha := by simp [hs])
 simp [hs]
 refine CI.p (zch x b r.kind (by omega)) call175 99 ?_
 simp
 refine CI.p (zid x (b ++ numB r.kind) r.name (by simp; omega) (by omega)) call255 99 ?_
 simp
 refine CI.p (zch x (b ++ numB r.kind ++ zb9 r.name) r.ver (by simp; omega)) call175 99 ?_
 simp
 refine ⟨by decide +kernel, ?_⟩
 have hc : (b ++ numB r.kind ++ zb9 r.name ++ numB r.ver).length ≤ 187100 := by simp; omega
 rcases (show r.kind = 0 ∨ r.kind = 1 ∨ r.kind = 2 ∨ r.kind = 3 from by have := I.k0; have := I.k3; omega) with h | h | h | h
 all_goals rw [h] at hc
 ·simp [h]
  refine CI.p (zch x (b ++ numB 0 ++ zb9 r.name ++ numB r.ver) r.port (by omega)) call175 99 ?_
  simp
  refine CI.p (zid x (b ++ numB 0 ++ zb9 r.name ++ numB r.ver ++ numB r.port) r.to (by simp at hc ⊢; omega) (by omega)) call255 99 ?_
  simp
  refine ⟨by decide +kernel, ?_⟩
  exact fin0 (by simp [resB, zgb, h]) rfl
 ·simp [h]
  refine CI.p (qe0 x (b ++ numB 1 ++ zb9 r.name ++ numB r.ver) r.rules (fnD 325) ruleBy 183 189000 (by omega) (fun y hy b' hb' => FnOk.of (qcp x b' y (I.rule y hy) hb') call325 rfl rfl) (fun y hy => zkg (I.rule y hy)) (by omega) (by omega)) call324 99 ?_
  simp
  exact fin0 (by simp [resB, zgb, h]) rfl
 ·simp [h]
  refine CI.p (zid x (b ++ numB 2 ++ zb9 r.name ++ numB r.ver) r.to (by omega) (by omega)) call255 99 ?_
  simp
  exact fin0 (by simp [resB, zgb, h]) rfl
 ·simp [h]
  refine CI.p (qic x (b ++ numB 3 ++ zb9 r.name ++ numB r.ver) r.hosts (fnD 175) numB 5 200000 (by omega) (fun y hy b' hb' => FnOk.of (zch x b' y (by omega)) call175 rfl rfl) (fun y hy => zad y) (by omega) (by omega)) call326 99 ?_
  simp
  exact fin0 (by simp [resB, zgb, h]) rfl
theorem zmz (x : UInt8) (b : List UInt8) (l : List Key) (hk : ∀ k ∈ l, okK k = true) (hl : l.length ≤ 64) (hb : b.length ≤ 190000) : Ct prog 177 [lst ((x :: b).map byteC), lst (l.map keyC)] [] [] (lst ((x :: b ++ zal l zbn).map byteC)) [] := by
 refine Ct.B func177 mixed 99 400 ?_
 simp
 have e : (l.filter okK).take 64 = l := by rw [List.filter_eq_self.2 hk, List.take_of_length_le hl]
 have hc := qeu l 254 okK (fun y _ => FnOk.of (qel y) call254 rfl rfl) (by omega)
 rw [e] at hc
 refine CI.p hc call257 99 ?_
 simp
 refine CI.p (qib x b l (fnD 176) zbn 22 200000 (by omega) (fun y hy b' hb' => FnOk.of (zxb x b' y (hk y hy) hb') call176 rfl rfl) (fun y hy => zdb (hk y hy)) (by omega) (by omega)) call256 99 ?_
 simp
 exact fin0 (by simp) rfl
theorem qgq (x : UInt8) (b : List UInt8) (l : List Res) (hk : ∀ r ∈ l, zaw r = 0) (hl : l.length ≤ 64) (hb : b.length ≤ 90000) : Ct prog 178 [lst ((x :: b).map byteC), lst (l.map resC)] [] [] (lst ((x :: b ++ zal l resB).map byteC)) [] := by
 refine Ct.B func178 mixed 99 400 ?_
 simp
 have e : (l.filter fun r => decide (zaw r = 0)).take 64 = l := by rw [List.filter_eq_self.2 (fun r hr => decide_eq_true (hk r hr)), List.take_of_length_le hl]
 have hd := qes l 260 (fun r => decide (zaw r = 0)) (fun y _ => FnOk.of (qce y) call260 rfl rfl) (by omega)
 rw [e] at hd
 refine CI.p hd call259 99 ?_
 simp
 refine CI.p (qia x b l (fnD 261) resB 1496 187000 (by omega) (fun y hy b' hb' => FnOk.of (qr0 x b' y (hk y hy) hb') call261 rfl rfl) (fun y hy => zja (zk8 (hk y hy))) (by omega) (by omega)) call258 99 ?_
 simp
 exact fin0 (by simp) rfl
end Go.Proofs.YtmhfcgpmmghakaaGreatDoor
namespace Go.Proofs.YtmhfcgpmmghakaaGreatDoor
open Go.AI Go.G Tryz
set_option maxRecDepth 20000
attribute [simp] ntmps263 results263 ntmps182 results182 ntmps267 results267 ntmps328 results328 ntmps185 results185 ntmps266 results266 ntmps327 results327 ntmps265 results265 ntmps264 results264 ntmps184 results184 ntmps183 results183 ntmps121 results121 ntmps122 results122
theorem zt1 (q : List UInt8) : Ct prog 263 [.ptr 0 0, int 0] [] [(0, .cells [lst ((q).map byteC), int 0] 229)] (bool false) [(0, .cells [lst ((q).map byteC), int 0] 229)] := by
 refine Ct.B func263 mixed 99 400 ?_
 simp
 exact ⟨[], by constructor <;> simp [nmF, inB]⟩
theorem zrz (k_ : Key) (t : List UInt8) (hk : okK k_ = true) (ht : t.length ≤ 900000) : Ct prog 182 [.ptr 0 0] [] [(0, .cells [lst ((zbn k_ ++ t).map byteC), int 0] 229)] (st (keyC k_)) [(0, .cells [lst ((t).map byteC), int 0] 229)] := by
 refine Ct.B func182 mixed 99 400 ?_
 simp
 obtain ⟨h1, h2, h3⟩ := zxu hk
 have n1 := za2 h3
 refine CI.cc [0] (zbt k_.kind 3 (zb9 k_.name ++ t) h1 (za5 h2 (by omega) (by omega)) (by simp; omega)) call119 99 ?_ (ha := by simp [zbn]) (hk := by simp [zbn])
 simp [zbn]
 refine CI.cc [0] (zim k_.name 12 t (za5 (by omega) (by omega) (by omega)) (by omega)) call262 99 ?_
 simp
 refine CI.p (qel k_) call254 99 ?_ (ha := by simp [hk])
 simp [hk]
 refine CI.cc [0] (zt1 t) call263 99 ?_
 simp
 exact ⟨[], by constructor <;> simp [nmF, inB]⟩
theorem zy1 (n : Int) (t : List UInt8) (h0 : 0 ≤ n) (h1 : n ≤ 2147483647) (ht : t.length ≤ 900000) : Ct prog 267 [.ptr 0 0] [] [(0, .cells [lst ((numB n ++ t).map byteC), int 0] 229)] (int n) [(0, .cells [lst ((t).map byteC), int 0] 229)] := by
 refine Ct.B func267 mixed 99 400 ?_
 simp
 refine CI.cc [0] (zbt n 2147483647 t h0 (za5 h1 (by omega) (by omega)) (by omega)) call119 99 ?_
 simp
 exact ⟨[], by constructor <;> simp [nmF, inB]⟩
theorem qkk (w : Weight) (t : List UInt8) (hw : WIn w) (ht : t.length ≤ 900000) : Ct prog 328 [.ptr 0 0] [] [(0, .cells [lst ((zbe w ++ t).map byteC), int 0] 229)] (st (wC w)) [(0, .cells [lst ((t).map byteC), int 0] 229)] := by
 refine Ct.B func328 mixed 99 400 ?_
 simp
 have h1 := hw.c
 have h2 := zad w.w
 refine CI.cc [0] (zim w.cluster 12 (numB w.w ++ t) (za5 (by omega) (by omega) (by omega)) (by simp; omega)) call262 99 ?_ (ha := by simp [zbe]) (hk := by simp [zbe])
 simp [zbe]
 refine CI.cc [0] (zbt w.w 100 t hw.w0 (za5 hw.w1 (by omega) (by omega)) (by omega)) call119 99 ?_
 simp
 exact ⟨[], by constructor <;> simp [nmF, inB]⟩
theorem qf9 (l : List Key) (lim : Int) (t : List UInt8) (hf : ∀ y ∈ l, ∀ t' : List UInt8, t'.length ≤ 900000 → Ct prog 182 [.ptr 0 0] [] [(0, .cells [lst ((zbn y ++ t').map byteC), int 0] 229)] (st (keyC y)) [(0, .cells [lst ((t').map byteC), int 0] 229)]) (hy : ∀ y ∈ l, (zbn y).length ≤ 22) (h1 : l.length ≤ lim) (hl : l.length ≤ 64) (h2 : lim ≤ 1000) (ht : t.length ≤ 700000) : Ct prog 185 [.ptr 0 0, int lim, .d (fnD 182)] [] [(0, .cells [lst ((zal l zbn ++ t).map byteC), int 0] 229)] (lst (l.map keyC)) [(0, .cells [lst ((t).map byteC), int 0] 229)] := by
 refine Ct.B func185 mixed 99 400 ?_
 simp
 have hall := zcl l hy
 refine CI.cc [0] (zbt l.length lim (l.flatMap zbn ++ t) (by omega) (za5 h1 (by omega) (by omega)) (by simp only [List.length_append]; omega)) call119 99 ?_ (ha := by simp [zal]) (hk := by simp [zal])
 simp [zal]
 refine LoopI.nilOwn 7 2 203 rfl ?_
 refine LoopI.U mixed (l) (fun k => [(0, .ptr 0 0), (2, .d (fnD 182)), (7, .own 64), (11, int l.length), (12, int k.1)]) (fun k => [(64, .grow 2 ((l.take k.1).map keyC) 203), (0, .cells [lst (((l.drop k.1).flatMap zbn ++ t).map byteC), int 0] 229)]) 65 [] (by constructor <;> simp) ?_
 rintro ⟨k, hk1⟩ B hB
 refine CI.run 99 400 rfl ?_
 simp
 refine sBI (fun h => ?_) (fun h => ?_)
 ·have hk : k < (l).length := by simpa using h
  obtain ⟨y, hx, hr, hm, ht, hd⟩ := inL hk
  have hw := wr (k := k) (by omega)
  simp only [h]
  simp [hr, hw]
  have hd2 := zfk l (k + 1) hy
  refine CI.cc [0] (hf y hm ((l.drop (k + 1)).flatMap zbn ++ t) (by simp only [List.length_append]; omega)) call182 99 ?_ (ha := by simp [hd]) (hk := by simp [hd])
  simp [hd]
  refine ⟨by omega, ?_⟩
  refine hB _ ⟨k + 1, by omega⟩ [] ?_ (by simp; omega)
  constructor <;> simp [hw, ht]
 ·have hkl : k = (l).length := by simp at h; omega
  subst hkl
  simp only [h]
  simp [List.take_length, List.drop_length]
  exact ⟨[], by constructor <;> simp [nmF, inB]⟩
theorem qbj (l : List Int) (lim : Int) (t : List UInt8) (hf : ∀ y ∈ l, ∀ t' : List UInt8, t'.length ≤ 900000 → Ct prog 267 [.ptr 0 0] [] [(0, .cells [lst ((numB y ++ t').map byteC), int 0] 229)] (int y) [(0, .cells [lst ((t').map byteC), int 0] 229)]) (hy : ∀ y ∈ l, (numB y).length ≤ 5) (h1 : l.length ≤ lim) (hl : l.length ≤ 8) (h2 : lim ≤ 1000) (ht : t.length ≤ 890000) : Ct prog 266 [.ptr 0 0, int lim, .d (fnD 267)] [] [(0, .cells [lst ((zal l numB ++ t).map byteC), int 0] 229)] (lst (l.map intC)) [(0, .cells [lst ((t).map byteC), int 0] 229)] := by
 refine Ct.B func266 mixed 99 400 ?_
 simp
 have hall := zcl l hy
 refine CI.cc [0] (zbt l.length lim (l.flatMap numB ++ t) (by omega) (za5 h1 (by omega) (by omega)) (by simp only [List.length_append]; omega)) call119 99 ?_ (ha := by simp [zal]) (hk := by simp [zal])
 simp [zal]
 refine LoopI.nilOwn 7 1 3 rfl ?_
 refine LoopI.U mixed (l) (fun k => [(0, .ptr 0 0), (2, .d (fnD 267)), (7, .own 64), (11, int l.length), (12, int k.1)]) (fun k => [(64, .grow 1 ((l.take k.1).map intC) 3), (0, .cells [lst (((l.drop k.1).flatMap numB ++ t).map byteC), int 0] 229)]) 65 [] (by constructor <;> simp) ?_
 rintro ⟨k, hk1⟩ B hB
 refine CI.run 99 400 rfl ?_
 simp
 refine sBI (fun h => ?_) (fun h => ?_)
 ·have hk : k < (l).length := by simpa using h
  obtain ⟨y, hx, hr, hm, ht, hd⟩ := inL hk
  have hw := wr (k := k) (by omega)
  simp only [h]
  simp [hr, hw]
  have hd2 := zfk l (k + 1) hy
  refine CI.cc [0] (hf y hm ((l.drop (k + 1)).flatMap numB ++ t) (by simp only [List.length_append]; omega)) call267 99 ?_ (ha := by simp [hd]) (hk := by simp [hd])
  simp [hd]
  refine ⟨by omega, ?_⟩
  refine hB _ ⟨k + 1, by omega⟩ [] ?_ (by simp; omega)
  constructor <;> simp [hw, ht]
 ·have hkl : k = (l).length := by simp at h; omega
  subst hkl
  simp only [h]
  simp [List.take_length, List.drop_length]
  exact ⟨[], by constructor <;> simp [nmF, inB]⟩
theorem qoy (l : List Weight) (lim : Int) (t : List UInt8) (hf : ∀ y ∈ l, ∀ t' : List UInt8, t'.length ≤ 900000 → Ct prog 328 [.ptr 0 0] [] [(0, .cells [lst ((zbe y ++ t').map byteC), int 0] 229)] (st (wC y)) [(0, .cells [lst ((t').map byteC), int 0] 229)]) (hy : ∀ y ∈ l, (zbe y).length ≤ 22) (h1 : l.length ≤ lim) (hl : l.length ≤ 4) (h2 : lim ≤ 1000) (ht : t.length ≤ 890000) : Ct prog 327 [.ptr 0 0, int lim, .d (fnD 328)] [] [(0, .cells [lst ((zal l zbe ++ t).map byteC), int 0] 229)] (lst (l.map wC)) [(0, .cells [lst ((t).map byteC), int 0] 229)] := by
 refine Ct.B func327 mixed 99 400 ?_
 simp
 have hall := zcl l hy
 refine CI.cc [0] (zbt l.length lim (l.flatMap zbe ++ t) (by omega) (za5 h1 (by omega) (by omega)) (by simp only [List.length_append]; omega)) call119 99 ?_ (ha := by simp [zal]) (hk := by simp [zal])
 simp [zal]
 refine LoopI.nilOwn 7 2 111 rfl ?_
 refine LoopI.U mixed (l) (fun k => [(0, .ptr 0 0), (2, .d (fnD 328)), (7, .own 64), (11, int l.length), (12, int k.1)]) (fun k => [(64, .grow 2 ((l.take k.1).map wC) 111), (0, .cells [lst (((l.drop k.1).flatMap zbe ++ t).map byteC), int 0] 229)]) 65 [] (by constructor <;> simp) ?_
 rintro ⟨k, hk1⟩ B hB
 refine CI.run 99 400 rfl ?_
 simp
 refine sBI (fun h => ?_) (fun h => ?_)
 ·have hk : k < (l).length := by simpa using h
  obtain ⟨y, hx, hr, hm, ht, hd⟩ := inL hk
  have hw := wr (k := k) (by omega)
  simp only [h]
  simp [hr, hw]
  have hd2 := zfk l (k + 1) hy
  refine CI.cc [0] (hf y hm ((l.drop (k + 1)).flatMap zbe ++ t) (by simp only [List.length_append]; omega)) call328 99 ?_ (ha := by simp [hd]) (hk := by simp [hd])
  simp [hd]
  refine ⟨by omega, ?_⟩
  refine hB _ ⟨k + 1, by omega⟩ [] ?_ (by simp; omega)
  constructor <;> simp [hw, ht]
 ·have hkl : k = (l).length := by simp at h; omega
  subst hkl
  simp only [h]
  simp [List.take_length, List.drop_length]
  exact ⟨[], by constructor <;> simp [nmF, inB]⟩
theorem zyx (r : Rule) (t : List UInt8) (hr : RuleIn r) (ht : t.length ≤ 889000) : Ct prog 265 [.ptr 0 0] [] [(0, .cells [lst ((ruleBy r ++ t).map byteC), int 0] 229)] (st (zaz r)) [(0, .cells [lst ((t).map byteC), int 0] 229)] := by
 refine Ct.B func265 mixed 99 400 ?_
 simp
 have h1 := hr.host
 have h2 := hr.pre
 have n1 := za2 h1
 have n2 := za2 h2
 have h3 := hr.split
 have n3 := za8 (l := r.split) (lay := zbe) (m := 22) fun w hw => zfp (hr.each w hw)
 refine CI.cc [0] (zim r.host 40 (zb9 r.pre ++ (zal r.split zbe ++ t)) (za5 (by omega) (by omega) (by omega)) (by simp only [List.length_append]; omega)) call262 99 ?_ (ha := by simp [ruleBy]) (hk := by simp [ruleBy])
 simp [ruleBy]
 refine CI.cc [0] (zim r.pre 40 (zal r.split zbe ++ t) (za5 (by omega) (by omega) (by omega)) (by simp only [List.length_append]; omega)) call262 99 ?_
 simp
 refine CI.cc [0] (qoy r.split 4 t (fun y hy t' ht' => qkk y t' (hr.each y hy) (by omega)) (fun y hy => zfp (hr.each y hy)) (by omega) (by omega) (by omega) (by omega)) call327 99 ?_
 simp
 exact ⟨[], by constructor <;> simp [nmF, inB]⟩
theorem qbi (l : List Rule) (lim : Int) (t : List UInt8) (hf : ∀ y ∈ l, ∀ t' : List UInt8, t'.length ≤ 889000 → Ct prog 265 [.ptr 0 0] [] [(0, .cells [lst ((ruleBy y ++ t').map byteC), int 0] 229)] (st (zaz y)) [(0, .cells [lst ((t').map byteC), int 0] 229)]) (hy : ∀ y ∈ l, (ruleBy y).length ≤ 183) (h1 : l.length ≤ lim) (hl : l.length ≤ 8) (h2 : lim ≤ 1000) (ht : t.length ≤ 880000) : Ct prog 264 [.ptr 0 0, int lim, .d (fnD 265)] [] [(0, .cells [lst ((zal l ruleBy ++ t).map byteC), int 0] 229)] (lst (l.map zaz)) [(0, .cells [lst ((t).map byteC), int 0] 229)] := by
 refine Ct.B func264 mixed 99 400 ?_
 simp
 have hall := zcl l hy
 refine CI.cc [0] (zbt l.length lim (l.flatMap ruleBy ++ t) (by omega) (za5 h1 (by omega) (by omega)) (by simp only [List.length_append]; omega)) call119 99 ?_ (ha := by simp [zal]) (hk := by simp [zal])
 simp [zal]
 refine LoopI.nilOwn 7 3 114 rfl ?_
 refine LoopI.U mixed (l) (fun k => [(0, .ptr 0 0), (2, .d (fnD 265)), (7, .own 64), (11, int l.length), (12, int k.1)]) (fun k => [(64, .grow 3 ((l.take k.1).map zaz) 114), (0, .cells [lst (((l.drop k.1).flatMap ruleBy ++ t).map byteC), int 0] 229)]) 65 [] (by constructor <;> simp) ?_
 rintro ⟨k, hk1⟩ B hB
 refine CI.run 99 400 rfl ?_
 simp
 refine sBI (fun h => ?_) (fun h => ?_)
 ·have hk : k < (l).length := by simpa using h
  obtain ⟨y, hx, hr, hm, ht, hd⟩ := inL hk
  have hw := wr (k := k) (by omega)
  simp only [h]
  simp [hr, hw]
  have hd2 := zfk l (k + 1) hy
  refine CI.cc [0] (hf y hm ((l.drop (k + 1)).flatMap ruleBy ++ t) (by simp only [List.length_append]; omega)) call265 99 ?_ (ha := by simp [hd]) (hk := by simp [hd])
  simp [hd]
  refine ⟨by omega, ?_⟩
  refine hB _ ⟨k + 1, by omega⟩ [] ?_ (by simp; omega)
  constructor <;> simp [hw, ht]
 ·have hkl : k = (l).length := by simp at h; omega
  subst hkl
  simp only [h]
  simp [List.take_length, List.drop_length]
  exact ⟨[], by constructor <;> simp [nmF, inB]⟩
theorem qot (r : Res) (t : List UInt8) (hs : zaw r = 0) (ht : t.length ≤ 870000) : Ct prog 184 [.ptr 0 0] [] [(0, .cells [lst ((resB r ++ t).map byteC), int 0] 229)] (st (resC r)) [(0, .cells [lst ((t).map byteC), int 0] 229)] := by
 refine Ct.B func184 mixed 99 400 ?_
 simp
 have I := zk8 hs
 have n2 := za2 I.name
 have n3 := zad r.ver
 have n4 := zr0 I
 have i1 := I.name
 refine CI.cc [0] (zbt r.kind 3 (zb9 r.name ++ (numB r.ver ++ (zgb r ++ t))) I.k0 (za5 I.k3 (by omega) (by omega)) (by simp only [List.length_append]; omega)) call119 99 ?_ (ha := by simp [resB]) (hk := by simp [resB])
 simp [resB]
 refine CI.cc [0] (zim r.name 12 (numB r.ver ++ (zgb r ++ t)) (za5 (by omega) (by omega) (by omega)) (by simp only [List.length_append]; omega)) call262 99 ?_
 simp
 refine CI.cc [0] (zbt r.ver 2147483647 (zgb r ++ t) I.v0 (za5 I.v1 (by omega) (by omega)) (by simp only [List.length_append]; omega)) call119 99 ?_
 simp
 rcases (show r.kind = 0 ∨ r.kind = 1 ∨ r.kind = 2 ∨ r.kind = 3 from by have := I.k0; have := I.k3; omega) with h | h | h | h
 ·have e1 := I.noR (by omega)
  have e2 := I.noH (by omega)
  have n5 := za2 I.to
  have i4 := I.to
  have e3 : zgb r = numB r.port ++ zb9 r.to := by simp [zgb, h]
  simp [h, e3]
  refine CI.cc [0] (zbt r.port 65535 (zb9 r.to ++ t) I.p0 (za5 I.p1 (by omega) (by omega)) (by simp only [List.length_append]; omega)) call119 99 ?_
  simp
  refine CI.cc [0] (zim r.to 12 t (za5 (by omega) (by omega) (by omega)) (by omega)) call262 99 ?_
  simp
  have hs4 := zk3 r
  rw [hs] at hs4
  simp only [resC, e1, e2, h] at hs4
  refine CI.p hs4 call206 99 ?_
  simp
  refine CI.cc [0] (zt1 t) call263 99 ?_
  simp
  exact ⟨[], by constructor <;> simp [nmF, inB, h, e1, e2]⟩
 ·have e1 := I.noP (by omega)
  have e2 := I.noT (by omega) (by omega)
  have e4 := I.noH (by omega)
  have e3 : zgb r = zal r.rules ruleBy := by simp [zgb, h]
  simp [h, e3]
  refine CI.cc [0] (qbi r.rules 8 t (fun y hy t' ht' => zyx y t' (I.rule y hy) (by omega)) (fun y hy => zkg (I.rule y hy)) (by have := I.rules; omega) I.rules (by omega) (by omega)) call264 99 ?_
  simp
  have hs4 := zk3 r
  rw [hs] at hs4
  simp only [resC, e1, e2, e4, h] at hs4
  refine CI.p hs4 call206 99 ?_
  simp
  refine CI.cc [0] (zt1 t) call263 99 ?_
  simp
  exact ⟨[], by constructor <;> simp [nmF, inB, h, e1, e2, e4]⟩
 ·have e1 := I.noR (by omega)
  have e2 := I.noH (by omega)
  have e4 := I.noP (by omega)
  have i4 := I.to
  have e3 : zgb r = zb9 r.to := by simp [zgb, h]
  simp [h, e3]
  refine CI.cc [0] (zim r.to 12 t (za5 (by omega) (by omega) (by omega)) (by omega)) call262 99 ?_
  simp
  have hs4 := zk3 r
  rw [hs] at hs4
  simp only [resC, e1, e2, e4, h] at hs4
  refine CI.p hs4 call206 99 ?_
  simp
  refine CI.cc [0] (zt1 t) call263 99 ?_
  simp
  exact ⟨[], by constructor <;> simp [nmF, inB, h, e1, e2, e4]⟩
 ·have e1 := I.noP (by omega)
  have e2 := I.noT (by omega) (by omega)
  have e4 := I.noR (by omega)
  have e3 : zgb r = zal r.hosts numB := by simp [zgb, h]
  simp [h, e3]
  refine CI.cc [0] (qbj r.hosts 8 t (fun y hy t' ht' => zy1 y t' (I.host y hy).1 (I.host y hy).2 (by omega)) (fun y hy => zad y) (by have := I.hosts; omega) I.hosts (by omega) (by omega)) call266 99 ?_
  simp
  have hs4 := zk3 r
  rw [hs] at hs4
  simp only [resC, e1, e2, e4, h] at hs4
  refine CI.p hs4 call206 99 ?_
  simp
  refine CI.cc [0] (zt1 t) call263 99 ?_
  simp
  exact ⟨[], by constructor <;> simp [nmF, inB, h, e1, e2, e4]⟩
theorem qf8 (l : List Res) (lim : Int) (t : List UInt8) (hf : ∀ y ∈ l, ∀ t' : List UInt8, t'.length ≤ 870000 → Ct prog 184 [.ptr 0 0] [] [(0, .cells [lst ((resB y ++ t').map byteC), int 0] 229)] (st (resC y)) [(0, .cells [lst ((t').map byteC), int 0] 229)]) (hy : ∀ y ∈ l, (resB y).length ≤ 1496) (h1 : l.length ≤ lim) (hl : l.length ≤ 64) (h2 : lim ≤ 1000) (ht : t.length ≤ 700000) : Ct prog 183 [.ptr 0 0, int lim, .d (fnD 184)] [] [(0, .cells [lst ((zal l resB ++ t).map byteC), int 0] 229)] (lst (l.map resC)) [(0, .cells [lst ((t).map byteC), int 0] 229)] := by
 refine Ct.B func183 mixed 99 400 ?_
 simp
 have hall := zcl l hy
 refine CI.cc [0] (zbt l.length lim (l.flatMap resB ++ t) (by omega) (za5 h1 (by omega) (by omega)) (by simp only [List.length_append]; omega)) call119 99 ?_ (ha := by simp [zal]) (hk := by simp [zal])
 simp [zal]
 refine LoopI.nilOwn 7 7 109 rfl ?_
 refine LoopI.U mixed (l) (fun k => [(0, .ptr 0 0), (2, .d (fnD 184)), (7, .own 64), (11, int l.length), (12, int k.1)]) (fun k => [(64, .grow 7 ((l.take k.1).map resC) 109), (0, .cells [lst (((l.drop k.1).flatMap resB ++ t).map byteC), int 0] 229)]) 65 [] (by constructor <;> simp) ?_
 rintro ⟨k, hk1⟩ B hB
 refine CI.run 99 400 rfl ?_
 simp
 refine sBI (fun h => ?_) (fun h => ?_)
 ·have hk : k < (l).length := by simpa using h
  obtain ⟨y, hx, hr, hm, ht, hd⟩ := inL hk
  have hw := wr (k := k) (by omega)
  simp only [h]
  simp [hr, hw]
  have hd2 := zfk l (k + 1) hy
  refine CI.cc [0] (hf y hm ((l.drop (k + 1)).flatMap resB ++ t) (by simp only [List.length_append]; omega)) call184 99 ?_ (ha := by simp [hd]) (hk := by simp [hd])
  simp [hd]
  refine ⟨by omega, ?_⟩
  refine hB _ ⟨k + 1, by omega⟩ [] ?_ (by simp; omega)
  constructor <;> simp [hw, ht]
 ·have hkl : k = (l).length := by simp at h; omega
  subst hkl
  simp only [h]
  simp [List.take_length, List.drop_length]
  exact ⟨[], by constructor <;> simp [nmF, inB]⟩
theorem qbb (l : List Res) (t : List UInt8) (hs : ∀ r ∈ l, zaw r = 0) (hl : l.length ≤ 64) (ht : t.length ≤ 700000) : Ct prog 121 [.ptr 0 0] [] [(0, .cells [lst ((zal l resB ++ t).map byteC), int 0] 229)] (lst (l.map resC)) [(0, .cells [lst ((t).map byteC), int 0] 229)] := by
 refine Ct.B func121 mixed 99 400 ?_
 simp
 refine CI.cc [0] (qf8 l 64 t (fun y hy t' ht' => qot y t' (hs y hy) (by omega)) (fun y hy => zja (zk8 (hs y hy))) (by omega) hl (by omega) (by omega)) call183 99 ?_
 simp
 exact ⟨[], by constructor <;> simp [nmF, inB]⟩
theorem zka (l : List Key) (t : List UInt8) (hs : ∀ k ∈ l, okK k = true) (hl : l.length ≤ 64) (ht : t.length ≤ 700000) : Ct prog 122 [.ptr 0 0] [] [(0, .cells [lst ((zal l zbn ++ t).map byteC), int 0] 229)] (lst (l.map keyC)) [(0, .cells [lst ((t).map byteC), int 0] 229)] := by
 refine Ct.B func122 mixed 99 400 ?_
 simp
 refine CI.cc [0] (qf9 l 64 t (fun y hy t' ht' => zrz y t' (hs y hy) (by omega)) (fun y hy => zdb (hs y hy)) (by omega) hl (by omega) (by omega)) call185 99 ?_
 simp
 exact ⟨[], by constructor <;> simp [nmF, inB]⟩
end Go.Proofs.YtmhfcgpmmghakaaGreatDoor
namespace Go.Proofs.YtmhfcgpmmghakaaGreatDoor
open Go.AI Go.G Tryz
set_option maxRecDepth 20000
attribute [simp] ntmps116 results116 ntmps120 results120 ntmps82 results82 ntmps117 results117 ntmps81 results81
theorem qpc (f : G.Frame) (hf : OkFrame f) (he : ¬ zas f = 0) : Ct prog 116 [st (zaj f)] [] [] (.tup [nilS, int (zas f)]) [] := by
 refine Ct.B func116 mixed 99 400 ?_
 simp
 refine CI.p (zix f hf) call89 99 ?_ (ha := by simp [he])
 simp [he]
 exact fin0 (by simp) rfl
set_option maxHeartbeats 1000000 in
theorem qrz (f : G.Frame) (he : zas f = 0) : Ct prog 116 [st (zaj f)] [] [] (.tup [lst ((putB f).map byteC), int 0]) [] := by
 refine Ct.B func116 mixed 99 400 ?_
 simp
 have F := qqw (frameE_zero.1 he)
 have lk := za8 (l := f.gone) (lay := zbn) (m := 22) fun k hk => zdb (F.gone k hk)
 have la := za8 (l := f.adds) (lay := resB) (m := 1496) fun r hr => zja (zk8 (F.adds r hr))
 have l1 := F.la
 have l2 := F.lg
 have l3 := F.lh
 have l4 := F.ld
 have n1 := zad f.epoch
 have n2 := zad f.kind
 have n3 := zad f.nonce
 have n4 := zad f.err
 have n5 := zad f.turn
 have n6 := zad f.have_.length
 have hy : ∀ m ∈ f.have_, (zfc m).length ≤ 27 := fun m hm => zjj (F.have_ m hm).1
 obtain ⟨x, e0⟩ : ∃ x, numB f.type = [x] := ⟨_, zzp (by rcases F.ty with h | h | h | h <;> omega) (by rcases F.ty with h | h | h | h <;> omega)⟩
 refine CI.p (zix f (zeg he)) call89 99 ?_ (ha := by simp [he])
 simp [he]
 refine CI.p (qp5 f.type) call175 99 ?_ (ha := by simp [e0])
 simp [e0]
 refine CI.p (zch x [] f.epoch (by simp)) call175 99 ?_
 simp
 refine ⟨by decide +kernel, ?_⟩
 rcases F.ty with g0 | g0 | g0 | g0
 all_goals rw [g0] at e0
 ·simp [g0]
  refine CI.p (zch x (numB f.epoch) f.have_.length (by omega)) call175 99 ?_
  simp
  refine LoopI.U mixed (f.have_) (fun k => [(5, lst ((x :: (numB f.epoch ++ numB f.have_.length ++ (f.have_.take k.1).flatMap zfc)).map byteC)), (36, lst (f.have_.map zdu)), (37, int f.have_.length), (38, int k.1)]) (fun k => []) 65 [] (by constructor <;> simp) ?_
  rintro ⟨k, hk1⟩ B hB
  refine CI.run 99 400 rfl ?_
  simp
  refine sBI (fun h => ?_) (fun h => ?_)
  ·have hk : k < (f.have_).length := by simpa using h
   obtain ⟨m, hx, hr, hm, ht, hd⟩ := inL hk
   have hw := wr (k := k) (by omega)
   simp only [h]
   simp [hr, hw]
   have hk2 := zfl f.have_ k hy
   have F1 := F.have_ m hm
   have n7 := zdb F1.1
   refine CI.p (zxb x (numB f.epoch ++ numB f.have_.length ++ (f.have_.take k).flatMap zfc) m.k F1.1 (by simp only [List.length_append]; omega)) call176 99 ?_
   simp
   refine CI.p (zch x (numB f.epoch ++ numB f.have_.length ++ (f.have_.take k).flatMap zfc ++ zbn m.k) m.ver (by simp only [List.length_append]; omega)) call175 99 ?_
   simp
   refine ⟨by decide +kernel, ?_⟩
   refine hB _ ⟨k + 1, by omega⟩ [] ?_ (by simp; omega)
   constructor <;> simp [hw, ht, zfc]
  ·have hkl : k = (f.have_).length := by simp at h; omega
   subst hkl
   simp only [h]
   simp [List.take_length, List.drop_length]
   exact fin0 (by simp [putB, zhd, g0, e0, zal]) rfl
 ·simp [g0]
  refine CI.p (zch x (numB f.epoch) f.kind (by omega)) call175 99 ?_
  simp
  refine CI.p (zch x (numB f.epoch ++ numB f.kind) f.nonce (by simp; omega)) call175 99 ?_
  simp
  refine ⟨by decide +kernel, ?_⟩
  refine CI.p (qgq x (numB f.epoch ++ numB f.kind ++ numB f.nonce) f.adds F.adds l1 (by simp; omega)) call178 99 ?_
  simp
  refine CI.p (zmz x (numB f.epoch ++ numB f.kind ++ numB f.nonce ++ zal f.adds resB) f.gone F.gone l2 (by simp only [List.length_append]; omega)) call177 99 ?_
  simp
  refine ⟨by decide +kernel, ?_⟩
  exact fin0 (by simp [putB, zhd, g0, e0]) rfl
 ·simp [g0]
  refine CI.p (zch x (numB f.epoch) f.kind (by omega)) call175 99 ?_
  simp
  refine CI.p (zch x (numB f.epoch ++ numB f.kind) f.nonce (by simp; omega)) call175 99 ?_
  simp
  refine CI.p (zch x (numB f.epoch ++ numB f.kind ++ numB f.nonce) f.err (by simp; omega)) call175 99 ?_
  simp
  refine ⟨by decide +kernel, ?_⟩
  refine CI.p (zch x (numB f.epoch ++ numB f.kind ++ numB f.nonce ++ numB f.err) f.turn (by simp; omega)) call175 99 ?_
  simp
  refine CI.p (zmz x (numB f.epoch ++ numB f.kind ++ numB f.nonce ++ numB f.err ++ numB f.turn) f.held F.held l4 (by simp only [List.length_append]; omega)) call177 99 ?_
  simp
  refine ⟨by decide +kernel, ?_⟩
  exact fin0 (by simp [putB, zhd, g0, e0]) rfl
 ·simp [g0]
  refine CI.p (zch x (numB f.epoch) f.turn (by omega)) call175 99 ?_
  simp
  refine CI.p (zmz x (numB f.epoch ++ numB f.turn) f.held F.held l4 (by simp only [List.length_append]; omega)) call177 99 ?_
  simp
  refine ⟨by decide +kernel, ?_⟩
  exact fin0 (by simp [putB, zhd, g0, e0]) rfl
theorem qqq (l : List G.Mark) (t : List UInt8) (hs : ∀ m ∈ l, okK m.k = true ∧ 0 ≤ m.ver ∧ m.ver ≤ 2147483647) (hl : l.length ≤ 64) (ht : t.length ≤ 700000) : Ct prog 120 [.ptr 0 0] [] [(0, .cells [lst ((zal l zfc ++ t).map byteC), int 0] 229)] (lst (l.map zdu)) [(0, .cells [lst (t.map byteC), int 0] 229)] := by
 refine Ct.B func120 mixed 99 400 ?_
 simp
 have hy : ∀ m ∈ l, (zfc m).length ≤ 27 := fun m hm => zjj (hs m hm).1
 have hall := zcl l hy
 refine CI.cc [0] (zbt l.length 64 (l.flatMap zfc ++ t) (by omega) (za5 (by omega) (by omega) (by omega)) (by simp only [List.length_append]; omega)) call119 99 ?_ (ha := by simp [zal]) (hk := by simp [zal])
 simp [zal]
 refine LoopI.nilOwn 3 3 291 rfl ?_
 refine LoopI.U mixed (l) (fun k => [(0, .ptr 0 0), (3, .own 64), (6, int l.length), (7, int k.1)]) (fun k => [(64, .grow 3 ((l.take k.1).map zdu) 291), (0, .cells [lst (((l.drop k.1).flatMap zfc ++ t).map byteC), int 0] 229)]) 65 [] (by constructor <;> simp) ?_
 rintro ⟨k, hk1⟩ B hB
 refine CI.run 99 400 rfl ?_
 simp
 refine sBI (fun h => ?_) (fun h => ?_)
 ·have hk : k < (l).length := by simpa using h
  obtain ⟨m, hx, hr, hm, ht, hd⟩ := inL hk
  have hw := wr (k := k) (by omega)
  simp only [h]
  simp [hr, hw]
  have hd2 := zfk l (k + 1) hy
  obtain ⟨q1, q2, q3⟩ := hs m hm
  have n1 := zad m.ver
  refine CI.cc [0] (zrz m.k (numB m.ver ++ ((l.drop (k + 1)).flatMap zfc ++ t)) q1 (by simp only [List.length_append]; omega)) call182 99 ?_ (ha := by simp [hd, zfc]) (hk := by simp [hd, zfc])
  simp [hd, zfc]
  refine CI.cc [0] (zbt m.ver 2147483647 ((l.drop (k + 1)).flatMap zfc ++ t) q2 (za5 q3 (by omega) (by omega)) (by simp only [List.length_append]; omega)) call119 99 ?_
  simp
  refine ⟨by omega, ?_⟩
  refine hB _ ⟨k + 1, by omega⟩ [] ?_ (by simp; omega)
  constructor <;> simp [hw, ht]
 ·have hkl : k = (l).length := by simp at h; omega
  subst hkl
  simp only [h]
  simp [List.take_length, List.drop_length]
  exact ⟨[], by constructor <;> simp [nmF, inB]⟩
set_option maxHeartbeats 1000000 in
theorem qsd (f : G.Frame) (he : zas f = 0) : Ct prog 82 [lst ((putB f).map byteC)] [] [] (.tup [st (zaj f), int 0]) [] := by
 refine Ct.B func82 mixed 99 400 ?_
 simp
 have F := qqw (frameE_zero.1 he)
 have lk := za8 (l := f.gone) (lay := zbn) (m := 22) fun k hk => zdb (F.gone k hk)
 have ld := za8 (l := f.held) (lay := zbn) (m := 22) fun k hk => zdb (F.held k hk)
 have la := za8 (l := f.adds) (lay := resB) (m := 1496) fun r hr => zja (zk8 (F.adds r hr))
 have lh := za8 (l := f.have_) (lay := zfc) (m := 27) fun m hm => zjj (F.have_ m hm).1
 have l1 := F.la
 have l2 := F.lg
 have l3 := F.lh
 have l4 := F.ld
 have n1 := zad f.epoch
 have n2 := zad f.kind
 have n3 := zad f.nonce
 have n4 := zad f.err
 have n5 := zad f.turn
 have hb := zl2 (frameE_zero.1 he)
 have hbl : (zhd f).length ≤ 99000 := by simp only [putB, List.length_append] at hb; omega
 refine CI.cc [320] (zbt f.type 3 (numB f.epoch ++ zhd f) (by rcases F.ty with h | h | h | h <;> omega) (za5 (by rcases F.ty with h | h | h | h <;> omega) (by omega) (by omega)) (by simp only [List.length_append]; omega)) call119 99 ?_ (ha := by simp [putB]) (hk := by simp [putB])
 simp [putB]
 refine CI.cc [320] (zbt f.epoch 2147483647 (zhd f) F.e0 (za5 F.e1 (by omega) (by omega)) (by omega)) call119 99 ?_
 simp
 have hf4 := zix f (zeg he)
 rw [he] at hf4
 rcases F.ty with g0 | g0 | g0 | g0
 ·obtain ⟨a1, a2, a3, a4, a5, a6, a7⟩ := F.s0 g0
  have e1 : zhd f = zal f.have_ zfc ++ [] := by simp [zhd, g0]
  simp [g0, e1]
  refine CI.cc [320] (qqq f.have_ [] F.have_ l3 (by simp)) call120 99 ?_
  simp
  simp only [zaj, g0, a1, a2, a3, a4, a5, a6, a7] at hf4
  refine CI.cc [320] zp8 call123 99 ?_
  simp
  refine CI.p hf4 call89 99 ?_
  simp
  exact fin0 (by simp [g0, a1, a2, a3, a4, a5, a6, a7]) rfl
 ·obtain ⟨a1, a2, a3, a4⟩ := F.s1 g0
  have e1 : zhd f = numB f.kind ++ (numB f.nonce ++ (zal f.adds resB ++ (zal f.gone zbn ++ []))) := by simp [zhd, g0]
  simp [g0, e1]
  refine CI.cc [320] (zbt f.kind 3 (numB f.nonce ++ (zal f.adds resB ++ (zal f.gone zbn ++ []))) F.k0 (za5 F.k3 (by omega) (by omega)) (by simp only [List.length_append, List.length_nil]; omega)) call119 99 ?_
  simp
  refine CI.cc [320] (zbt f.nonce 2147483647 (zal f.adds resB ++ (zal f.gone zbn ++ [])) F.n0 (za5 F.n1 (by omega) (by omega)) (by simp only [List.length_append, List.length_nil]; omega)) call119 99 ?_
  simp
  refine CI.cc [320] (qbb f.adds (zal f.gone zbn ++ []) F.adds l1 (by simp only [List.length_append, List.length_nil]; omega)) call121 99 ?_
  simp
  refine CI.cc [320] (zka f.gone [] F.gone l2 (by simp)) call122 99 ?_
  simp
  simp only [zaj, g0, a1, a2, a3, a4] at hf4
  refine CI.cc [320] zp8 call123 99 ?_
  simp
  refine CI.p hf4 call89 99 ?_
  simp
  exact fin0 (by simp [g0, a1, a2, a3, a4]) rfl
 ·obtain ⟨a1, a2, a3⟩ := F.s2 g0
  have e1 : zhd f = numB f.kind ++ (numB f.nonce ++ (numB f.err ++ (numB f.turn ++ (zal f.held zbn ++ [])))) := by simp [zhd, g0]
  simp [g0, e1]
  refine CI.cc [320] (zbt f.kind 3 (numB f.nonce ++ (numB f.err ++ (numB f.turn ++ (zal f.held zbn ++ [])))) F.k0 (za5 F.k3 (by omega) (by omega)) (by simp only [List.length_append, List.length_nil]; omega)) call119 99 ?_
  simp
  refine CI.cc [320] (zbt f.nonce 2147483647 (numB f.err ++ (numB f.turn ++ (zal f.held zbn ++ []))) F.n0 (za5 F.n1 (by omega) (by omega)) (by simp only [List.length_append, List.length_nil]; omega)) call119 99 ?_
  simp
  refine CI.cc [320] (zbt f.err 15 (numB f.turn ++ (zal f.held zbn ++ [])) F.r0 (za5 F.r1 (by omega) (by omega)) (by simp only [List.length_append, List.length_nil]; omega)) call119 99 ?_
  simp
  refine CI.cc [320] (zbt f.turn 2147483647 (zal f.held zbn ++ []) F.t0 (za5 F.t1 (by omega) (by omega)) (by simp only [List.length_append, List.length_nil]; omega)) call119 99 ?_
  simp
  refine CI.cc [320] (zka f.held [] F.held l4 (by simp)) call122 99 ?_
  simp
  simp only [zaj, g0, a1, a2, a3] at hf4
  refine CI.cc [320] zp8 call123 99 ?_
  simp
  refine CI.p hf4 call89 99 ?_
  simp
  exact fin0 (by simp [g0, a1, a2, a3]) rfl
 ·obtain ⟨a1, a2, a3, a4, a5, a6⟩ := F.s3 g0
  have e1 : zhd f = numB f.turn ++ (zal f.held zbn ++ []) := by simp [zhd, g0]
  simp [g0, e1]
  refine CI.cc [320] (zbt f.turn 2147483647 (zal f.held zbn ++ []) F.t0 (za5 F.t1 (by omega) (by omega)) (by simp only [List.length_append, List.length_nil]; omega)) call119 99 ?_
  simp
  refine CI.cc [320] (zka f.held [] F.held l4 (by simp)) call122 99 ?_
  simp
  simp only [zaj, g0, a1, a2, a3, a4, a5, a6] at hf4
  refine CI.cc [320] zp8 call123 99 ?_
  simp
  refine CI.p hf4 call89 99 ?_
  simp
  exact fin0 (by simp [g0, a1, a2, a3, a4, a5, a6]) rfl
theorem qom (l : List UInt8) (hl : l.length ≤ 100000) : Ct prog 117 [lst (l.map byteC)] [] [] (.tup [lst ((zmc l).map byteC), int 0]) [] := by
 refine Ct.B func117 mixed 99 400 ?_
 simp
 have n1 := zad l.length
 refine sBI (fun h1 => ?_) (fun h1 => ?_) <;> simp only [h1] <;> simp <;> (try simp only [nT, nF, dT, dF] at h1)
 ·omega
 refine CI.cc [] (qp3 l.length) call175 99 ?_
 simp
 refine ⟨by omega, ?_⟩
 exact fin0 (by simp [zmc]) rfl
theorem qp7 (x : UInt8) (p : List UInt8) (hl : (x :: p).length ≤ 100000) : Ct prog 81 [lst ((zmc (x :: p)).map byteC)] [] [] (.tup [lst ((x :: p).map byteC), int (zmc (x :: p)).length, int 0]) [] := by
 refine Ct.B func81 mixed 99 400 ?_
 simp
 have n1 := zad ((x :: p).length : Int)
 refine CI.cc [384] (zbt (x :: p).length 100000 (x :: p) (by omega) (za5 (by omega) (by omega) (by omega)) (by omega)) call119 99 ?_ (ha := by simp [zmc]) (hk := by simp [zmc])
 simp [zmc]
 refine ⟨by omega, ?_⟩
 refine CI.cc [] (zwd x p (by simp at hl; omega)) call92 99 ?_
 simp
 refine ⟨by decide +kernel, ?_⟩
 rw [show ((x :: p).length : Int) = p.length + 1 by simp] at n1
 have hp : p.length + 1 ≤ 100000 := hl
 have w1 : IntKind.wrap .i64 ((numB ((p.length : Int) + 1)).length : Int) = (numB ((p.length : Int) + 1)).length := zaa (by omega) (by omega)
 have w2 : IntKind.wrap .i64 (((numB ((p.length : Int) + 1)).length : Int) + (p.length + 1)) = (numB ((p.length : Int) + 1)).length + (p.length + 1) := zaa (by omega) (by omega)
 exact fin0 (by simp [w1, w2]) rfl
end Go.Proofs.YtmhfcgpmmghakaaGreatDoor
namespace Go.Proofs.YtmhfcgpmmghakaaGreatDoor
open Go.AI Go.G Tryz
set_option maxRecDepth 20000
attribute [simp] ntmps91 results91 ntmps60 results60 ntmps62 results62 ntmps61 results61 ntmps118 results118 ntmps80 results80 ntmps55 results55 ntmps36 results36 ntmps37 results37 ntmps38 results38 ntmps93 results93
theorem qij (x : UInt8) (l : List UInt8) (hl : l.length ≤ 1000000) : Ct prog 92 [lst ((x :: l).map byteC)] [] [] (lst ((x :: l).map byteC)) [] := (zwd x l hl).data
theorem qlm (l : RLk) (hl : l.q.length ≤ 1000000) : Ct prog 91 [st (rlkC l)] [] [] (bool (zmr l)) [] := by
 refine Ct.B func91 mixed 99 400 ?_
 simp
 rw [qb4]
 repeat' first
  | (refine sGI (fun h => ?_) (fun h => ?_) <;> simp only [h] <;> simp [h])
  | (refine sBI (fun h => ?_) (fun h => ?_) <;> simp only [h] <;> simp [h])
  | (refine ⟨(show zaq _ _ from by decide +kernel), ?_⟩)
  | fail
 all_goals exact fin0 (by simp [*]) rfl
theorem zp1 (l : RLk) (hl : l.q.length ≤ 1000000) : Ct prog 60 [st (rlkC l)] [] [] (st (rlkC (zcf l))) [] := by
 refine Ct.B func60 mixed 99 400 ?_
 simp
 refine CI.p (qlm l hl) call91 99 ?_
 simp
 cases hs : zmr l with
 | false =>
   have e := qgi hs
   simp [hs]
   exact fin0 (by simp [e]) rfl
 | true =>
   have e := zsc hs
   simp [hs]
   exact fin0 (by simp [e]) rfl
theorem qo3 (l : RLk) (x : UInt8) (b : List UInt8) (h : OkLk l) (hb : (x :: b).length ≤ 200000) : Ct prog 62 [st (rlkC l), lst ((x :: b).map byteC)] [] [] (.tup [st (rlkC (qbx l (x :: b)).1), int (qbx l (x :: b)).2]) [] := by
 refine Ct.B func62 mixed 99 400 ?_
 simp
 refine CI.p (zp1 l h.len) call60 99 ?_
 simp
 simp only [qbx]
 have h32 := zoq l
 generalize zcf l = q at *
 refine sBI (fun h1 => ?_) (fun h1 => ?_) <;> simp only [h1] <;> simp <;> (try simp only [nT, nF, dT, dF] at h1)
 ·have e : qbw q (x :: b) = (q, 8) := zou (by omega)
  exact fin0 (by simp [e]) rfl
 ·have e : qbw q (x :: b) = (⟨q.epoch, q.q ++ [x :: b]⟩, 0) := zot (by omega)
  refine CI.p (qij x b (by simp at hb; omega)) call92 99 ?_
  simp
  refine ⟨by omega, ?_⟩
  refine ⟨by decide +kernel, ?_⟩
  exact fin0 (by simp [e]) rfl
theorem ql2 (l : RLk) (i : Int) (hl : l.q.length ≤ 1000000) (hq : l.q ≠ []) : Ct prog 61 [st (rlkC l), int i] [] [] (.tup [int (placeK l i), bool true]) [] := by
 refine Ct.B func61 mixed 99 400 ?_
 simp
 have e := qcw i hq
 have hz : ¬ (l.q.length : Int) = 0 := by have := List.length_pos_iff.2 hq; omega
 simp [hq]
 exact fin0 (by simp [e]) rfl
theorem qgt (e i : Int) : Ct prog 61 [st [iD e, lD []], int i] [] [] (.tup [int 0, bool false]) [] := by
 refine Ct.B func61 mixed 99 400 ?_
 simp
 exact fin0 (by simp) rfl
theorem qsb (n : Int) (h0 : 0 < n) (h1 : n ≤ 2000000) : Ct prog 118 [nilS, int n] [] [] (.sl 64 1 0 0) [(64, .grow 1 (List.replicate n.toNat [.v (.slice none 0 0)]) 137)] := by
 refine Ct.B func118 mixed 99 400 ?_
 simp
 have g1 : ¬ n < 0 := by omega
 have g2 := zaa (n := n) (by omega) (by omega)
 simp [g1, g2, h0]
 refine ⟨⟨by omega, by omega⟩, by omega, ?_⟩
 exact ⟨[(64, 1216)], by constructor <;> simp [nmF, inB]⟩
theorem qqr : Ct prog 118 [nilS, int 0] [] [] (nilS) [] := by
 refine Ct.B func118 mixed 99 400 ?_
 simp
 exact fin0 (by simp) rfl
theorem qnp (a b : List (List UInt8)) (h1 : a.length + b.length ≤ 2000000) : Ct prog 80 [.own 0] [(0, .grow 1 [[.ro true (a.map txC)], [lD (b.map txC)]] 78)] [] (lst ((a ++ b).map txC)) [] := by
 refine Ct.B func80 mixed 99 400 ?_
 simp
 have w1 : IntKind.wrap .i64 (a.length : Int) = a.length := zaa (by omega) (by omega)
 have w2 : IntKind.wrap .i64 ((a.length : Int) + b.length) = a.length + b.length := zaa (by omega) (by omega)
 have v1 : ¬ ((a.length : Int) < 0) := by omega
 have v2 : ¬ ((a.length : Int) + b.length < 0) := by omega
 refine LoopI.unroll mixed (Plain.retC _ _ _ _ _) rfl ?_
 refine CI.run 99 400 rfl ?_
 simp [w1, v1]
 refine LoopI.unroll mixed (Plain.retC _ _ _ _ _) rfl ?_
 refine CI.run 99 400 rfl ?_
 simp [w2, v2]
 refine LoopI.unroll mixed (Plain.retC _ _ _ _ _) rfl ?_
 refine CI.run 99 400 rfl ?_
 simp
 by_cases h0 : a.length + b.length = 0
 ·have ha : a = [] := List.eq_nil_of_length_eq_zero (by omega)
  have hb : b = [] := List.eq_nil_of_length_eq_zero (by omega)
  subst ha
  subst hb
  refine CI.p qqr call118 99 ?_
  simp
  refine LoopI.unroll mixed (Plain.retC _ _ _ _ _) rfl ?_
  refine CI.run 99 400 rfl ?_
  simp
  refine LoopI.unroll mixed (Plain.retC _ _ _ _ _) rfl ?_
  refine CI.run 99 400 rfl ?_
  simp
  refine LoopI.unroll mixed (Plain.retC _ _ _ _ _) rfl ?_
  refine CI.run 99 400 rfl ?_
  simp
  exact ⟨[], by constructor <;> simp [nmF, inB]⟩
 ·refine CI.cc [] (qsb ((a.length : Int) + b.length) (by omega) (by omega)) call118 99 ?_
  simp
  refine LoopI.unroll mixed (Plain.retC _ _ _ _ _) rfl ?_
  refine CI.run 99 400 rfl ?_
  simp
  refine ⟨by omega, ?_⟩
  refine LoopI.unroll mixed (Plain.retC _ _ _ _ _) rfl ?_
  refine CI.run 99 400 rfl ?_
  simp
  refine ⟨by omega, ?_⟩
  refine LoopI.unroll mixed (Plain.retC _ _ _ _ _) rfl ?_
  refine CI.run 99 400 rfl ?_
  simp
  exact ⟨[], by constructor <;> simp [nmF, inB]⟩
theorem qos (l : RLk) (i : Int) (h : OkLk l) : Ct prog 55 [st (rlkC l), int i] [] [] (.tup [st (rlkC (zy0 l i).1), lst ((zy0 l i).2.1.map byteC), int (zy0 l i).2.2]) [] := by
 refine Ct.B func55 mixed 99 400 ?_
 simp
 refine CI.p (zp1 l h.len) call60 99 ?_
 simp
 simp only [zy0]
 have h32 := zoq l
 have h' := h.sound
 generalize zcf l = q at *
 by_cases hq : q.q = []
 ·obtain ⟨e, q⟩ := q
  simp only at hq
  subst hq
  refine CI.p (qgt e i) call61 99 ?_
  simp
  have e1 := @zyz e i
  exact fin0 (by simp [e1]) rfl
 ·have e1 := zyy (i := i) hq
  have e2 := zss i hq
  refine CI.p (ql2 q i (by omega) hq) call61 99 ?_
  simp
  generalize placeK q i = k at *
  have w1 : IntKind.wrap .i64 ((k : Int) + 1) = k + 1 := zaa (by omega) (by omega)
  have w2 : ((k : Int) + 1).toNat = k + 1 := by omega
  simp [e2, w1, w2]
  refine ⟨by omega, ?_⟩
  refine ⟨⟨by omega, by omega⟩, ?_⟩
  have e3 : q.q[k]?.getD [] = q.q[k] := by simp [e2]
  refine CI.cc [2176] (qnp (q.q.take k) (q.q.drop (k + 1)) (by simp; omega)) call80 99 ?_
  simp
  refine ⟨by decide +kernel, ?_⟩
  exact fin0 (by simp [e1, e3]) rfl
theorem qlq (l : RLk) (hl : l.q.length ≤ 1000000) : Ct prog 93 [st (rlkC l)] [] [] (.tup [st (rlkC (zw7 l).1), int (zw7 l).2]) [] := by
 refine Ct.B func93 mixed 99 400 ?_
 simp
 refine CI.p (zp1 l hl) call60 99 ?_
 simp
 obtain ⟨h1, h2⟩ := zy9 l
 unfold zw7
 generalize zcf l = q at *
 refine sBI (fun h3 => ?_) (fun h3 => ?_) <;> simp only [h3] <;> simp <;> (try simp only [nT, nF, dT, dF] at h3)
 ·first | exact fin0 (by simp [h3]) rfl | exact zac (by simp [h3])
 ·have w1 := zaa (n := q.epoch + 1) (by omega) (by omega)
  first | exact fin0 (by simp [h3, w1]) rfl | exact zac (by simp [h3, w1])
end Go.Proofs.YtmhfcgpmmghakaaGreatDoor
