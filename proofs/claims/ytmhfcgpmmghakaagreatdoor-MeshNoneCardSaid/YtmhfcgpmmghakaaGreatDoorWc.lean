/-
  LAYERS 3, 5, 6, 14: the walks of references and views, of configurations, of stores; what the laws' arguments are.
-/
import Derived.Test.YtmhfcgpmmghakaaGreatDoorWb
import Derived.Test.YtmhfcgpmmghakaaGreatDoorPl
import Derived.Test.YtmhfcgpmmghakaaGreatDoorTy
import Derived.Test.YtmhfcgpmmghakaaGreatDoorFc
set_option linter.unusedSimpArgs false
set_option linter.unusedVariables false
namespace Go.Proofs.YtmhfcgpmmghakaaGreatDoor
open Go.AI Go.G Tryz
set_option maxRecDepth 20000
attribute [simp] ntmps242 results242
theorem zj1 (l : List Key) (hl : l.length ≤ 1000000) : Ct prog 242 [.own 0] [] [(0, .grow 2 (l.map keyC) 203)] (lst ((zep l).map keyC)) [] := by
 refine Ct.B func242 mixed 99 400 ?_
 simp
 refine sBI (fun h0 => ?_) (fun h0 => ?_) <;> simp only [h0] <;> simp <;> (try simp only [nT, nF, dT, dF] at h0)
 ·have e : zep l = l := qac h0
  exact ⟨[], by constructor <;> simp [nmF, inB, e]⟩
 refine LoopI.inv mixed rfl (ι := {k : Nat // k + 1 ≤ l.length ∧ zep (l.take (k + 1)) = l.take (k + 1)}) (fun k => [(0, .own 0), (3, int ((k.1 : Int) + 1))]) (fun k => [(0, .grow 2 (l.map keyC) 203)]) 64 (fun k => l.length - k.1) ⟨0, by omega, qad l⟩ [] (by constructor <;> simp) ?_
 rintro ⟨m, hk1, hi⟩ B hB
 refine CI.run 99 400 rfl ?_
 simp
 refine sBI (fun h => ?_) (fun h => ?_) <;> simp only [h] <;> simp <;> (try simp only [nT, nF, dT, dF] at h)
 ·have hk : m + 1 < l.length := by omega
  have hk' : m < l.length := by omega
  have hv : l[m + 1]? = some l[m + 1] := List.getElem?_eq_getElem hk
  have hq : l[m]? = some l[m] := List.getElem?_eq_getElem hk'
  have w0 : IntKind.wrap .i64 (m : Int) = m := zaa (by omega) (by omega)
  have w1 := zaa (n := (m : Int) + 1 + 1) (by omega) (by omega)
  have c1 : (0 : Int) ≤ (m : Int) + 1 := by omega
  have c2 : (m : Int) < l.length := by omega
  generalize hvu : l[m + 1] = u at hv
  generalize hqu : l[m] = q0 at hq
  have hs := zj2 (by omega) (show l[m + 1 - 1]? = _ from hq) hv
  simp [h, hvu, hqu, c1, c2, hv, hq, w0]
  rw [zo8]
  refine ⟨by decide +kernel, ?_⟩
  refine sBI (fun h2 => ?_) (fun h2 => ?_) <;> simp only [h2] <;> simp [hv, hq] <;> (try simp only [nT, nF, dT, dF] at h2)
  ·refine ⟨by omega, ?_⟩
   rw [h2] at hv
   have d0 : CompSt l (m + 2 + 0) (m + 1) l := CompSt.start (by omega) hi hq hv
   clear hv hq hs w0 w1 c1 c2 hi hB
   refine LoopI.inv mixed rfl (ι := {q : Nat × Nat × List Key // CompSt l (m + 2 + q.1) q.2.1 q.2.2}) (fun k => [(0, .own 0), (3, int k.1.2.1), (4, .sl 0 2 (m + 1) (l.length - (m + 1))), (5, int ((k.1.1 : Int) + 1))]) (fun k => [(0, .grow 2 (k.1.2.2.map keyC) 203)]) 64 (fun k => l.length - k.1.1) ⟨(0, m + 1, l), d0⟩ [] (by constructor <;> simp) ?_
   rintro ⟨⟨d, i, cur⟩, hd⟩ B hB
   have hlen := hd.len
   have hlt := hd.lt
   have hle := hd.le
   simp only at hlen hlt hle
   have w1 : IntKind.wrap .i64 ((d : Int) + 1 + 1) = d + 1 + 1 := zaa (by omega) (by omega)
   have w2 : IntKind.wrap .i64 ((i : Int) + 1) = i + 1 := zaa (by omega) (by omega)
   have w0 : IntKind.wrap .i64 (d : Int) = d := zaa (by omega) (by omega)
   refine CI.run 99 400 rfl ?_
   simp [hlen]
   refine sBI (fun h3 => ?_) (fun h3 => ?_) <;> simp only [h3] <;> simp <;> (try simp only [nT, nF, dT, dF] at h3)
   ·have hj : m + 1 + (d + 1) < l.length := by omega
    have hj' : m + 1 + d < l.length := by omega
    have hv : l[m + 2 + d]? = some l[m + 1 + (d + 1)] := by rw [← List.getElem?_eq_getElem hj]; congr 1; omega
    have hq : l[m + 2 + d - 1]? = some l[m + 1 + d] := by rw [← List.getElem?_eq_getElem hj']; congr 1; omega
    generalize l[m + 1 + (d + 1)] = v at hv
    generalize l[m + 1 + d] = q at hq
    have hg : cur[m + 1 + (d + 1)]? = some v := by have := hd.get hv; rwa [show m + 2 + d = m + 1 + (d + 1) by omega] at this
    have hg' : cur[m + 1 + d]? = some q := by have := hd.get' hq; rwa [show m + 2 + d - 1 = m + 1 + d by omega] at this
    have c1 : (0 : Int) ≤ (d : Int) + 1 := by omega
    have c2 : (d : Int) < ((l.length - (m + 1) : Nat) : Int) := by omega
    simp [h3, c1, c2, w0, hg, hg']
    rw [qjt]
    refine ⟨by decide +kernel, ?_⟩
    have hic : i < cur.length := by omega
    refine sBI (fun h4 => ?_) (fun h4 => ?_) <;> simp only [h4] <;> simp [h3, c1, c2, hg, hg', hic] <;> (try simp only [nT, nF, dT, dF] at h4)
    ·refine hB _ ⟨(d + 1, i + 1, cur.set i v), by exact hd.keep hv hq (fun e => h4 e.symm)⟩ [] ?_ (by simp; omega)
     constructor <;> simp [w1, w2, List.map_set]
    ·rw [← h4] at hq
     refine hB _ ⟨(d + 1, i, cur), by exact hd.same hv hq⟩ [] ?_ (by simp; omega)
     constructor <;> simp [w1]
   ·have hj : m + 2 + d = l.length := by omega
    simp only at hd
    rw [hj] at hd
    have e : cur.take i = zep l := hd.done
    have e2 : List.take i (List.map keyC cur) = List.map keyC (zep l) := by rw [← List.map_take, e]
    have e3 : (zep l).length = i := by rw [← e, List.length_take]; omega
    refine ⟨by omega, by omega, by omega, ?_⟩
    rw [e2]
    exact ⟨[], by constructor <;> simp [nmF, inB, e3, List.take_append, show i ≤ i + (l.length - i + (l.length - (i + (l.length - i)))) from by omega]⟩
  ·rw [if_neg (fun e => h2 e.symm)] at hs
   refine hB _ ⟨m + 1, by omega, by rw [hs, hi, List.take_add_one (i := m + 1), hv]; rfl⟩ [] ?_ (by simp; omega)
   constructor <;> simp [w1]
 ·have e : zep l = l := by
   have hl2 : m + 1 = l.length := by omega
   rw [hl2, List.take_length] at hi; exact hi
  exact ⟨[], by constructor <;> simp [nmF, inB, e]⟩
end Go.Proofs.YtmhfcgpmmghakaaGreatDoor
namespace Go.Proofs.YtmhfcgpmmghakaaGreatDoor
open Go.AI Go.G Go.Sort Go.Proofs Go.RowKit Go.Shelf Tryz
set_option maxRecDepth 20000
def keyV (k : Key) : List Value := [.int .i64 k.kind, .string k.name]
instance keyInh : Inhabited Key := ⟨⟨0, .empty⟩⟩
theorem zw0 (l : List Key) (hl : l.length < 4611686018427387904) : Ct prog 241 [.own 0, .d (fnD 236)] [] [(0, .grow 2 (l.map keyC) 203)] (.d (.v (.tuple #[]))) [(0, .grow 2 ((zi4 l).map keyC) 203)] :=
 Ct.sort (enc := keyV) (k := 2) (cf := cmpK) (sortL := zi4) (by decide) (fun _ => rfl) (fun x v hv => by simp [keyV] at hv; rcases hv with rfl | rfl <;> rfl) zdt
  (fun p cap fv w => AnyF.slices_SortFunc_none { Tryz.sortKeys with } p cap fv w)
  (fun blk off cap d w hc hH hb hs => AnyQ.slices_SortFunc_total Tryz.sortKeys 2 (fun w => by kernel_rfl) (fun w => by kernel_rfl) keyV (fun _ => rfl) (fun x v hv => by simp [keyV] at hv; rcases hv with rfl | rfl <;> rfl) cmpK swoK 236 #[] blk off cap d w call236 hc hH hb hs (fun x y h1 h2 => qmr h1 h2))
  (fun a b => qe9 a b) hl
end Go.Proofs.YtmhfcgpmmghakaaGreatDoor
namespace Go.Proofs.YtmhfcgpmmghakaaGreatDoor
open Go.AI Go.G Tryz
set_option maxRecDepth 20000
attribute [simp] ntmps240 results240 ntmps320 results320
theorem zw9 (r : Res) : Ct prog 240 [st (resC r)] [] [] (lst ((za6 r).map keyC)) [] := by
 refine Ct.B func240 mixed 99 400 ?_
 simp
 refine CI.p (zk3 r) call206 99 ?_
 simp
 refine sBI (fun h1 => ?_) (fun h1 => ?_) <;> simp only [h1] <;> simp <;> (try simp only [nT, nF, dT, dF] at h1)
 ·first | exact fin0 (by simp [za6, h1]) rfl | exact zac (by simp [za6, h1])
 obtain ⟨hk0, hn, hs, hsh, hnm, hsg⟩ := ze9 h1
 have hk := rng_yes.1 hk0
 have hb := zk0 hs
 have hwk := zaa (n := r.kind + 1) (by omega) (by omega)
 refine sBI (fun h2 => ?_) (fun h2 => ?_) <;> simp only [h2] <;> simp <;> (try simp only [nT, nF, dT, dF] at h2)
 ·have hto : ¬ bs r.to = [] := fun e => h2 (zpm e)
  have hr0 := qfy hsh hto
  have h0 : outP r 0 = [⟨r.kind + 1, r.to⟩] := by rw [zsu, if_neg hto]
  have e := zsv h1
  rw [hr0] at e
  simp only [List.length_nil, h0] at e
  simp [hr0, hwk]
  refine LoopI.unroll mixed (Plain.retC _ _ _ _ _) rfl ?_
  refine CI.run 99 400 rfl ?_
  simp
  refine CI.cc [1152] (zw0 [⟨r.kind + 1, r.to⟩] (by simp)) call241 99 ?_
  simp
  refine CI.cc [1152] (zj1 (zi4 [⟨r.kind + 1, r.to⟩]) (by rw [zdt]; simp)) call242 99 ?_
  simp
  rw [e]
  exact fin0 (by simp) rfl
 ·have hto : bs r.to = [] := by
   have : r.to = ⟨#[]⟩ := by simpa using h2
   rw [this]; rfl
  have h0 : outP r 0 = [] := by rw [zsu, if_pos hto]
  refine LoopI.nilOwn 3 2 203 rfl ?_
  refine LoopI.U mixed (r.rules) (fun k => [(1, .ptr 64 0), (3, .own 65), (24, lst (r.rules.map zaz)), (25, int r.rules.length), (26, int k.1)]) (fun k => [(64, .cells ((resC r).map .d) 109), (65, .grow 2 ((outP r k.1).map keyC) 203)]) 66 [] (by constructor <;> simp [h0]) ?_
  rintro ⟨k, hk1⟩ B hB
  refine CI.run 99 400 rfl ?_
  simp [h0]
  refine sBI (fun h => ?_) (fun h => ?_)
  ·have hk : k < (r.rules).length := by simpa using h
   obtain ⟨x, hx, hr, hm, ht, hd⟩ := inL hk
   have hw := wr (k := k) (by omega)
   simp only [h]
   simp [hr, hw]
   have h7 := hb.2.2 x hm
   refine LoopI.U mixed (x.split) (fun kj => [(1, .ptr 64 0), (3, .own 65), (24, lst (r.rules.map zaz)), (25, int r.rules.length), (26, int k), (31, lst (x.split.map wC)), (32, int x.split.length), (33, int kj.1)]) (fun kj => [(64, .cells ((resC r).map .d) 109), (65, .grow 2 ((outP r k ++ ((x.split.take kj.1).filter fun w => decide (0 < w.w)).map toKey).map keyC) 203)]) 66 [] (by constructor <;> simp [hr]) ?_
   rintro ⟨kj, hk1j⟩ Bj hBj
   refine CI.run 99 400 rfl ?_
   simp [hr]
   refine sBI (fun hj => ?_) (fun hj => ?_)
   ·have hkj : kj < (x.split).length := by simpa using hj
    obtain ⟨w, hxj, hrj, hmj, htj, hdj⟩ := inL hkj
    have hwj := wr (k := kj) (by omega)
    simp only [hj]
    simp [hrj, hwj, hr]
    have hlen := zxg k hb.1 hb.2.2
    have h8 : ((x.split.take kj).filter fun w => decide (0 < w.w)).length ≤ 4 := Nat.le_trans (List.length_filter_le _ _) (Nat.le_trans (by simp; omega) h7)
    refine sBI (fun h4 => ?_) (fun h4 => ?_) <;> simp only [h4] <;> simp [hr, hrj] <;> (try simp only [nT, nF, dT, dF] at h4)
    ·refine ⟨by omega, ?_⟩
     refine hBj _ ⟨kj + 1, by omega⟩ [] ?_ (by simp; omega)
     constructor <;> simp [hwj, htj, List.filter_append, h4, hwj]
    ·refine hBj _ ⟨kj + 1, by omega⟩ [] ?_ (by simp; omega)
     constructor <;> simp [hwj, htj, List.filter_append, h4, hwj]
   ·have hklj : kj = (x.split).length := by simp at hj; omega
    subst hklj
    simp only [hj]
    simp [List.take_length, List.drop_length, hw]
    refine hB _ ⟨k + 1, by omega⟩ [] ?_ (by simp; omega)
    constructor <;> simp [hw, ht, qc2 ht, List.map_append]
  ·have hkl : k = (r.rules).length := by simp at h; omega
   subst hkl
   simp only [h]
   simp [List.take_length, List.drop_length]
   have hlen := zxg r.rules.length hb.1 hb.2.2
   refine CI.cc [65] (zw0 (outP r r.rules.length) (by omega)) call241 99 ?_
   simp
   refine CI.cc [65] (zj1 (zi4 (outP r r.rules.length)) (by rw [zdt]; omega)) call242 99 ?_
   simp
   rw [zsv h1]
   exact fin0 (by simp) rfl
theorem qgp (l : List Res) (k_ : Key) (hl : l.length ≤ 1000000) : Ct prog 320 [lst (l.map resC), st (keyC k_)] [] [] (lst ((zki l k_).map keyC)) [] := by
 refine Ct.B func320 mixed 99 400 ?_
 simp
 refine LoopI.nilOwn 5 2 203 rfl ?_
 refine LoopI.U mixed (l) (fun k => [(3, .ptr 64 0), (5, .own 65), (8, lst (l.map resC)), (9, int l.length), (10, int k.1)]) (fun k => [(64, .cells ((keyC k_).map .d) 203), (65, .grow 2 ((zki (l.take k.1) k_).map keyC) 203)]) 66 [] (by constructor <;> simp) ?_
 rintro ⟨k, hk1⟩ B hB
 refine CI.run 99 400 rfl ?_
 simp
 refine sBI (fun h => ?_) (fun h => ?_)
 ·have hk : k < (l).length := by simpa using h
  obtain ⟨x, hx, hr, hm, ht, hd⟩ := inL hk
  have hw := wr (k := k) (by omega)
  simp only [h]
  simp [hr, hw]
  have hlen : ((l.take k).filter fun r => decide (k_ ∈ za6 r)).length ≤ 1000000 := Nat.le_trans (List.length_filter_le _ _) (by simp; omega)
  refine CI.p (zw9 x) call240 99 ?_
  simp
  refine CI.p (qju (za6 x) k_ (qlr x)) call319 99 ?_
  simp
  refine ⟨by decide +kernel, ?_⟩
  refine sBI (fun h1 => ?_) (fun h1 => ?_) <;> simp only [h1] <;> simp [hr]
  ·refine CI.p (zeo x) call103 99 ?_
   simp
   refine ⟨by omega, ?_⟩
   refine hB _ ⟨k + 1, by omega⟩ [] ?_ (by simp; omega)
   constructor <;> simp [hw, ht, List.filter_append, h1]
  ·refine hB _ ⟨k + 1, by omega⟩ [] ?_ (by simp; omega)
   constructor <;> simp [hw, ht, List.filter_append, h1]
 ·have hkl : k = (l).length := by simp at h; omega
  subst hkl
  simp only [h]
  simp [List.take_length, List.drop_length]
  exact fin0 (by simp) rfl
end Go.Proofs.YtmhfcgpmmghakaaGreatDoor
namespace Go.Proofs.YtmhfcgpmmghakaaGreatDoor
open Go.AI Go.G Tryz
set_option maxRecDepth 20000
attribute [simp] ntmps115 results115 ntmps289 results289 ntmps213 results213 ntmps212 results212 ntmps143 results143
theorem qje (v : View) (f : G.Frame) : Ct prog 115 [st (zrs v), st (zaj f)] [] [] (st (zrs (zll v f))) [] := by
 refine Ct.B func115 mixed 99 400 ?_
 simp
 exact fin0 (by simp [zll]) rfl
theorem of_p (f : G.Frame) : Ct prog 289 [st (zaj f)] [] [] (.agg [int f.epoch, int f.kind, int f.nonce]) [] := by
 refine Ct.B func289 mixed 99 400 ?_
 simp
 exact fin0 (by simp) rfl
theorem zwa (v : View) (t : Int) (h : List Key) : Ct prog 213 [st (zrs v), int t, lst (h.map keyC)] [] [] (st (zrs (zdc v t h))) [] := by
 refine Ct.B func213 mixed 99 400 ?_
 simp
 refine sBI (fun h1 => ?_) (fun h1 => ?_) <;> simp only [h1] <;> simp <;> (try simp only [nT, nF, dT, dF] at h1)
 ·first | exact fin0 (by simp [zdc, h1]) rfl | exact zac (by simp [zdc, h1])
 ·first | exact fin0 (by simp [zdc, h1]) rfl | exact zac (by simp [zdc, h1])
theorem qas (v : View) (f : G.Frame) (hl : v.have_.length + v.push.adds.length ≤ 1000000) (hg : v.push.gone.length ≤ 9223372036854775807) : Ct prog 212 [st (zrs v), st (zaj f)] [] [] (.tup [st (zrs (ansV v f)), int (ansE v f)]) [] := by
 refine Ct.B func212 mixed 99 400 ?_
 simp
 refine sBI (fun h1 => ?_) (fun h1 => ?_) <;> simp only [h1] <;> simp
 ·have h1' : v.open_ = false := by simpa using h1
  exact fin0 (by simp [ansV, ansE, h1']) rfl
 have h1' : v.open_ = true := by simpa using h1
 refine sGI (fun h2 => ?_) (fun h2 => ?_) <;> simp only [h2] <;> simp <;> (try simp only [nT, nF, dT, dF] at h2)
 ·refine ⟨by decide +kernel, ?_⟩
  first | exact fin0 (by simp [ansV, ansE, fitF, h1', h2]) rfl | exact zac (by simp [ansV, ansE, fitF, h1', h2])
 refine CI.p (of_p f) call289 99 ?_
 simp
 refine CI.p (of_p v.push) call289 99 ?_
 simp
 refine ⟨by decide +kernel, ?_⟩
 rw [qh5 h2]
 refine sBI (fun h3 => ?_) (fun h3 => ?_) <;> simp only [h3] <;> simp
 ·have h3' : fitF v f = false := by simpa using h3
  exact fin0 (by simp [ansV, ansE, h1', h3']) rfl
 have h3' : fitF v f = true := by simpa using h3
 rw [zuq h1' h3']
 refine sBI (fun h4 => ?_) (fun h4 => ?_) <;> simp only [h4] <;> simp <;> (try simp only [nT, nF, dT, dF] at h4)
 ·refine CI.p (zqc v.have_ v.push.adds v.push.gone hl hg) call110 99 ?_
  simp
  refine CI.p (zwa ⟨za3 v.have_ v.push.adds v.push.gone, v.held, v.turn, zFrame, false⟩ f.turn f.held) call213 99 ?_ (ha := by simp [zFrame])
  simp [zFrame]
  refine ⟨by decide +kernel, ?_⟩
  exact fin0 (by simp [ansE, h1', h3', h4, zFrame]) rfl
 ·refine CI.p (zwa ⟨v.have_, v.held, v.turn, zFrame, false⟩ f.turn f.held) call213 99 ?_ (ha := by simp [zFrame])
  simp [zFrame]
  refine ⟨by decide +kernel, ?_⟩
  exact fin0 (by simp [ansE, h1', h3', h4, zFrame]) rfl
theorem qdv (l : List Res) (hl : l.length ≤ 1000000) : Ct prog 143 [lst (l.map resC)] [] [] (lst ((zf7 l).map zdu)) [] := by
 refine Ct.B func143 mixed 99 400 ?_
 simp
 refine LoopI.nilOwn 3 3 291 rfl ?_
 refine LoopI.U mixed (l) (fun k => [(3, .own 64), (6, lst (l.map resC)), (7, int l.length), (8, int k.1)]) (fun k => [(64, .grow 3 ((zf7 (l.take k.1)).map zdu) 291)]) 65 [] (by constructor <;> simp) ?_
 rintro ⟨k, hk1⟩ B hB
 refine CI.run 99 400 rfl ?_
 simp
 refine sBI (fun h => ?_) (fun h => ?_)
 ·have hk : k < (l).length := by simpa using h
  obtain ⟨x, hx, hr, hm, ht, hd⟩ := inL hk
  have hw := wr (k := k) (by omega)
  simp only [h]
  simp [hr, hw]
  refine CI.p (zeo x) call103 99 ?_
  simp
  refine ⟨by omega, ?_⟩
  refine ⟨by decide +kernel, ?_⟩
  refine hB _ ⟨k + 1, by omega⟩ [] ?_ (by simp; omega)
  constructor <;> simp [hw, ht, zql]
 ·have hkl : k = (l).length := by simp at h; omega
  subst hkl
  simp only [h]
  simp [List.take_length, List.drop_length]
  exact fin0 (by simp) rfl
end Go.Proofs.YtmhfcgpmmghakaaGreatDoor
namespace Go.Proofs.YtmhfcgpmmghakaaGreatDoor
open Go.AI Go.G Tryz
set_option maxRecDepth 20000
def awC : Res := ⟨2, ⟨#[99]⟩, 0, 0, ⟨#[101]⟩, [], []⟩
def awZ : View := ⟨[], [], 0, zFrame, false⟩
def awF : G.Frame := ⟨1, 3, 2, 1, 0, [awC], [], 0, [], []⟩
def awA : G.Frame := ⟨2, 3, 2, 1, 0, [], [], 0, [], []⟩
theorem aw2 : ansE (zll awZ awF) awA = 0 := by decide +kernel
end Go.Proofs.YtmhfcgpmmghakaaGreatDoor
namespace Go.Proofs.YtmhfcgpmmghakaaGreatDoor
open Go.ChangeShapes Go.WideShapes Go.ChangeAt Go.RowKit Go.AI Go.G
set_option maxRecDepth 20000
theorem ownT : ownKnob Tryz.prog.godebug = none := by kernel_rfl
theorem qhq : laidOutB Tryz.prog = true := by kernel_rfl
theorem ze6 : shT Tryz.prog 3 = .int .i64 := by kernel_rfl
theorem zk1 : shT Tryz.prog 9 = .str := by kernel_rfl
theorem qld : shT Tryz.prog 46 = .sl 3 := by kernel_rfl
theorem qo1 : shT Tryz.prog 203 = .st [3, 9] := by kernel_rfl
theorem qlc : shT Tryz.prog 23 = .sl 203 := by kernel_rfl
theorem sh_w : shT Tryz.prog 111 = .st [9, 3] := by kernel_rfl
theorem qrs : shT Tryz.prog 112 = .sl 111 := by kernel_rfl
theorem qla : shT Tryz.prog 114 = .st [9, 9, 112] := by kernel_rfl
theorem qgd : shT Tryz.prog 107 = .sl 114 := by kernel_rfl
theorem qo0 : shT Tryz.prog 109 = .st [3, 9, 3, 3, 9, 107, 46] := by kernel_rfl
theorem qlb : shT Tryz.prog 22 = .sl 109 := by kernel_rfl
variable {n : Nat} {ds : List D}
theorem zz0 {s : ByteArray} (h : s.size ≤ maxLen) : nB s := by
 have := zay s
 have e : maxLen = 9223372036854775807 := rfl
 unfold G.nB; omega
theorem ztt {α : Type} {l : List α} {f : α → List D} (h : (l.map f).length ≤ maxLen) : l.length ≤ 9223372036854775807 := by
 have e : maxLen = 9223372036854775807 := rfl
 rw [List.length_map] at h; omega
theorem qqj (h : Is Tryz.prog (n + 2) 203 ds) : ∃ k : Key, nB k.name ∧ ds = keyC k := by
 obtain ⟨_, _, h1, g1, rfl⟩ := zao (zzz qo1 h)
 obtain ⟨_, _, h2, g2, rfl⟩ := zao g1
 obtain rfl := zko g2
 obtain ⟨a, _, rfl⟩ := zfh ze6 h1
 obtain ⟨b, hb, rfl⟩ := zle zk1 h2
 exact ⟨⟨a, b⟩, zz0 hb, rfl⟩
theorem is_w (h : Is Tryz.prog (n + 2) 111 ds) : ∃ k : Weight, nB k.cluster ∧ ds = wC k := by
 obtain ⟨_, _, h1, g1, rfl⟩ := zao (zzz sh_w h)
 obtain ⟨_, _, h2, g2, rfl⟩ := zao g1
 obtain rfl := zko g2
 obtain ⟨a, ha, rfl⟩ := zle zk1 h1
 obtain ⟨b, _, rfl⟩ := zfh ze6 h2
 exact ⟨⟨a, b⟩, zz0 ha, rfl⟩
theorem qm2 (h : Is Tryz.prog (n + 4) 114 ds) : ∃ x : Rule, x.split.length ≤ 9223372036854775807 ∧ ds = zaz x := by
 obtain ⟨_, _, h1, g1, rfl⟩ := zao (zzz qla h)
 obtain ⟨_, _, h2, g2, rfl⟩ := zao g1
 obtain ⟨_, _, h3, g3, rfl⟩ := zao g2
 obtain rfl := zko g3
 obtain ⟨a, ha, rfl⟩ := zle zk1 h1
 obtain ⟨b, hb, rfl⟩ := zle zk1 h2
 obtain ⟨es, he, h4, rfl⟩ := qd9 qrs h3
 obtain ⟨l, _, rfl⟩ := zkn (fun c => is_w) h4
 exact ⟨⟨a, b, l⟩, ztt he, rfl⟩
theorem qea (h : Is Tryz.prog (n + 1) 3 ds) : ∃ x : Int, True ∧ ds = intC x := by
 obtain ⟨a, _, rfl⟩ := zfh ze6 h
 exact ⟨a, trivial, rfl⟩
theorem qqi (h : Is Tryz.prog (n + 6) 109 ds) : ∃ r : Res, OkRes r ∧ ds = resC r := by
 obtain ⟨_, _, h1, g1, rfl⟩ := zao (zzz qo0 h)
 obtain ⟨_, _, h2, g2, rfl⟩ := zao g1
 obtain ⟨_, _, h3, g3, rfl⟩ := zao g2
 obtain ⟨_, _, h4, g4, rfl⟩ := zao g3
 obtain ⟨_, _, h5, g5, rfl⟩ := zao g4
 obtain ⟨_, _, h6, g6, rfl⟩ := zao g5
 obtain ⟨_, _, h7, g7, rfl⟩ := zao g6
 obtain rfl := zko g7
 obtain ⟨a, _, rfl⟩ := zfh ze6 h1
 obtain ⟨b, hb, rfl⟩ := zle zk1 h2
 obtain ⟨c, _, rfl⟩ := zfh ze6 h3
 obtain ⟨d, _, rfl⟩ := zfh ze6 h4
 obtain ⟨e, he, rfl⟩ := zle zk1 h5
 obtain ⟨es, hes, h8, rfl⟩ := qd9 qgd h6
 obtain ⟨l, hl, rfl⟩ := zkn (fun c => qm2) h8
 obtain ⟨fs, hfs, h9, rfl⟩ := qd9 qld h7
 obtain ⟨m, _, rfl⟩ := zkn (fun c => qea) h9
 exact ⟨⟨a, b, c, d, e, l, m⟩, ⟨zz0 hb, zz0 he, ztt hes, hl, ztt hfs⟩, rfl⟩
theorem qm3 (h : Is Tryz.prog (n + 7) 22 ds) : ∃ l : List Res, OkRs l ∧ ds = [lD (l.map resC)] := by
 obtain ⟨es, he, h1, rfl⟩ := qd9 qlb h
 obtain ⟨l, hl, rfl⟩ := zkn (fun c => qqi) h1
 exact ⟨l, ⟨ztt he, hl⟩, rfl⟩
theorem qm4 (h : Is Tryz.prog (n + 3) 23 ds) : ∃ l : List Key, (l.length ≤ 9223372036854775807 ∧ ∀ k ∈ l, nB k.name) ∧ ds = [lD (l.map keyC)] := by
 obtain ⟨es, he, h1, rfl⟩ := qd9 qlc h
 obtain ⟨l, hl, rfl⟩ := zkn (fun c => qqj) h1
 exact ⟨l, ⟨ztt he, hl⟩, rfl⟩
theorem is_i (h : Is Tryz.prog (n + 1) 3 ds) : ∃ x : Int, True ∧ ds = [iD x] := qea h
end Go.Proofs.YtmhfcgpmmghakaaGreatDoor
namespace Go.Proofs.YtmhfcgpmmghakaaGreatDoor
open Go.ChangeShapes Go.WideShapes Go.ChangeAt Go.RowKit Go.AI Go.G
set_option maxRecDepth 20000
variable {n : Nat} {ds : List D}
theorem qro : aggT Tryz.prog 3 = false := by kernel_rfl
end Go.Proofs.YtmhfcgpmmghakaaGreatDoor
namespace Go.Proofs.YtmhfcgpmmghakaaGreatDoor
open Go.AI Go.G Tryz
set_option maxRecDepth 20000
attribute [simp] ntmps239 results239 ntmps165 results165 ntmps307 results307 ntmps238 results238
theorem qmd (l : List Res) (hl : l.length ≤ 1000000) : Ct prog 239 [lst (l.map resC)] [] [] (.d (.mp true [.int, .str] false (zei (l.map Res.key)))) [] := by
 refine Ct.B func239 mixed 99 400 ?_
 simp
 refine LoopI.U mixed (l) (fun k => [(3, .own 64), (7, lst (l.map resC)), (8, int l.length), (9, int k.1)]) (fun k => [(64, .map true [.int, .str] false (zei ((l.take k.1).map Res.key)))]) 65 [] (by constructor <;> simp [zfe]) ?_
 rintro ⟨k, hk1⟩ B hB
 refine CI.run 99 400 rfl ?_
 simp [zfe]
 refine sBI (fun h => ?_) (fun h => ?_)
 ·have hk : k < (l).length := by simpa using h
  obtain ⟨x, hx, hr, hm, ht, hd⟩ := inL hk
  have hw := wr (k := k) (by omega)
  simp only [h]
  simp [hr, hw]
  refine CI.p (zeo x) call103 99 ?_
  simp
  refine hB _ ⟨k + 1, by omega⟩ [] ?_ (by simp; omega)
  constructor <;> simp [hw, ht]
 ·have hkl : k = (l).length := by simp at h; omega
  subst hkl
  simp only [h]
  simp [List.take_length, List.drop_length]
  exact fin0 (by simp) rfl
theorem qdr (l : List Res) (hl : l.length ≤ 30000) : Ct prog 165 [lst (l.map resC)] [] [] (lst ((zvq l).map keyC)) [] := by
 refine Ct.B func165 mixed 99 400 ?_
 simp
 refine CI.p (qmd l (by omega)) call239 99 ?_
 simp
 refine LoopI.nilOwn 4 2 203 rfl ?_
 refine LoopI.U mixed (l) (fun k => [(3, .d (.mp true [.int, .str] false (zei (l.map Res.key)))), (4, .own 64), (11, lst (l.map resC)), (12, int l.length), (13, int k.1)]) (fun k => [(64, .grow 2 ((zlq (l.take k.1) l).map keyC) 203)]) 65 [] (by constructor <;> simp) ?_
 rintro ⟨k, hk1⟩ B hB
 refine CI.run 99 400 rfl ?_
 simp
 refine sBI (fun h => ?_) (fun h => ?_)
 ·have hk : k < (l).length := by simpa using h
  obtain ⟨x, hx, hr, hm, ht, hd⟩ := inL hk
  have hw := wr (k := k) (by omega)
  simp only [h]
  simp [hr, hw]
  have hml := zjh (l.take k) l
  have hr33 := zfa x
  have htk : (l.take k).length ≤ 30000 := by simp; omega
  refine CI.p (zw9 x) call240 99 ?_
  simp
  refine LoopI.U mixed ((za6 x)) (fun kj => [(3, .d (.mp true [.int, .str] false (zei (l.map Res.key)))), (4, .own 64), (11, lst (l.map resC)), (12, int l.length), (13, int k), (18, lst ((za6 x).map keyC)), (19, int (za6 x).length), (20, int kj.1)]) (fun kj => [(64, .grow 2 ((zlq (l.take k) l ++ ((za6 x).take kj.1).filter (noR l)).map keyC) 203)]) 65 [] (by constructor <;> simp) ?_
  rintro ⟨kj, hk1j⟩ Bj hBj
  refine CI.run 99 400 rfl ?_
  simp
  refine sBI (fun hj => ?_) (fun hj => ?_)
  ·have hkj : kj < ((za6 x)).length := by simpa using hj
   obtain ⟨q, hxj, hrj, hmj, htj, hdj⟩ := inL hkj
   have hwj := wr (k := kj) (by omega)
   simp only [hj]
   simp [hrj, hwj]
   have hfl : (((za6 x).take kj).filter (noR l)).length ≤ 33 := Nat.le_trans (List.length_filter_le _ _) (by simp; omega)
   by_cases h1 : q ∈ l.map Res.key
   ·have hL := zir h1
    have h1' : noR l q = false := by simp [noR, mem_keys.1 h1]
    simp [hL]
    refine hBj _ ⟨kj + 1, by omega⟩ [] ?_ (by simp; omega)
    constructor <;> simp [hwj, htj, List.filter_append, h1', hwj]
   ·have hL := zhn h1
    have h1' : noR l q = true := by
     cases h : (getR l q).isSome
     ·simp [noR, h]
     ·exact absurd (mem_keys.2 h) h1
    simp [hL, hrj]
    refine ⟨by omega, ?_⟩
    refine hBj _ ⟨kj + 1, by omega⟩ [] ?_ (by simp; omega)
    constructor <;> simp [hwj, htj, List.filter_append, h1', hwj]
  ·have hklj : kj = ((za6 x)).length := by simp at hj; omega
   subst hklj
   simp only [hj]
   simp [List.take_length, List.drop_length, hw]
   refine hB _ ⟨k + 1, by omega⟩ [] ?_ (by simp; omega)
   constructor <;> simp [hw, ht, zzt]
 ·have hkl : k = (l).length := by simp at h; omega
  subst hkl
  simp only [h]
  simp [List.take_length, List.drop_length]
  have hml := zjh l l
  refine CI.cc [64] (zw0 (zlq l l) (by omega)) call241 99 ?_
  simp
  refine CI.cc [64] (zj1 (zi4 (zlq l l)) (by rw [zdt]; omega)) call242 99 ?_
  simp
  rw [zzs]
  exact fin0 (by simp) rfl
theorem qqg (r : Res) (n : Int) : Ct prog 307 [st (resC r), .d (.pro [iD n])] [] [] (bool (decide (r.kind = n))) [] := by
 refine Ct.B func307 mixed 99 400 ?_
 simp
 exact fin0 (by simp) rfl
theorem qjr (l : List Res) (n : Int) (hl : l.length ≤ 1000000) : Ct prog 238 [lst (l.map resC), int n] [] [] (lst ((l.filter fun r => decide (r.kind = n)).map resC)) [] := by
 refine Ct.B func238 mixed 1 400 ?_
 simp
 refine CI.s (tm := [(0, lst (l.map resC)), (3, .d (.pro [iD n]))]) (mm := []) (nx := 65) [] [64] (by constructor <;> simp) ?_
 refine CI.run 99 400 rfl ?_
 simp
 refine CI.p (zq5 l (.fn (.func 307) [] [.pro [iD n]]) (fun r => decide (r.kind = n)) (fun r hr => FnOk.clo (by exact qqg r n) call307 rfl rfl) hl) call234 99 ?_
 simp
 exact fin0 (by simp) rfl
end Go.Proofs.YtmhfcgpmmghakaaGreatDoor
namespace Go.Proofs.YtmhfcgpmmghakaaGreatDoor
open Go.AI Go.G Tryz
set_option maxRecDepth 20000
attribute [simp] ntmps164 results164
theorem zmg (l : List Res) : Ct prog 164 [lst (l.map resC)] [] [] (int (tabE l)) [] := by
 refine Ct.B func164 mixed 99 400 ?_
 simp
 refine sBI (fun h0 => ?_) (fun h0 => ?_) <;> simp only [h0] <;> simp <;> (try simp only [nT, nF, dT, dF] at h0)
 ·have e : tabE l = 3 := by simp only [tabE]; rw [if_pos (by omega)]
  exact fin0 (by simp [e]) rfl
 have h64 : ¬ 64 < l.length := by omega
 have hl : l.length ≤ 64 := by omega
 refine LoopI.inv mixed rfl (ι := {k : Nat // k ≤ (l).length ∧ (l.take k).all (fun r => decide (zaw r = 0)) = true}) (fun k => [(0, lst (l.map resC)), (13, lst (l.map resC)), (14, int l.length), (15, int k.1)]) (fun k => []) 64 (fun k => (l).length - k.1) ⟨0, by omega, by simp⟩ [] (by constructor <;> simp) ?_
 rintro ⟨k, hk1, hi⟩ B hB
 refine CI.run 99 400 rfl ?_
 simp
 refine sBI (fun h => ?_) (fun h => ?_)
 ·have hk : k < (l).length := by simpa using h
  obtain ⟨x, hx, hr, hm, ht, hd⟩ := inL hk
  have hw := wr (k := k) (by omega)
  simp only [h]
  simp [hr, hw]
  refine CI.p (zk3 x) call206 99 ?_
  simp
  refine sBI (fun h1 => ?_) (fun h1 => ?_) <;> simp only [h1] <;> simp <;> (try simp only [nT, nF, dT, dF] at h1)
  ·have e : tabE l = zaw x := by rw [← zq3 hi hr h1]; exact qbc h64 (by rw [zq3 hi hr h1]; exact h1)
   exact fin0 (by simp [e]) rfl
  ·refine hB _ ⟨k + 1, by omega, by simp [ht, hi, h1]⟩ [] ?_ (by simp; omega)
   constructor <;> simp [hw, ht, h1]
 ·have hkl : k = (l).length := by simp at h; omega
  subst hkl
  simp only [h]
  simp [List.take_length, List.drop_length]
  rw [List.take_length] at hi
  have hf := zpf hi
  clear hi hB
  refine LoopI.inv mixed rfl (ι := {k : Nat // k ≤ (l).length ∧ AscR (l.take k)}) (fun k => [(0, lst (l.map resC)), (25, lst (l.map resC)), (26, int l.length), (27, int k.1)]) (fun k => []) 64 (fun k => (l).length - k.1) ⟨0, by omega, by simp⟩ [] (by constructor <;> simp) ?_
  rintro ⟨k, hk1, hi⟩ B hB
  refine CI.run 99 400 rfl ?_
  simp
  refine sBI (fun h => ?_) (fun h => ?_)
  ·have hk : k < (l).length := by simpa using h
   obtain ⟨x, hx, hr, hm, ht, hd⟩ := inL hk
   have hw := wr (k := k) (by omega)
   simp only [h]
   simp [hr, hw]
   cases k with
   | zero =>
     simp
     refine ⟨by decide +kernel, ?_⟩
     refine hB _ ⟨0 + 1, by omega, by rw [ht]; simp [AscR, Asc]⟩ [] ?_ (by simp; omega)
     constructor <;> simp [hw]
   | succ m =>
     have hk' : m < l.length := by omega
     have hy : l[m]? = some l[m] := List.getElem?_eq_getElem hk'
     generalize l[m] = y at hy
     have w0 : IntKind.wrap .i64 (m : Int) = m := zaa (by omega) (by omega)
     have w1 := zaa (n := (m : Int) + 1 + 1) (by omega) (by omega)
     have c0 : (0 : Int) < (m : Int) + 1 := by omega
     have c1 : (0 : Int) ≤ (m : Int) + 1 := by omega
     have c2 : (m : Int) < l.length := by omega
     simp [c0, w0, c2, hy]
     have c3 : (m : Int) + 1 < l.length := by omega
     refine CI.p (zeo y) call103 99 ?_ (ha := by simp [c1, c3, hr])
     simp [c1, c3, hr]
     refine CI.p (zeo x) call103 99 ?_
     simp
     refine CI.p (qe9 y.key x.key) call236 99 ?_
     simp
     refine ⟨by decide +kernel, ?_⟩
     refine sBI (fun h3 => ?_) (fun h3 => ?_) <;> simp only [h3] <;> simp [hr, hy] <;> (try simp only [nT, nF, dT, dF] at h3)
     ·have e : tabE l = 2 := qbd h64 hf (fun ha => by have := qrh ha hy hr; omega)
      exact fin0 (by simp [e]) rfl
     ·have h4 : cmpK y.key x.key = -1 := by have := zdo y.key x.key; omega
      refine hB _ ⟨m + 1 + 1, by omega, by rw [ht]; exact qiw _ _ hi (fun z hz => by rw [zto hy] at hz; cases hz; exact h4)⟩ [] ?_ (by simp; omega)
      constructor <;> simp [w1]
  ·have hkl : k = (l).length := by simp at h; omega
   subst hkl
   simp only [h]
   simp [List.take_length, List.drop_length]
   rw [List.take_length] at hi
   clear hB
   refine CI.p (qjr l 0 (by omega)) call238 99 ?_
   simp
   have hKl : (l.filter fun r => decide (r.kind = 0)).length ≤ 64 := Nat.le_trans (List.length_filter_le _ _) hl
   have hports : qcu l = (l.filter fun r => decide (r.kind = 0)).map Res.port := rfl
   generalize (l.filter fun r => decide (r.kind = 0)) = K at hKl hports
   refine LoopI.inv mixed rfl (ι := {k : Nat // k ≤ (K).length ∧ ((K.take k).map Res.port).Nodup}) (fun k => [(7, .own 64), (50, lst (K.map resC)), (51, int K.length), (52, int k.1)]) (fun k => [(64, .map false [.int] false (zis ((K.take k.1).map Res.port)))]) 65 (fun k => (K).length - k.1) ⟨0, by omega, by simp⟩ [] (by constructor <;> simp [zg1]) ?_
   rintro ⟨k, hk1, hi⟩ B hB
   refine CI.run 99 400 rfl ?_
   simp [zg1]
   refine sBI (fun h => ?_) (fun h => ?_)
   ·have hk : k < (K).length := by simpa using h
    obtain ⟨x, hx, hr, hm, ht, hd⟩ := inL hk
    have hw := wr (k := k) (by omega)
    simp only [h]
    simp [hr, hw]
    by_cases hP : x.port ∈ (K.take k).map Res.port
    ·have hL := qlz hP
     rw [List.map_take] at hL
     have e : tabE l = 13 := by
      rw [zop h64 hf ‹AscR l›, if_neg]
      rw [hports]
      intro hn
      have hs := hn.sublist ((List.take_sublist (k + 1) K).map Res.port)
      rw [ht, List.map_append, List.map_cons, List.map_nil, zo3] at hs
      exact hs.2 hP
     simp [hL]
     exact fin0 (by simp [e]) rfl
    ·have hL := qgs hP
     rw [List.map_take] at hL
     simp [hL]
     refine hB _ ⟨k + 1, by omega, by rw [ht, List.map_append, List.map_cons, List.map_nil, zo3]; exact ⟨hi, hP⟩⟩ [] ?_ (by simp; omega)
     constructor <;> simp [hw, ht]
   ·have hkl : k = (K).length := by simp at h; omega
    subst hkl
    simp only [h]
    simp [List.take_length, List.drop_length]
    rw [List.take_length] at hi
    have e : tabE l = 0 := by rw [zop h64 hf ‹AscR l›, hports, if_pos hi]
    exact fin0 (by simp [e]) rfl
end Go.Proofs.YtmhfcgpmmghakaaGreatDoor
namespace Go.Proofs.YtmhfcgpmmghakaaGreatDoor
open Go.AI Go.G Tryz
set_option maxRecDepth 20000
attribute [simp] ntmps46 results46 ntmps26 results26 ntmps70 results70 ntmps379 results379 ntmps346 results346 ntmps345 results345 ntmps288 results288 ntmps210 results210
theorem zuk (n : Int) : Ct prog 46 [int n] [] [] (int (capN n)) [] := by
 refine Ct.B func46 mixed 99 400 ?_
 simp
 have e := zyc n
 exact fin0 (by simp [e]) rfl
theorem qjn (n : Int) : Ct prog 26 [int n] [] [] (st (zbs (newS n))) [] := by
 refine Ct.B func26 mixed 99 400 ?_
 simp
 refine CI.p (zuk n) call46 99 ?_
 simp
 exact fin0 (by simp [newS]) rfl
theorem zu1 (s : Store) : Ct prog 70 [st (zbs s)] [] [] (st (zbs (zar s))) [] := by
 refine Ct.B func70 mixed 99 400 ?_
 simp
 refine CI.p (zuk s.cap) call46 99 ?_
 simp
 refine sBI (fun h1 => ?_) (fun h1 => ?_) <;> simp only [h1] <;> simp <;> (try simp only [nT, nF, dT, dF] at h1)
 ·have h0 : s.hist = [] := by first | exact h1 | exact List.eq_nil_of_length_eq_zero (by omega)
  refine CI.p (qjn (capN s.cap)) call26 99 ?_
  simp
  rw [qa7 h0]
  exact fin0 (by simp [newS, znw]) rfl
 ·have h0 : ¬ s.hist = [] := by first | exact h1 | exact fun e => h1 (by rw [e]; rfl)
  rw [zon h0]
  exact fin0 (by simp) rfl
theorem at_p (s : Store) (i : Int) : Ct prog 379 [st (zbs s), int i] [] [] (atA s i) [] := by
 refine Ct.B func379 mixed 99 400 ?_
 simp
 refine CI.p (zu1 s) call70 99 ?_
 simp
 refine sGI (fun h1 => ?_) (fun h1 => ?_) <;> simp only [h1] <;> simp <;> (try simp only [nT, nF, dT, dF] at h1)
 ·have e := qrd (s := s) h1
  exact fin0 (by simp [e]) rfl
 refine sBI (fun h2 => ?_) (fun h2 => ?_) <;> simp only [h2] <;> simp <;> (try simp only [nT, nF, dT, dF] at h2)
 ·have e := qrg (s := s) (i := i) (by omega)
  exact fin0 (by simp [e]) rfl
 ·obtain ⟨l, ⟨hh, e3⟩, e1, e⟩ := qre (s := s) h1 (by omega)
  have c1 : 0 ≤ i := by omega
  have c2 : i < (zar s).hist.length := by omega
  simp [e1, c1, c2, e3]
  first | exact fin0 (by simp [e]) rfl | exact zac (by simp [e])
theorem qqy (s : Store) (k_ : Key) (v : Int) (hs : OkStore s) : Ct prog 346 [st (zbs s), st (keyC k_), int v] [] [] (qsf s k_ v) [] := by
 refine Ct.B func346 mixed 99 400 ?_
 simp
 refine CI.p (at_p s v) call379 99 ?_
 simp
 refine CI.p (qnf ((atS s v).getD []) k_ (qr5 hs v).len) call161 99 ?_
 simp
 cases hg : getR ((atS s v).getD []) k_ with
 | none =>
   have e := zz9 hg
   simp
   exact fin0 (by simp [e, zRes]) rfl
 | some r =>
   have e := zz8 hg
   simp
   refine sBI (fun h1 => ?_) (fun h1 => ?_) <;> simp only [h1] <;> simp <;> (try simp only [nT, nF, dT, dF] at h1)
   ·rw [if_pos h1] at e
    exact fin0 (by simp [e]) rfl
   ·rw [if_neg h1] at e
    exact fin0 (by simp [e, zRes]) rfl
theorem qsg (s : Store) (m : G.Mark) (hs : OkStore s) : Ct prog 345 [st (zdu m), .d (.pro (zbs s))] [] [] (st (resC (ofM s m))) [] := by
 refine Ct.B func345 mixed 99 400 ?_
 simp
 refine CI.p (qqy s m.k m.ver hs) call346 99 ?_
 simp
 cases hg : znn s m.k m.ver with
 | none =>
   have e : ofM s m = zrd m := by simp [ofM, hg]
   simp
   exact fin0 (by simp [e, zrd]) rfl
 | some r =>
   have e : ofM s m = r := by simp [ofM, hg]
   simp
   exact fin0 (by simp [e]) rfl
theorem qh7 (s : Store) : Ct prog 288 [st (zbs s)] [] [] (.d (.fn (.func 345) [] [.pro (zbs s)])) [] := by
 refine Ct.B func288 mixed 99 400 ?_
 simp
 exact fin0 (by simp) rfl
theorem qmx (s : Store) (l : List G.Mark) (hs : OkStore s) (hl : l.length ≤ 1000) : Ct prog 210 [st (zbs s), lst (l.map zdu)] [] [] (lst ((zej s l).map resC)) [] := by
 refine Ct.B func210 mixed 99 400 ?_
 simp
 refine CI.p (qh7 s) call288 99 ?_
 simp
 refine LoopI.U mixed (l) (fun k => [(5, .d (.fn (.func 345) [] [.pro (zbs s)])), (6, lst ((zej s (l.take k.1)).map resC)), (11, lst (l.map zdu)), (12, int l.length), (13, int k.1)]) (fun k => []) 64 [] (by constructor <;> simp [ztr]) ?_
 rintro ⟨k, hk1⟩ B hB
 refine CI.run 99 400 rfl ?_
 simp [ztr]
 refine sBI (fun h => ?_) (fun h => ?_)
 ·have hk : k < (l).length := by simpa using h
  obtain ⟨x, hx, hr, hm, ht, hd⟩ := inL hk
  have hw := wr (k := k) (by omega)
  simp only [h]
  simp [hr, hw]
  have hlen := zne s (l.take k)
  have htk : (l.take k).length ≤ 1000 := by simp; omega
  refine CI.ff (FnOk.clo (args := [st (zdu x)]) (by exact qsg s x hs) call345 rfl rfl) rfl rfl rfl 99 ?_
  simp
  refine CI.p (qi9 (zej s (l.take k)) (ofM s x) (by omega)) call163 99 ?_
  simp
  refine hB _ ⟨k + 1, by omega⟩ [] ?_ (by simp; omega)
  constructor <;> simp [hw, ht, zzy]
 ·have hkl : k = (l).length := by simp at h; omega
  subst hkl
  simp only [h]
  simp [List.take_length, List.drop_length]
  exact fin0 (by simp) rfl
end Go.Proofs.YtmhfcgpmmghakaaGreatDoor
