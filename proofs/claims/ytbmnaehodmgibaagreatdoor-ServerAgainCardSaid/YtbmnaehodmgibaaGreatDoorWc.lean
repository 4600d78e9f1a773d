/-
  LAYERS 3, 6, 14: the walks of the program's references and views, of the laws' own helpers; what the laws' arguments are.
-/
import Derived.Test.YtbmnaehodmgibaaGreatDoorWb
import Derived.Test.YtbmnaehodmgibaaGreatDoorPl
import Derived.Test.YtbmnaehodmgibaaGreatDoorTy
import Derived.Test.YtbmnaehodmgibaaGreatDoorFc
set_option linter.unusedSimpArgs false
set_option linter.unusedVariables false
section
namespace Go.Proofs.YtbmnaehodmgibaaGreatDoor
open Go.AI Go.G
set_option maxRecDepth 20000
attribute [simp] Tryz.ntmps171 Tryz.results171
theorem zje (l : List Key) (hl : l.length ≤ 1000000) : Ct Tryz.prog 171 [.own 0] [] [(0, .grow 2 (l.map keyC) 89)] (lst ((zex l).map keyC)) [] := by
 refine Ct.B Tryz.func171 mixed 9999 400 ?_
 simp
 refine sB (fun h0 => ?_) (fun h0 => ?_) <;> simp only [h0] <;> simp <;> (try simp only [nT, nF, dT, dF] at h0)
 ·have e : zex l = l := zx2 h0
  first | (refine ⟨[], ?_, ?_, ?_, ?_, ?_, ?_, ?_⟩ <;> simp [nmF, inB, e]; done) | (refine ⟨by decide +kernel, ?_⟩; refine ⟨[], ?_, ?_, ?_, ?_, ?_, ?_, ?_⟩ <;> simp [nmF, inB, e])
 refine LoopW.inv mixed (Plain.retC _ _ _ _ _) rfl (ι := {k : Nat // k + 1 ≤ l.length ∧ zex (l.take (k + 1)) = l.take (k + 1)}) (fun k => [(0, .own 0), (3, int ((k.1 : Int) + 1))]) (fun k => [(0, .grow 2 (l.map keyC) 89)]) 64 (fun k => l.length - k.1) ⟨0, by omega, zx3 l⟩ [] (by constructor <;> simp) ?_
 rintro ⟨m, hk1, hi⟩ B hB
 refine CW.run 9999 400 rfl ?_
 simp
 refine sB (fun h => ?_) (fun h => ?_) <;> simp only [h] <;> simp <;> (try simp only [nT, nF, dT, dF] at h)
 ·have hk : m + 1 < l.length := by omega
  have hk' : m < l.length := by omega
  have hv : l[m + 1]? = some l[m + 1] := List.getElem?_eq_getElem hk
  have hq : l[m]? = some l[m] := List.getElem?_eq_getElem hk'
  have w0 : IntKind.wrap .i64 (m : Int) = m := zae (by omega) (by omega)
  have w1 : IntKind.wrap .i64 ((m : Int) + 1 + 1) = (m : Int) + 1 + 1 := zae (by omega) (by omega)
  have c1 : (0 : Int) ≤ (m : Int) + 1 := by omega
  have c2 : (m : Int) < l.length := by omega
  generalize hvu : l[m + 1] = u at hv
  generalize hqu : l[m] = q0 at hq
  have hs := zjf (by omega) (show l[m + 1 - 1]? = _ from hq) hv
  simp [h, hvu, hqu, c1, c2, hv, hq, w0]
  rw [znt]
  refine ⟨by decide +kernel, ?_⟩
  refine sB (fun h2 => ?_) (fun h2 => ?_) <;> simp only [h2] <;> simp [hv, hq] <;> (try simp only [nT, nF, dT, dF] at h2)
  ·refine ⟨by omega, ?_⟩
   rw [h2] at hv
   have d0 : CompSt l (m + 2 + 0) (m + 1) l := CompSt.start (by omega) hi hq hv
   clear hv hq hs w0 w1 c1 c2 hi hB
   refine LoopW.inv mixed (Plain.retC _ _ _ _ _) rfl (ι := {q : Nat × Nat × List Key // CompSt l (m + 2 + q.1) q.2.1 q.2.2}) (fun k => [(0, .own 0), (3, int k.1.2.1), (4, .sl 0 2 (m + 1) (l.length - (m + 1))), (5, int ((k.1.1 : Int) + 1))]) (fun k => [(0, .grow 2 (k.1.2.2.map keyC) 89)]) 64 (fun k => l.length - k.1.1) ⟨(0, m + 1, l), d0⟩ [] (by constructor <;> simp) ?_
   rintro ⟨⟨d, i, cur⟩, hd⟩ B hB
   have hlen := hd.len
   have hlt := hd.lt
   have hle := hd.le
   simp only at hlen hlt hle
   have w1 : IntKind.wrap .i64 ((d : Int) + 1 + 1) = d + 1 + 1 := zae (by omega) (by omega)
   have w2 : IntKind.wrap .i64 ((i : Int) + 1) = i + 1 := zae (by omega) (by omega)
   have w0 : IntKind.wrap .i64 (d : Int) = d := zae (by omega) (by omega)
   refine CW.run 9999 400 rfl ?_
   simp [hlen]
   refine sB (fun h3 => ?_) (fun h3 => ?_) <;> simp only [h3] <;> simp <;> (try simp only [nT, nF, dT, dF] at h3)
   ·have hj : m + 1 + (d + 1) < l.length := by omega
    have hj' : m + 1 + d < l.length := by omega
    have hv : l[m + 2 + d]? = some l[m + 1 + (d + 1)] := by rw [← List.getElem?_eq_getElem hj]; congr 1; omega
    have hq : l[m + 2 + d - 1]? = some l[m + 1 + d] := by rw [← List.getElem?_eq_getElem hj']; congr 1; omega
    generalize l[m + 1 + (d + 1)] = v at hv
    generalize l[m + 1 + d] = q at hq
    have hg : cur[m + 1 + (d + 1)]? = some v := by have := hd.get hv; rwa [show m + 2 + d = m + 1 + (d + 1) by omega] at this
    have hg' : cur[m + 1 + d]? = some q := by have := hd.get' hq; rwa [show m + 2 + d - 1 = m + 1 + d by omega] at this
    have c1 : (0 : Int) ≤ (d : Int) + 1 := by omega
    have c2 : (d : Int) < ((l.length - (m + 1) : Nat) : Int) := by omega
    simp [h3, c1, c2, w0, hg, hg']
    rw [qfb]
    refine ⟨by decide +kernel, ?_⟩
    have hic : i < cur.length := by omega
    refine sB (fun h4 => ?_) (fun h4 => ?_) <;> simp only [h4] <;> simp [h3, c1, c2, hg, hg', hic] <;> (try simp only [nT, nF, dT, dF] at h4)
    ·refine hB _ ⟨(d + 1, i + 1, cur.set i v), by exact hd.keep hv hq (fun e => h4 e.symm)⟩ [] ?_ (by simp; omega)
     constructor <;> simp [w1, w2, List.map_set]
    ·rw [← h4] at hq
     refine hB _ ⟨(d + 1, i, cur), by exact hd.same hv hq⟩ [] ?_ (by simp; omega)
     constructor <;> simp [w1]
   ·have hj : m + 2 + d = l.length := by omega
    simp only at hd
    rw [hj] at hd
    have e : cur.take i = zex l := hd.done
    have e2 : List.take i (List.map keyC cur) = List.map keyC (zex l) := by rw [← List.map_take, e]
    have e3 : (zex l).length = i := by rw [← e, List.length_take]; omega
    refine ⟨by omega, by omega, by omega, ?_⟩
    rw [e2]
    first | (refine ⟨[], ?_, ?_, ?_, ?_, ?_, ?_, ?_⟩ <;> simp [nmF, inB, e3, List.take_append, show i ≤ i + (l.length - i + (l.length - (i + (l.length - i)))) from by omega]; done) | (refine ⟨by decide +kernel, ?_⟩; refine ⟨[], ?_, ?_, ?_, ?_, ?_, ?_, ?_⟩ <;> simp [nmF, inB, e3, List.take_append, show i ≤ i + (l.length - i + (l.length - (i + (l.length - i)))) from by omega])
  ·rw [if_neg (fun e => h2 e.symm)] at hs
   refine hB _ ⟨m + 1, by omega, by rw [hs, hi, List.take_add_one (i := m + 1), hv]; rfl⟩ [] ?_ (by simp; omega)
   constructor <;> simp [w1]
 ·have e : zex l = l := by
   have hl2 : m + 1 = l.length := by omega
   rw [hl2, List.take_length] at hi; exact hi
  first | (refine ⟨[], ?_, ?_, ?_, ?_, ?_, ?_, ?_⟩ <;> simp [nmF, inB, e]; done) | (refine ⟨by decide +kernel, ?_⟩; refine ⟨[], ?_, ?_, ?_, ?_, ?_, ?_, ?_⟩ <;> simp [nmF, inB, e])
end Go.Proofs.YtbmnaehodmgibaaGreatDoor
end
section
namespace Go.Proofs.YtbmnaehodmgibaaGreatDoor
open Go.AI Go.G Go.Sort Go.Proofs Go.RowKit Go.Shelf
set_option maxRecDepth 20000
def keyV (k : Key) : List Value := [.int .i64 k.kind, .string k.name]
instance keyInh : Inhabited Key := ⟨⟨0, .empty⟩⟩
theorem zu2 (l : List Key) (hl : l.length < 4611686018427387904) : Ct Tryz.prog 169 [.own 0, .d (fnD 170)] [] [(0, .grow 2 (l.map keyC) 89)] (.d (.v (.tuple #[]))) [(0, .grow 2 ((zii l).map keyC) 89)] :=
 Ct.sort (enc := keyV) (k := 2) (cf := cmpK) (sortL := zii) (by decide) (fun _ => rfl) (fun x v hv => by simp [keyV] at hv; rcases hv with rfl | rfl <;> rfl) zdt
  (fun p cap fv w => AnyF.slices_SortFunc_none { Tryz.sortKeys with } p cap fv w)
  (fun blk off cap d w hc hH hb hs => AnyQ.slices_SortFunc_total Tryz.sortKeys 2 (fun w => by kernel_rfl) (fun w => by kernel_rfl) keyV (fun _ => rfl) (fun x v hv => by simp [keyV] at hv; rcases hv with rfl | rfl <;> rfl) cmpK swoK 170 #[] blk off cap d w Tryz.call170 hc hH hb hs (fun x y h1 h2 => qhf h1 h2))
  (fun a b => qbt a b) hl
end Go.Proofs.YtbmnaehodmgibaaGreatDoor
end
section
namespace Go.Proofs.YtbmnaehodmgibaaGreatDoor
open Go.AI Go.G
set_option maxRecDepth 20000
attribute [simp] Tryz.ntmps96 Tryz.results96
theorem zvb (r : Res) : Ct Tryz.prog 96 [st (resC r)] [] [] (lst ((za2 r).map keyC)) [] := by
 refine Ct.B Tryz.func96 mixed 9999 400 ?_
 simp
 refine CW.p (zy9 r) Tryz.call137 9999 ?_
 simp
 refine sB (fun h1 => ?_) (fun h1 => ?_) <;> simp only [h1] <;> simp <;> (try simp only [nT, nF, dT, dF] at h1)
 ·first | exact fin0 (by simp [za2, h1]) rfl | exact zaa (by simp [za2, h1])
 obtain ⟨hk0, hn, hs, hsh, hnm, hsg⟩ := zeh h1
 have hk := rng_yes.1 hk0
 have hb := zkd hs
 have hwk : IntKind.wrap .i64 (r.kind + 1) = r.kind + 1 := zae (by omega) (by omega)
 refine sB (fun h2 => ?_) (fun h2 => ?_) <;> simp only [h2] <;> simp <;> (try simp only [nT, nF, dT, dF] at h2)
 ·have hto : ¬ bs r.to = [] := fun e => h2 (zwf e)
  have hr0 := qcd hsh hto
  have h0 : outP r 0 = [⟨r.kind + 1, r.to⟩] := by rw [zq9, if_neg hto]
  have e := zra h1
  rw [hr0] at e
  simp only [List.length_nil, h0] at e
  simp [hr0, hwk]
  refine LoopW.unroll mixed (Plain.retC _ _ _ _ _) rfl ?_
  refine CW.run 9999 400 rfl ?_
  simp
  refine CW.cc [1152] (zu2 [⟨r.kind + 1, r.to⟩] (by simp)) Tryz.call169 9999 ?_
  simp
  refine CW.cc [1152] (zje (zii [⟨r.kind + 1, r.to⟩]) (by rw [zdt]; simp)) Tryz.call171 9999 ?_
  simp
  rw [e]
  first | exact fin0 (by simp) rfl | exact zaa (by simp)
 ·have hto : bs r.to = [] := by
   have : r.to = ⟨#[]⟩ := by simpa using h2
   rw [this]; rfl
  have h0 : outP r 0 = [] := by rw [zq9, if_pos hto]
  refine LoopW.nilOwn 3 2 89 rfl ?_
  refine LoopW.U mixed (r.rules) (fun k => [(1, .ptr 64 0), (3, .own 65), (24, lst (r.rules.map zb4)), (25, int r.rules.length), (26, int k.1)]) (fun k => [(64, .cells ((resC r).map .d) 85), (65, .grow 2 ((outP r k.1).map keyC) 89)]) 66 [] (by constructor <;> simp [h0]) ?_
  rintro ⟨k, hk1⟩ B hB
  refine CW.run 9999 400 rfl ?_
  simp [h0]
  refine sB (fun h => ?_) (fun h => ?_)
  ·have hk : k < (r.rules).length := by simpa using h
   obtain ⟨x, hx, hr, hm, ht, hd⟩ := inL hk
   have hw := wr (k := k) (by omega)
   simp only [h]
   simp [hr, hw]
   have h7 := hb.2.2 x hm
   refine LoopW.U mixed (x.split) (fun kj => [(1, .ptr 64 0), (3, .own 65), (24, lst (r.rules.map zb4)), (25, int r.rules.length), (26, int k), (31, lst (x.split.map wC)), (32, int x.split.length), (33, int kj.1)]) (fun kj => [(64, .cells ((resC r).map .d) 85), (65, .grow 2 ((outP r k ++ ((x.split.take kj.1).filter fun w => decide (0 < w.w)).map toKey).map keyC) 89)]) 66 [] (by constructor <;> simp [hr]) ?_
   rintro ⟨kj, hk1j⟩ Bj hBj
   refine CW.run 9999 400 rfl ?_
   simp [hr]
   refine sB (fun hj => ?_) (fun hj => ?_)
   ·have hkj : kj < (x.split).length := by simpa using hj
    obtain ⟨w, hxj, hrj, hmj, htj, hdj⟩ := inL hkj
    have hwj := wr (k := kj) (by omega)
    simp only [hj]
    simp [hrj, hwj, hr]
    have hlen := zvh k hb.1 hb.2.2
    have h8 : ((x.split.take kj).filter fun w => decide (0 < w.w)).length ≤ 4 := Nat.le_trans (List.length_filter_le _ _) (Nat.le_trans (by simp; omega) h7)
    refine sB (fun h4 => ?_) (fun h4 => ?_) <;> simp only [h4] <;> simp [hr, hrj] <;> (try simp only [nT, nF, dT, dF] at h4)
    ·refine ⟨by omega, ?_⟩
     refine hBj _ ⟨kj + 1, by omega⟩ [] ?_ (by simp; omega)
     constructor <;> simp [hwj, htj, List.filter_append, h4, hwj]
    ·refine hBj _ ⟨kj + 1, by omega⟩ [] ?_ (by simp; omega)
     constructor <;> simp [hwj, htj, List.filter_append, h4, hwj]
   ·have hklj : kj = (x.split).length := by simp at hj; omega
    subst hklj
    simp only [hj]
    simp [List.take_length, List.drop_length, hw]
    refine hB _ ⟨k + 1, by omega⟩ [] ?_ (by simp; omega)
    constructor <;> simp [hw, ht, zzv ht, List.map_append]
  ·have hkl : k = (r.rules).length := by simp at h; omega
   subst hkl
   simp only [h]
   simp [List.take_length, List.drop_length]
   have hlen := zvh r.rules.length hb.1 hb.2.2
   refine CW.cc [65] (zu2 (outP r r.rules.length) (by omega)) Tryz.call169 9999 ?_
   simp
   refine CW.cc [65] (zje (zii (outP r r.rules.length)) (by rw [zdt]; omega)) Tryz.call171 9999 ?_
   simp
   rw [zra h1]
   first | exact fin0 (by simp) rfl | exact zaa (by simp)
attribute [simp] Tryz.ntmps37 Tryz.results37
theorem qcs (l : List Res) (k_ : Key) (hl : l.length ≤ 1000000) : Ct Tryz.prog 37 [lst (l.map resC), st (keyC k_)] [] [] (lst ((zc8 l k_).map keyC)) [] := by
 refine Ct.B Tryz.func37 mixed 9999 400 ?_
 simp
 refine LoopW.nilOwn 5 2 89 rfl ?_
 refine LoopW.U mixed (l) (fun k => [(3, .ptr 64 0), (5, .own 65), (8, lst (l.map resC)), (9, int l.length), (10, int k.1)]) (fun k => [(64, .cells ((keyC k_).map .d) 89), (65, .grow 2 ((zc8 (l.take k.1) k_).map keyC) 89)]) 66 [] (by constructor <;> simp) ?_
 rintro ⟨k, hk1⟩ B hB
 refine CW.run 9999 400 rfl ?_
 simp
 refine sB (fun h => ?_) (fun h => ?_)
 ·have hk : k < (l).length := by simpa using h
  obtain ⟨x, hx, hr, hm, ht, hd⟩ := inL hk
  have hw := wr (k := k) (by omega)
  simp only [h]
  simp [hr, hw]
  have hlen : ((l.take k).filter fun r => decide (k_ ∈ za2 r)).length ≤ 1000000 := Nat.le_trans (List.length_filter_le _ _) (by simp; omega)
  refine CW.p (zvb x) Tryz.call96 9999 ?_
  simp
  refine CW.p (qff (za2 x) k_ (qgn x)) Tryz.call95 9999 ?_
  simp
  refine ⟨by decide +kernel, ?_⟩
  refine sB (fun h1 => ?_) (fun h1 => ?_) <;> simp only [h1] <;> simp [hr] <;> (try simp only [nT, nF, dT, dF] at h1)
  ·refine CW.p (zew x) Tryz.call97 9999 ?_
   simp
   refine ⟨by omega, ?_⟩
   refine hB _ ⟨k + 1, by omega⟩ [] ?_ (by simp; omega)
   constructor <;> simp [hw, ht, List.filter_append, h1]
  ·refine hB _ ⟨k + 1, by omega⟩ [] ?_ (by simp; omega)
   constructor <;> simp [hw, ht, List.filter_append, h1]
 ·have hkl : k = (l).length := by simp at h; omega
  subst hkl
  simp only [h]
  simp [List.take_length, List.drop_length]
  first | exact fin0 (by simp) rfl | exact zaa (by simp)
end Go.Proofs.YtbmnaehodmgibaaGreatDoor
end
section
namespace Go.Proofs.YtbmnaehodmgibaaGreatDoor
open Go.AI Go.G
set_option maxRecDepth 20000
attribute [simp] Tryz.ntmps63 Tryz.results63
theorem qe1 (v : View) (f : G.Frame) : Ct Tryz.prog 63 [st (zjm v), st (zak f)] [] [] (st (zjm (zh2 v f))) [] := by
 refine Ct.B Tryz.func63 mixed 9999 400 ?_
 simp
 first | exact fin0 (by simp [zh2]) rfl | exact zaa (by simp [zh2])
attribute [simp] Tryz.ntmps251 Tryz.results251
theorem of_p (f : G.Frame) : Ct Tryz.prog 251 [st (zak f)] [] [] (.agg [int f.epoch, int f.kind, int f.nonce]) [] := by
 refine Ct.B Tryz.func251 mixed 9999 400 ?_
 simp
 first | exact fin0 (by simp) rfl | exact zaa (by simp)
attribute [simp] Tryz.ntmps190 Tryz.results190
theorem zuk (v : View) (t : Int) (h : List Key) : Ct Tryz.prog 190 [st (zjm v), int t, lst (h.map keyC)] [] [] (st (zjm (zc1 v t h))) [] := by
 refine Ct.B Tryz.func190 mixed 9999 400 ?_
 simp
 refine sB (fun h1 => ?_) (fun h1 => ?_) <;> simp only [h1] <;> simp <;> (try simp only [nT, nF, dT, dF] at h1)
 ·first | exact fin0 (by simp [zc1, h1]) rfl | exact zaa (by simp [zc1, h1])
 ·first | exact fin0 (by simp [zc1, h1]) rfl | exact zaa (by simp [zc1, h1])
attribute [simp] Tryz.ntmps189 Tryz.results189
theorem zyj (v : View) (f : G.Frame) (hl : v.have_.length + v.push.adds.length ≤ 1000000) (hg : v.push.gone.length ≤ 9223372036854775807) : Ct Tryz.prog 189 [st (zjm v), st (zak f)] [] [] (.tup [st (zjm (ansV v f)), int (ansE v f)]) [] := by
 refine Ct.B Tryz.func189 mixed 9999 400 ?_
 simp
 refine sB (fun h1 => ?_) (fun h1 => ?_) <;> simp only [h1] <;> simp
 ·have h1' : v.open_ = false := by simpa using h1
  first | exact fin0 (by simp [ansV, ansE, h1']) rfl | exact zaa (by simp [ansV, ansE, h1'])
 have h1' : v.open_ = true := by simpa using h1
 refine sG (fun h2 => ?_) (fun h2 => ?_) <;> simp only [h2] <;> simp <;> (try simp only [nT, nF, dT, dF] at h2)
 ·refine ⟨by decide +kernel, ?_⟩
  first | exact fin0 (by simp [ansV, ansE, fitF, h1', h2]) rfl | exact zaa (by simp [ansV, ansE, fitF, h1', h2])
 refine CW.p (of_p f) Tryz.call251 9999 ?_
 simp
 refine CW.p (of_p v.push) Tryz.call251 9999 ?_
 simp
 refine ⟨by decide +kernel, ?_⟩
 rw [qd7 h2]
 refine sB (fun h3 => ?_) (fun h3 => ?_) <;> simp only [h3] <;> simp
 ·have h3' : fitF v f = false := by simpa using h3
  first | exact fin0 (by simp [ansV, ansE, h1', h3']) rfl | exact zaa (by simp [ansV, ansE, h1', h3'])
 have h3' : fitF v f = true := by simpa using h3
 rw [zs5 h1' h3']
 refine sB (fun h4 => ?_) (fun h4 => ?_) <;> simp only [h4] <;> simp <;> (try simp only [nT, nF, dT, dF] at h4)
 ·refine CW.p (zoz v.have_ v.push.adds v.push.gone hl hg) Tryz.call159 9999 ?_
  simp
  refine CW.p (zuk ⟨zac v.have_ v.push.adds v.push.gone, v.held, v.turn, zFrame, false⟩ f.turn f.held) Tryz.call190 9999 ?_ (ha := by simp [zFrame])
  simp [zFrame]
  refine ⟨by decide +kernel, ?_⟩
  first | exact fin0 (by simp [ansE, h1', h3', h4, zFrame]) rfl | exact zaa (by simp [ansE, h1', h3', h4, zFrame])
 ·refine CW.p (zuk ⟨v.have_, v.held, v.turn, zFrame, false⟩ f.turn f.held) Tryz.call190 9999 ?_ (ha := by simp [zFrame])
  simp [zFrame]
  refine ⟨by decide +kernel, ?_⟩
  first | exact fin0 (by simp [ansE, h1', h3', h4, zFrame]) rfl | exact zaa (by simp [ansE, h1', h3', h4, zFrame])
attribute [simp] Tryz.ntmps101 Tryz.results101
theorem qaj (l : List Res) (hl : l.length ≤ 1000000) : Ct Tryz.prog 101 [lst (l.map resC)] [] [] (lst ((zch l).map zdv)) [] := by
 refine Ct.B Tryz.func101 mixed 9999 400 ?_
 simp
 refine LoopW.nilOwn 3 3 128 rfl ?_
 refine LoopW.U mixed (l) (fun k => [(3, .own 64), (6, lst (l.map resC)), (7, int l.length), (8, int k.1)]) (fun k => [(64, .grow 3 ((zch (l.take k.1)).map zdv) 128)]) 65 [] (by constructor <;> simp) ?_
 rintro ⟨k, hk1⟩ B hB
 refine CW.run 9999 400 rfl ?_
 simp
 refine sB (fun h => ?_) (fun h => ?_)
 ·have hk : k < (l).length := by simpa using h
  obtain ⟨x, hx, hr, hm, ht, hd⟩ := inL hk
  have hw := wr (k := k) (by omega)
  simp only [h]
  simp [hr, hw]
  refine CW.p (zew x) Tryz.call97 9999 ?_
  simp
  refine ⟨by omega, ?_⟩
  refine ⟨by decide +kernel, ?_⟩
  refine hB _ ⟨k + 1, by omega⟩ [] ?_ (by simp; omega)
  constructor <;> simp [hw, ht, zo5]
 ·have hkl : k = (l).length := by simp at h; omega
  subst hkl
  simp only [h]
  simp [List.take_length, List.drop_length]
  first | exact fin0 (by simp) rfl | exact zaa (by simp)
end Go.Proofs.YtbmnaehodmgibaaGreatDoor
end
section
namespace Go.Proofs.YtbmnaehodmgibaaGreatDoor
open Go.ChangeShapes Go.WideShapes Go.ChangeAt Go.RowKit
open Go.AI Go.G
set_option maxRecDepth 20000
theorem ownT : ownKnob Tryz.prog.godebug = none := by kernel_rfl
theorem zvu : laidOutB Tryz.prog = true := by kernel_rfl
theorem zni : shT Tryz.prog 3 = .int .i64 := by kernel_rfl
theorem zqk : shT Tryz.prog 9 = .str := by kernel_rfl
theorem qgc : shT Tryz.prog 83 = .sl 3 := by kernel_rfl
theorem sh_w : shT Tryz.prog 242 = .st [9, 3] := by kernel_rfl
theorem qzx : shT Tryz.prog 238 = .sl 242 := by kernel_rfl
theorem qga : shT Tryz.prog 240 = .st [9, 9, 238] := by kernel_rfl
theorem qck : shT Tryz.prog 82 = .sl 240 := by kernel_rfl
theorem qix : shT Tryz.prog 85 = .st [3, 9, 3, 3, 9, 82, 83] := by kernel_rfl
theorem qgb : shT Tryz.prog 26 = .sl 85 := by kernel_rfl
variable {n : Nat} {ds : List D}
theorem qhn {s : ByteArray} (h : s.size ≤ maxLen) : nB s := by
 have := zc5 s
 have e : maxLen = 9223372036854775807 := rfl
 unfold G.nB; omega
theorem zsb {α : Type} {l : List α} {f : α → List D} (h : (l.map f).length ≤ maxLen) : l.length ≤ 9223372036854775807 := by
 have e : maxLen = 9223372036854775807 := rfl
 rw [List.length_map] at h; omega
theorem is_w (h : Is Tryz.prog (n + 2) 242 ds) : ∃ k : Weight, nB k.cluster ∧ ds = wC k := by
 obtain ⟨_, _, h1, g1, rfl⟩ := zb7 (qdt sh_w h)
 obtain ⟨_, _, h2, g2, rfl⟩ := zb7 g1
 obtain rfl := zpd g2
 obtain ⟨a, ha, rfl⟩ := zsa zqk h1
 obtain ⟨b, _, rfl⟩ := znu zni h2
 exact ⟨⟨a, b⟩, qhn ha, rfl⟩
theorem qhl (h : Is Tryz.prog (n + 4) 240 ds) : ∃ x : Rule, x.split.length ≤ 9223372036854775807 ∧ ds = zb4 x := by
 obtain ⟨_, _, h1, g1, rfl⟩ := zb7 (qdt qga h)
 obtain ⟨_, _, h2, g2, rfl⟩ := zb7 g1
 obtain ⟨_, _, h3, g3, rfl⟩ := zb7 g2
 obtain rfl := zpd g3
 obtain ⟨a, ha, rfl⟩ := zsa zqk h1
 obtain ⟨b, hb, rfl⟩ := zsa zqk h2
 obtain ⟨es, he, h4, rfl⟩ := qax qzx h3
 obtain ⟨l, _, rfl⟩ := zj0 (fun c => is_w) h4
 exact ⟨⟨a, b, l⟩, zsb he, rfl⟩
theorem qay (h : Is Tryz.prog (n + 1) 3 ds) : ∃ x : Int, True ∧ ds = intC x := by
 obtain ⟨a, _, rfl⟩ := znu zni h
 exact ⟨a, trivial, rfl⟩
theorem qju (h : Is Tryz.prog (n + 6) 85 ds) : ∃ r : Res, OkRes r ∧ ds = resC r := by
 obtain ⟨_, _, h1, g1, rfl⟩ := zb7 (qdt qix h)
 obtain ⟨_, _, h2, g2, rfl⟩ := zb7 g1
 obtain ⟨_, _, h3, g3, rfl⟩ := zb7 g2
 obtain ⟨_, _, h4, g4, rfl⟩ := zb7 g3
 obtain ⟨_, _, h5, g5, rfl⟩ := zb7 g4
 obtain ⟨_, _, h6, g6, rfl⟩ := zb7 g5
 obtain ⟨_, _, h7, g7, rfl⟩ := zb7 g6
 obtain rfl := zpd g7
 obtain ⟨a, _, rfl⟩ := znu zni h1
 obtain ⟨b, hb, rfl⟩ := zsa zqk h2
 obtain ⟨c, _, rfl⟩ := znu zni h3
 obtain ⟨d, _, rfl⟩ := znu zni h4
 obtain ⟨e, he, rfl⟩ := zsa zqk h5
 obtain ⟨es, hes, h8, rfl⟩ := qax qck h6
 obtain ⟨l, hl, rfl⟩ := zj0 (fun c => qhl) h8
 obtain ⟨fs, hfs, h9, rfl⟩ := qax qgc h7
 obtain ⟨m, _, rfl⟩ := zj0 (fun c => qay) h9
 exact ⟨⟨a, b, c, d, e, l, m⟩, ⟨qhn hb, qhn he, zsb hes, hl, zsb hfs⟩, rfl⟩
theorem qhm (h : Is Tryz.prog (n + 7) 26 ds) : ∃ l : List Res, OkRs l ∧ ds = [lD (l.map resC)] := by
 obtain ⟨es, he, h1, rfl⟩ := qax qgb h
 obtain ⟨l, hl, rfl⟩ := zj0 (fun c => qju) h1
 exact ⟨l, ⟨zsb he, hl⟩, rfl⟩
theorem is_i (h : Is Tryz.prog (n + 1) 3 ds) : ∃ x : Int, True ∧ ds = [iD x] := qay h
end Go.Proofs.YtbmnaehodmgibaaGreatDoor
end
section
namespace Go.Proofs.YtbmnaehodmgibaaGreatDoor
open Go.ChangeShapes Go.WideShapes Go.ChangeAt Go.RowKit
open Go.AI Go.G
set_option maxRecDepth 20000
variable {n : Nat} {ds : List D}
theorem qfn : aggT Tryz.prog 3 = false := by kernel_rfl
end Go.Proofs.YtbmnaehodmgibaaGreatDoor
end
