/-
  LAYERS 3, 6, 14: the walks of the program's references and views, of the laws' own helpers; what the laws' arguments are.
-/
import Derived.Test.YtbmnaehodmgibaaGreatDoorWb
import Derived.Test.YtbmnaehodmgibaaGreatDoorPl
import Derived.Test.YtbmnaehodmgibaaGreatDoorTy
import Derived.Test.YtbmnaehodmgibaaGreatDoorFc
set_option linter.unusedSimpArgs false
set_option linter.unusedVariables false
section
namespace Go.Proofs.YtbmnaehodmgibaaGreatDoor
open Go.AI Go.G
set_option maxRecDepth 20000
theorem compact_p (l : List Key) (hl : l.length ≤ 1000000) : Ct Tryz.prog 171 [.own 0] [] [(0, .grow 2 (l.map keyC) 89)] (lst ((compK l).map keyC)) [] := by
  refine Ct.of_body Tryz.func171 rfl mixed (by rw [Tryz.ntmps171]; simp) (CW.run 9999 400 rfl ?_)
  simp [Tryz.ntmps171, Tryz.results171]
  refine run_br_split (fun h0 => ?_) (fun h0 => ?_) <;> simp only [h0] <;> simp [Tryz.ntmps171, Tryz.results171] <;> (try simp only [Bool.not_eq_true', Bool.not_eq_false', decide_eq_true_eq, decide_eq_false_iff_not] at h0)
  · have e : compK l = l := comp_short h0
    first | (refine ⟨[], ?_, ?_, ?_, ?_, ?_, ?_, ?_⟩ <;> simp [nmF, inB, e]; done) | (refine ⟨by decide +kernel, ?_⟩; refine ⟨[], ?_, ?_, ?_, ?_, ?_, ?_, ?_⟩ <;> simp [nmF, inB, e])
  refine LoopW.inv mixed (Plain.retC _ _ _ _ _) rfl (ι := {k : Nat // k + 1 ≤ l.length ∧ compK (l.take (k + 1)) = l.take (k + 1)}) (fun k => [(0, .own 0), (3, int ((k.1 : Int) + 1))]) (fun k => [(0, .grow 2 (l.map keyC) 89)]) 64 (fun k => l.length - k.1) ⟨0, by omega, comp_first l⟩ [] (by constructor <;> simp) ?_
  rintro ⟨m, hk1, hi⟩ B hB
  refine CW.run 9999 400 rfl ?_
  simp [Tryz.ntmps171, Tryz.results171]
  refine run_br_split (fun h => ?_) (fun h => ?_) <;> simp only [h] <;> simp [Tryz.ntmps171, Tryz.results171] <;> (try simp only [Bool.not_eq_true', Bool.not_eq_false', decide_eq_true_eq, decide_eq_false_iff_not] at h)
  · have hk : m + 1 < l.length := by omega
    have hk' : m < l.length := by omega
    have hv : l[m + 1]? = some l[m + 1] := List.getElem?_eq_getElem hk
    have hq : l[m]? = some l[m] := List.getElem?_eq_getElem hk'
    have w0 : IntKind.wrap .i64 (m : Int) = m := wrap_i64 (by omega) (by omega)
    have w1 : IntKind.wrap .i64 ((m : Int) + 1 + 1) = (m : Int) + 1 + 1 := wrap_i64 (by omega) (by omega)
    have c1 : (0 : Int) ≤ (m : Int) + 1 := by omega
    have c2 : (m : Int) < l.length := by omega
    generalize hvu : l[m + 1] = u at hv
    generalize hqu : l[m] = q0 at hq
    have hs := comp_step (by omega) (show l[m + 1 - 1]? = _ from hq) hv
    simp [h, hvu, hqu, c1, c2, hv, hq, w0, Tryz.ntmps171, Tryz.results171]
    rw [key_eq]
    refine ⟨by decide +kernel, ?_⟩
    refine run_br_split (fun h2 => ?_) (fun h2 => ?_) <;> simp only [h2] <;> simp [hv, hq, Tryz.ntmps171, Tryz.results171] <;> (try simp only [Bool.not_eq_true', Bool.not_eq_false', decide_eq_true_eq, decide_eq_false_iff_not] at h2)
    · refine ⟨by omega, ?_⟩
      rw [h2] at hv
      have d0 : CompSt l (m + 2 + 0) (m + 1) l := CompSt.start (by omega) hi hq hv
      clear hv hq hs w0 w1 c1 c2 hi hB
      refine LoopW.inv mixed (Plain.retC _ _ _ _ _) rfl (ι := {q : Nat × Nat × List Key // CompSt l (m + 2 + q.1) q.2.1 q.2.2}) (fun k => [(0, .own 0), (3, int k.1.2.1), (4, .sl 0 2 (m + 1) (l.length - (m + 1))), (5, int ((k.1.1 : Int) + 1))]) (fun k => [(0, .grow 2 (k.1.2.2.map keyC) 89)]) 64 (fun k => l.length - k.1.1) ⟨(0, m + 1, l), d0⟩ [] (by constructor <;> simp) ?_
      rintro ⟨⟨d, i, cur⟩, hd⟩ B hB
      have hlen := hd.len
      have hlt := hd.lt
      have hle := hd.le
      simp only at hlen hlt hle
      have w1 : IntKind.wrap .i64 ((d : Int) + 1 + 1) = d + 1 + 1 := wrap_i64 (by omega) (by omega)
      have w2 : IntKind.wrap .i64 ((i : Int) + 1) = i + 1 := wrap_i64 (by omega) (by omega)
      have w0 : IntKind.wrap .i64 (d : Int) = d := wrap_i64 (by omega) (by omega)
      refine CW.run 9999 400 rfl ?_
      simp [hlen, Tryz.ntmps171, Tryz.results171]
      refine run_br_split (fun h3 => ?_) (fun h3 => ?_) <;> simp only [h3] <;> simp [Tryz.ntmps171, Tryz.results171] <;> (try simp only [Bool.not_eq_true', Bool.not_eq_false', decide_eq_true_eq, decide_eq_false_iff_not] at h3)
      · have hj : m + 1 + (d + 1) < l.length := by omega
        have hj' : m + 1 + d < l.length := by omega
        have hv : l[m + 2 + d]? = some l[m + 1 + (d + 1)] := by rw [← List.getElem?_eq_getElem hj]; congr 1; omega
        have hq : l[m + 2 + d - 1]? = some l[m + 1 + d] := by rw [← List.getElem?_eq_getElem hj']; congr 1; omega
        generalize l[m + 1 + (d + 1)] = v at hv
        generalize l[m + 1 + d] = q at hq
        have hg : cur[m + 1 + (d + 1)]? = some v := by have := hd.get hv; rwa [show m + 2 + d = m + 1 + (d + 1) by omega] at this
        have hg' : cur[m + 1 + d]? = some q := by have := hd.get' hq; rwa [show m + 2 + d - 1 = m + 1 + d by omega] at this
        have c1 : (0 : Int) ≤ (d : Int) + 1 := by omega
        have c2 : (d : Int) < ((l.length - (m + 1) : Nat) : Int) := by omega
        simp [h3, c1, c2, w0, hg, hg', Tryz.ntmps171, Tryz.results171]
        rw [key_ne]
        refine ⟨by decide +kernel, ?_⟩
        have hic : i < cur.length := by omega
        refine run_br_split (fun h4 => ?_) (fun h4 => ?_) <;> simp only [h4] <;> simp [h3, c1, c2, hg, hg', hic, Tryz.ntmps171, Tryz.results171] <;> (try simp only [Bool.not_eq_true', Bool.not_eq_false', decide_eq_true_eq, decide_eq_false_iff_not] at h4)
        · refine hB _ ⟨(d + 1, i + 1, cur.set i v), by exact hd.keep hv hq (fun e => h4 e.symm)⟩ [] ?_ (by simp; omega)
          constructor <;> simp [w1, w2, List.map_set]
        · rw [← h4] at hq
          refine hB _ ⟨(d + 1, i, cur), by exact hd.same hv hq⟩ [] ?_ (by simp; omega)
          constructor <;> simp [w1]
      · have hj : m + 2 + d = l.length := by omega
        simp only at hd
        rw [hj] at hd
        have e : cur.take i = compK l := hd.done
        have e2 : List.take i (List.map keyC cur) = List.map keyC (compK l) := by rw [← List.map_take, e]
        have e3 : (compK l).length = i := by rw [← e, List.length_take]; omega
        refine ⟨by omega, by omega, by omega, ?_⟩
        rw [e2]
        first | (refine ⟨[], ?_, ?_, ?_, ?_, ?_, ?_, ?_⟩ <;> simp [nmF, inB, e3, List.take_append, show i ≤ i + (l.length - i + (l.length - (i + (l.length - i)))) from by omega]; done) | (refine ⟨by decide +kernel, ?_⟩; refine ⟨[], ?_, ?_, ?_, ?_, ?_, ?_, ?_⟩ <;> simp [nmF, inB, e3, List.take_append, show i ≤ i + (l.length - i + (l.length - (i + (l.length - i)))) from by omega])
    · rw [if_neg (fun e => h2 e.symm)] at hs
      refine hB _ ⟨m + 1, by omega, by rw [hs, hi, List.take_add_one (i := m + 1), hv]; rfl⟩ [] ?_ (by simp; omega)
      constructor <;> simp [w1]
  · have e : compK l = l := by
      have hl2 : m + 1 = l.length := by omega
      rw [hl2, List.take_length] at hi; exact hi
    first | (refine ⟨[], ?_, ?_, ?_, ?_, ?_, ?_, ?_⟩ <;> simp [nmF, inB, e]; done) | (refine ⟨by decide +kernel, ?_⟩; refine ⟨[], ?_, ?_, ?_, ?_, ?_, ?_, ?_⟩ <;> simp [nmF, inB, e])
end Go.Proofs.YtbmnaehodmgibaaGreatDoor
end
section
namespace Go.Proofs.YtbmnaehodmgibaaGreatDoor
open Go.AI Go.G Go.Sort Go.Proofs Go.RowKit Go.Shelf
set_option maxRecDepth 20000
def keyV (k : Key) : List Value := [.int .i64 k.kind, .string k.name]
instance keyInh : Inhabited Key := ⟨⟨0, .empty⟩⟩
theorem sort_p (l : List Key) (hl : l.length < 4611686018427387904) : Ct Tryz.prog 169 [.own 0, .d (fnD 170)] [] [(0, .grow 2 (l.map keyC) 89)] (.d (.v (.tuple #[]))) [(0, .grow 2 ((sortK l).map keyC) 89)] :=
  Ct.sort (enc := keyV) (k := 2) (cf := cmpK) (sortL := sortK) (by decide) (fun _ => rfl) (fun x v hv => by simp [keyV] at hv; rcases hv with rfl | rfl <;> rfl) sortK_length
    (fun p cap fv w => AnyF.slices_SortFunc_none { Tryz.sortKeys with } p cap fv w)
    (fun blk off cap d w hc hH hb hs => AnyQ.slices_SortFunc_total Tryz.sortKeys 2 (fun w => by kernel_rfl) (fun w => by kernel_rfl) keyV (fun _ => rfl) (fun x v hv => by simp [keyV] at hv; rcases hv with rfl | rfl <;> rfl) cmpK swoK 170 #[] blk off cap d w Tryz.call170 hc hH hb hs (fun x y h1 h2 => ltK_tot h1 h2))
    (fun a b => cmpK_p a b) hl
end Go.Proofs.YtbmnaehodmgibaaGreatDoor
end
section
namespace Go.Proofs.YtbmnaehodmgibaaGreatDoor
open Go.AI Go.G
set_option maxRecDepth 20000
theorem refs_p (r : Res) : Ct Tryz.prog 96 [st (resC r)] [] [] (lst ((refsK r).map keyC)) [] := by
  refine Ct.of_body Tryz.func96 rfl mixed (by rw [Tryz.ntmps96]; simp) (CW.run 9999 400 rfl ?_)
  simp [Tryz.ntmps96, Tryz.results96]
  refine CW.callP (sane_p r) Tryz.call137 rfl rfl rfl (by first | exact .inl rfl | exact .inr ⟨_, _, rfl, by simp⟩ | exact .inr ⟨_, _, rfl, by simp [*]⟩) rfl (by simp) rfl rfl (CW.runOps 9999 400 rfl ?_)
  simp [Tryz.ntmps96, Tryz.results96]
  refine run_br_split (fun h1 => ?_) (fun h1 => ?_) <;> simp only [h1] <;> simp [Tryz.ntmps96, Tryz.results96] <;> (try simp only [Bool.not_eq_true', Bool.not_eq_false', decide_eq_true_eq, decide_eq_false_iff_not] at h1)
  · first | (exact fin0 (by simp [refsK, h1]) rfl) | (refine ⟨by decide +kernel, ?_⟩; exact fin0 (by simp [refsK, h1]) rfl)
  obtain ⟨hk0, hn, hs, hsh, hnm, hsg⟩ := sane_parts h1
  have hk := rng_yes.1 hk0
  have hb := small_bounds hs
  have hwk : IntKind.wrap .i64 (r.kind + 1) = r.kind + 1 := wrap_i64 (by omega) (by omega)
  refine run_br_split (fun h2 => ?_) (fun h2 => ?_) <;> simp only [h2] <;> simp [Tryz.ntmps96, Tryz.results96] <;> (try simp only [Bool.not_eq_true', Bool.not_eq_false', decide_eq_true_eq, decide_eq_false_iff_not] at h2)
  · have hto : ¬ bs r.to = [] := fun e => h2 (bs_inj e)
    have hr0 := to_rules hsh hto
    have h0 : outP r 0 = [⟨r.kind + 1, r.to⟩] := by rw [outP_zero, if_neg hto]
    have e := outP_refs h1
    rw [hr0] at e
    simp only [List.length_nil, h0] at e
    simp [hr0, hwk, Tryz.ntmps96, Tryz.results96]
    refine LoopW.unroll mixed (Plain.retC _ _ _ _ _) rfl ?_
    refine CW.run 9999 400 rfl ?_
    simp [Tryz.ntmps96, Tryz.results96]
    refine CW.callC [1152] (sort_p [⟨r.kind + 1, r.to⟩] (by simp)) Tryz.call169 rfl rfl rfl (by first | exact .inl rfl | exact .inr ⟨_, _, rfl, by simp⟩ | exact .inr ⟨_, _, rfl, by simp [*]⟩) rfl (by simp) (by constructor <;> simp [nmOk]) (by simp) (CW.runOps 9999 400 rfl ?_)
    simp [Tryz.ntmps96, Tryz.results96]
    refine CW.callC [1152] (compact_p (sortK [⟨r.kind + 1, r.to⟩]) (by rw [sortK_length]; simp)) Tryz.call171 rfl rfl rfl (by first | exact .inl rfl | exact .inr ⟨_, _, rfl, by simp⟩ | exact .inr ⟨_, _, rfl, by simp [*]⟩) rfl (by simp) (by constructor <;> simp [nmOk]) (by simp) (CW.runOps 9999 400 rfl ?_)
    simp [Tryz.ntmps96, Tryz.results96]
    rw [e]
    first | (exact fin0 (by simp) rfl) | (refine ⟨by decide +kernel, ?_⟩; exact fin0 (by simp) rfl)
  · have hto : bs r.to = [] := by
      have : r.to = ⟨#[]⟩ := by simpa using h2
      rw [this]; rfl
    have h0 : outP r 0 = [] := by rw [outP_zero, if_pos hto]
    refine LoopW.nilOwn 3 2 89 rfl ?_
    refine LoopW.inv mixed (Plain.retC _ _ _ _ _) rfl (ι := {k : Nat // k ≤ (r.rules).length}) (fun k => [(1, .ptr 64 0), (3, .own 65), (24, lst (r.rules.map ruleC)), (25, int r.rules.length), (26, int k.1)]) (fun k => [(64, .cells ((resC r).map .d) 85), (65, .grow 2 ((outP r k.1).map keyC) 89)]) 66 (fun k => (r.rules).length - k.1) ⟨0, by omega⟩ [] (by constructor <;> simp [h0]) ?_
    rintro ⟨k, hk1⟩ B hB
    refine CW.run 9999 400 rfl ?_
    simp [h0, Tryz.ntmps96, Tryz.results96]
    refine run_br_split (fun h => ?_) (fun h => ?_)
    · have hk : k < (r.rules).length := by simpa using h
      have hr : (r.rules)[k]? = some (r.rules)[k] := List.getElem?_eq_getElem hk
      have hm : (r.rules)[k] ∈ (r.rules) := List.getElem_mem hk
      have ht : (r.rules).take (k + 1) = (r.rules).take k ++ [(r.rules)[k]] := by rw [List.take_add_one, hr]; rfl
      have hd : (r.rules).drop k = (r.rules)[k] :: (r.rules).drop (k + 1) := List.drop_eq_getElem_cons hk
      have hw : IntKind.wrap .i64 ((k : Int) + 1) = k + 1 := wrap_i64 (by omega) (by omega)
      obtain ⟨x, hx⟩ : ∃ x0, (r.rules)[k] = x0 := ⟨_, rfl⟩
      rw [hx] at hr hm ht hd
      simp only [h]
      simp [hr, hw, Tryz.ntmps96, Tryz.results96]
      have h7 := hb.2.2 x hm
      refine LoopW.inv mixed (Plain.retC _ _ _ _ _) rfl (ι := {kj : Nat // kj ≤ (x.split).length}) (fun kj => [(1, .ptr 64 0), (3, .own 65), (24, lst (r.rules.map ruleC)), (25, int r.rules.length), (26, int k), (31, lst (x.split.map wC)), (32, int x.split.length), (33, int kj.1)]) (fun kj => [(64, .cells ((resC r).map .d) 85), (65, .grow 2 ((outP r k ++ ((x.split.take kj.1).filter fun w => decide (0 < w.w)).map toKey).map keyC) 89)]) 66 (fun kj => (x.split).length - kj.1) ⟨0, by omega⟩ [] (by constructor <;> simp [hr]) ?_
      rintro ⟨kj, hk1j⟩ Bj hBj
      refine CW.run 9999 400 rfl ?_
      simp [hr, Tryz.ntmps96, Tryz.results96]
      refine run_br_split (fun hj => ?_) (fun hj => ?_)
      · have hkj : kj < (x.split).length := by simpa using hj
        have hrj : (x.split)[kj]? = some (x.split)[kj] := List.getElem?_eq_getElem hkj
        have hmj : (x.split)[kj] ∈ (x.split) := List.getElem_mem hkj
        have htj : (x.split).take (kj + 1) = (x.split).take kj ++ [(x.split)[kj]] := by rw [List.take_add_one, hrj]; rfl
        have hdj : (x.split).drop kj = (x.split)[kj] :: (x.split).drop (kj + 1) := List.drop_eq_getElem_cons hkj
        have hwj : IntKind.wrap .i64 ((kj : Int) + 1) = kj + 1 := wrap_i64 (by omega) (by omega)
        obtain ⟨w, hxj⟩ : ∃ x0, (x.split)[kj] = x0 := ⟨_, rfl⟩
        rw [hxj] at hrj hmj htj hdj
        simp only [hj]
        simp [hrj, hwj, hr, Tryz.ntmps96, Tryz.results96]
        have hlen := outP_len k hb.1 hb.2.2
        have h8 : ((x.split.take kj).filter fun w => decide (0 < w.w)).length ≤ 4 := Nat.le_trans (List.length_filter_le _ _) (Nat.le_trans (by simp; omega) h7)
        refine run_br_split (fun h4 => ?_) (fun h4 => ?_) <;> simp only [h4] <;> simp [hr, hrj, Tryz.ntmps96, Tryz.results96] <;> (try simp only [Bool.not_eq_true', Bool.not_eq_false', decide_eq_true_eq, decide_eq_false_iff_not] at h4)
        · refine ⟨by omega, ?_⟩
          refine hBj _ ⟨kj + 1, by omega⟩ [] ?_ (by simp; omega)
          constructor <;> simp [hwj, htj, List.filter_append, h4, hwj]
        · refine hBj _ ⟨kj + 1, by omega⟩ [] ?_ (by simp; omega)
          constructor <;> simp [hwj, htj, List.filter_append, h4, hwj]
      · have hklj : kj = (x.split).length := by simp at hj; omega
        subst hklj
        simp only [hj]
        simp [List.take_length, List.drop_length, hw, Tryz.ntmps96, Tryz.results96]
        refine hB _ ⟨k + 1, by omega⟩ [] ?_ (by simp; omega)
        constructor <;> simp [hw, ht, outP_succ ht, List.map_append]
    · have hkl : k = (r.rules).length := by simp at h; omega
      subst hkl
      simp only [h]
      simp [List.take_length, List.drop_length, Tryz.ntmps96, Tryz.results96]
      have hlen := outP_len r.rules.length hb.1 hb.2.2
      refine CW.callC [65] (sort_p (outP r r.rules.length) (by omega)) Tryz.call169 rfl rfl rfl (by first | exact .inl rfl | exact .inr ⟨_, _, rfl, by simp⟩ | exact .inr ⟨_, _, rfl, by simp [*]⟩) rfl (by simp) (by constructor <;> simp [nmOk]) (by simp) (CW.runOps 9999 400 rfl ?_)
      simp [Tryz.ntmps96, Tryz.results96]
      refine CW.callC [65] (compact_p (sortK (outP r r.rules.length)) (by rw [sortK_length]; omega)) Tryz.call171 rfl rfl rfl (by first | exact .inl rfl | exact .inr ⟨_, _, rfl, by simp⟩ | exact .inr ⟨_, _, rfl, by simp [*]⟩) rfl (by simp) (by constructor <;> simp [nmOk]) (by simp) (CW.runOps 9999 400 rfl ?_)
      simp [Tryz.ntmps96, Tryz.results96]
      rw [outP_refs h1]
      first | (exact fin0 (by simp) rfl) | (refine ⟨by decide +kernel, ?_⟩; exact fin0 (by simp) rfl)
theorem refers_p (l : List Res) (k_ : Key) (hl : l.length ≤ 1000000) : Ct Tryz.prog 37 [lst (l.map resC), st (keyC k_)] [] [] (lst ((refersR l k_).map keyC)) [] := by
  refine Ct.of_body Tryz.func37 rfl mixed (by rw [Tryz.ntmps37]; simp) (CW.run 9999 400 rfl ?_)
  simp [Tryz.ntmps37, Tryz.results37]
  refine LoopW.nilOwn 5 2 89 rfl ?_
  refine LoopW.inv mixed (Plain.retC _ _ _ _ _) rfl (ι := {k : Nat // k ≤ (l).length}) (fun k => [(3, .ptr 64 0), (5, .own 65), (8, lst (l.map resC)), (9, int l.length), (10, int k.1)]) (fun k => [(64, .cells ((keyC k_).map .d) 89), (65, .grow 2 ((refersR (l.take k.1) k_).map keyC) 89)]) 66 (fun k => (l).length - k.1) ⟨0, by omega⟩ [] (by constructor <;> simp) ?_
  rintro ⟨k, hk1⟩ B hB
  refine CW.run 9999 400 rfl ?_
  simp [Tryz.ntmps37, Tryz.results37]
  refine run_br_split (fun h => ?_) (fun h => ?_)
  · have hk : k < (l).length := by simpa using h
    have hr : (l)[k]? = some (l)[k] := List.getElem?_eq_getElem hk
    have hm : (l)[k] ∈ (l) := List.getElem_mem hk
    have ht : (l).take (k + 1) = (l).take k ++ [(l)[k]] := by rw [List.take_add_one, hr]; rfl
    have hd : (l).drop k = (l)[k] :: (l).drop (k + 1) := List.drop_eq_getElem_cons hk
    have hw : IntKind.wrap .i64 ((k : Int) + 1) = k + 1 := wrap_i64 (by omega) (by omega)
    obtain ⟨x, hx⟩ : ∃ x0, (l)[k] = x0 := ⟨_, rfl⟩
    rw [hx] at hr hm ht hd
    simp only [h]
    simp [hr, hw, Tryz.ntmps37, Tryz.results37]
    have hlen : ((l.take k).filter fun r => decide (k_ ∈ refsK r)).length ≤ 1000000 := Nat.le_trans (List.length_filter_le _ _) (by simp; omega)
    refine CW.callP (refs_p x) Tryz.call96 rfl rfl rfl (by first | exact .inl rfl | exact .inr ⟨_, _, rfl, by simp⟩ | exact .inr ⟨_, _, rfl, by simp [*]⟩) rfl (by simp) rfl rfl (CW.runOps 9999 400 rfl ?_)
    simp [Tryz.ntmps37, Tryz.results37]
    refine CW.callP (hasK_p (refsK x) k_ (refs_le x)) Tryz.call95 rfl rfl rfl (by first | exact .inl rfl | exact .inr ⟨_, _, rfl, by simp⟩ | exact .inr ⟨_, _, rfl, by simp [*]⟩) rfl (by simp) rfl rfl (CW.runOps 9999 400 rfl ?_)
    simp [Tryz.ntmps37, Tryz.results37]
    refine ⟨by decide +kernel, ?_⟩
    refine run_br_split (fun h1 => ?_) (fun h1 => ?_) <;> simp only [h1] <;> simp [hr, Tryz.ntmps37, Tryz.results37] <;> (try simp only [Bool.not_eq_true', Bool.not_eq_false', decide_eq_true_eq, decide_eq_false_iff_not] at h1)
    · refine CW.callP (key_p x) Tryz.call97 rfl rfl rfl (by first | exact .inl rfl | exact .inr ⟨_, _, rfl, by simp⟩ | exact .inr ⟨_, _, rfl, by simp [*]⟩) rfl (by simp) rfl rfl (CW.runOps 9999 400 rfl ?_)
      simp [Tryz.ntmps37, Tryz.results37]
      refine ⟨by omega, ?_⟩
      refine hB _ ⟨k + 1, by omega⟩ [] ?_ (by simp; omega)
      constructor <;> simp [hw, ht, List.filter_append, h1]
    · refine hB _ ⟨k + 1, by omega⟩ [] ?_ (by simp; omega)
      constructor <;> simp [hw, ht, List.filter_append, h1]
  · have hkl : k = (l).length := by simp at h; omega
    subst hkl
    simp only [h]
    simp [List.take_length, List.drop_length, Tryz.ntmps37, Tryz.results37]
    first | (exact fin0 (by simp) rfl) | (refine ⟨by decide +kernel, ?_⟩; exact fin0 (by simp) rfl)
end Go.Proofs.YtbmnaehodmgibaaGreatDoor
end
section
namespace Go.Proofs.YtbmnaehodmgibaaGreatDoor
open Go.AI Go.G
set_option maxRecDepth 20000
theorem sent_p (v : View) (f : G.Frame) : Ct Tryz.prog 63 [st (viewC v), st (frameC f)] [] [] (st (viewC (sentV v f))) [] := by
  refine Ct.of_body Tryz.func63 rfl mixed (by rw [Tryz.ntmps63]; simp) (CW.run 9999 400 rfl ?_)
  simp [Tryz.ntmps63, Tryz.results63]
  first | (exact fin0 (by simp [sentV]) rfl) | (refine ⟨by decide +kernel, ?_⟩; exact fin0 (by simp [sentV]) rfl)
theorem of_p (f : G.Frame) : Ct Tryz.prog 251 [st (frameC f)] [] [] (.agg [int f.epoch, int f.kind, int f.nonce]) [] := by
  refine Ct.of_body Tryz.func251 rfl mixed (by rw [Tryz.ntmps251]; simp) (CW.run 9999 400 rfl ?_)
  simp [Tryz.ntmps251, Tryz.results251]
  first | (exact fin0 (by simp) rfl) | (refine ⟨by decide +kernel, ?_⟩; exact fin0 (by simp) rfl)
theorem drain_p (v : View) (t : Int) (h : List Key) : Ct Tryz.prog 190 [st (viewC v), int t, lst (h.map keyC)] [] [] (st (viewC (drainV v t h))) [] := by
  refine Ct.of_body Tryz.func190 rfl mixed (by rw [Tryz.ntmps190]; simp) (CW.run 9999 400 rfl ?_)
  simp [Tryz.ntmps190, Tryz.results190]
  refine run_br_split (fun h1 => ?_) (fun h1 => ?_) <;> simp only [h1] <;> simp [Tryz.ntmps190, Tryz.results190] <;> (try simp only [Bool.not_eq_true', Bool.not_eq_false', decide_eq_true_eq, decide_eq_false_iff_not] at h1)
  · first | (exact fin0 (by simp [drainV, h1]) rfl) | (refine ⟨by decide +kernel, ?_⟩; exact fin0 (by simp [drainV, h1]) rfl)
  · first | (exact fin0 (by simp [drainV, h1]) rfl) | (refine ⟨by decide +kernel, ?_⟩; exact fin0 (by simp [drainV, h1]) rfl)
theorem answered_p (v : View) (f : G.Frame) (hl : v.have_.length + v.push.adds.length ≤ 1000000) (hg : v.push.gone.length ≤ 9223372036854775807) : Ct Tryz.prog 189 [st (viewC v), st (frameC f)] [] [] (.tup [st (viewC (ansV v f)), int (ansE v f)]) [] := by
  refine Ct.of_body Tryz.func189 rfl mixed (by rw [Tryz.ntmps189]; simp) (CW.run 9999 400 rfl ?_)
  simp [Tryz.ntmps189, Tryz.results189]
  refine run_br_split (fun h1 => ?_) (fun h1 => ?_) <;> simp only [h1] <;> simp [Tryz.ntmps189, Tryz.results189]
  · have h1' : v.open_ = false := by simpa using h1
    first | (exact fin0 (by simp [ansV, ansE, h1']) rfl) | (refine ⟨by decide +kernel, ?_⟩; exact fin0 (by simp [ansV, ansE, h1']) rfl)
  have h1' : v.open_ = true := by simpa using h1
  refine run_gd_split (fun h2 => ?_) (fun h2 => ?_) <;> simp only [h2] <;> simp [Tryz.ntmps189, Tryz.results189] <;> (try simp only [Bool.not_eq_true', Bool.not_eq_false', decide_eq_true_eq, decide_eq_false_iff_not] at h2)
  · refine ⟨by decide +kernel, ?_⟩
    first | (exact fin0 (by simp [ansV, ansE, fitF, h1', h2]) rfl) | (refine ⟨by decide +kernel, ?_⟩; exact fin0 (by simp [ansV, ansE, fitF, h1', h2]) rfl)
  refine CW.callP (of_p f) Tryz.call251 rfl rfl rfl (by first | exact .inl rfl | exact .inr ⟨_, _, rfl, by simp⟩ | exact .inr ⟨_, _, rfl, by simp [*]⟩) rfl (by simp) rfl rfl (CW.runOps 9999 400 rfl ?_)
  simp [Tryz.ntmps189, Tryz.results189]
  refine CW.callP (of_p v.push) Tryz.call251 rfl rfl rfl (by first | exact .inl rfl | exact .inr ⟨_, _, rfl, by simp⟩ | exact .inr ⟨_, _, rfl, by simp [*]⟩) rfl (by simp) rfl rfl (CW.runOps 9999 400 rfl ?_)
  simp [Tryz.ntmps189, Tryz.results189]
  refine ⟨by decide +kernel, ?_⟩
  rw [fitF_not h2]
  refine run_br_split (fun h3 => ?_) (fun h3 => ?_) <;> simp only [h3] <;> simp [Tryz.ntmps189, Tryz.results189]
  · have h3' : fitF v f = false := by simpa using h3
    first | (exact fin0 (by simp [ansV, ansE, h1', h3']) rfl) | (refine ⟨by decide +kernel, ?_⟩; exact fin0 (by simp [ansV, ansE, h1', h3']) rfl)
  have h3' : fitF v f = true := by simpa using h3
  rw [ansV_open h1' h3']
  refine run_br_split (fun h4 => ?_) (fun h4 => ?_) <;> simp only [h4] <;> simp [Tryz.ntmps189, Tryz.results189] <;> (try simp only [Bool.not_eq_true', Bool.not_eq_false', decide_eq_true_eq, decide_eq_false_iff_not] at h4)
  · refine CW.callP (patch_p v.have_ v.push.adds v.push.gone hl hg) Tryz.call159 rfl rfl rfl (by first | exact .inl rfl | exact .inr ⟨_, _, rfl, by simp⟩ | exact .inr ⟨_, _, rfl, by simp [*]⟩) rfl (by simp) rfl rfl (CW.runOps 9999 400 rfl ?_)
    simp [Tryz.ntmps189, Tryz.results189]
    refine CW.callP (drain_p ⟨patchR v.have_ v.push.adds v.push.gone, v.held, v.turn, zFrame, false⟩ f.turn f.held) Tryz.call190 rfl rfl rfl (by first | exact .inl rfl | exact .inr ⟨_, _, rfl, by simp⟩ | exact .inr ⟨_, _, rfl, by simp [*]⟩) rfl (by simp [zFrame]) rfl rfl (CW.runOps 9999 400 rfl ?_)
    simp [zFrame, Tryz.ntmps189, Tryz.results189]
    refine ⟨by decide +kernel, ?_⟩
    first | (exact fin0 (by simp [ansE, h1', h3', h4, zFrame]) rfl) | (refine ⟨by decide +kernel, ?_⟩; exact fin0 (by simp [ansE, h1', h3', h4, zFrame]) rfl)
  · refine CW.callP (drain_p ⟨v.have_, v.held, v.turn, zFrame, false⟩ f.turn f.held) Tryz.call190 rfl rfl rfl (by first | exact .inl rfl | exact .inr ⟨_, _, rfl, by simp⟩ | exact .inr ⟨_, _, rfl, by simp [*]⟩) rfl (by simp [zFrame]) rfl rfl (CW.runOps 9999 400 rfl ?_)
    simp [zFrame, Tryz.ntmps189, Tryz.results189]
    refine ⟨by decide +kernel, ?_⟩
    first | (exact fin0 (by simp [ansE, h1', h3', h4, zFrame]) rfl) | (refine ⟨by decide +kernel, ?_⟩; exact fin0 (by simp [ansE, h1', h3', h4, zFrame]) rfl)
theorem marks_p (l : List Res) (hl : l.length ≤ 1000000) : Ct Tryz.prog 101 [lst (l.map resC)] [] [] (lst ((marksV l).map markC)) [] := by
  refine Ct.of_body Tryz.func101 rfl mixed (by rw [Tryz.ntmps101]; simp) (CW.run 9999 400 rfl ?_)
  simp [Tryz.ntmps101, Tryz.results101]
  refine LoopW.nilOwn 3 3 128 rfl ?_
  refine LoopW.inv mixed (Plain.retC _ _ _ _ _) rfl (ι := {k : Nat // k ≤ (l).length}) (fun k => [(3, .own 64), (6, lst (l.map resC)), (7, int l.length), (8, int k.1)]) (fun k => [(64, .grow 3 ((marksV (l.take k.1)).map markC) 128)]) 65 (fun k => (l).length - k.1) ⟨0, by omega⟩ [] (by constructor <;> simp) ?_
  rintro ⟨k, hk1⟩ B hB
  refine CW.run 9999 400 rfl ?_
  simp [Tryz.ntmps101, Tryz.results101]
  refine run_br_split (fun h => ?_) (fun h => ?_)
  · have hk : k < (l).length := by simpa using h
    have hr : (l)[k]? = some (l)[k] := List.getElem?_eq_getElem hk
    have hm : (l)[k] ∈ (l) := List.getElem_mem hk
    have ht : (l).take (k + 1) = (l).take k ++ [(l)[k]] := by rw [List.take_add_one, hr]; rfl
    have hd : (l).drop k = (l)[k] :: (l).drop (k + 1) := List.drop_eq_getElem_cons hk
    have hw : IntKind.wrap .i64 ((k : Int) + 1) = k + 1 := wrap_i64 (by omega) (by omega)
    obtain ⟨x, hx⟩ : ∃ x0, (l)[k] = x0 := ⟨_, rfl⟩
    rw [hx] at hr hm ht hd
    simp only [h]
    simp [hr, hw, Tryz.ntmps101, Tryz.results101]
    refine CW.callP (key_p x) Tryz.call97 rfl rfl rfl (by first | exact .inl rfl | exact .inr ⟨_, _, rfl, by simp⟩ | exact .inr ⟨_, _, rfl, by simp [*]⟩) rfl (by simp) rfl rfl (CW.runOps 9999 400 rfl ?_)
    simp [Tryz.ntmps101, Tryz.results101]
    refine ⟨by omega, ?_⟩
    refine ⟨by decide +kernel, ?_⟩
    refine hB _ ⟨k + 1, by omega⟩ [] ?_ (by simp; omega)
    constructor <;> simp [hw, ht, marksV_append]
  · have hkl : k = (l).length := by simp at h; omega
    subst hkl
    simp only [h]
    simp [List.take_length, List.drop_length, Tryz.ntmps101, Tryz.results101]
    first | (exact fin0 (by simp) rfl) | (refine ⟨by decide +kernel, ?_⟩; exact fin0 (by simp) rfl)
end Go.Proofs.YtbmnaehodmgibaaGreatDoor
end
section
namespace Go.Proofs.YtbmnaehodmgibaaGreatDoor
open Go.AI Go.G
set_option maxRecDepth 20000
end Go.Proofs.YtbmnaehodmgibaaGreatDoor
end
section
namespace Go.Proofs.YtbmnaehodmgibaaGreatDoor
open Go.ChangeShapes Go.WideShapes Go.ChangeAt Go.RowKit
open Go.AI Go.G
set_option maxRecDepth 20000
theorem ownT : ownKnob Tryz.prog.godebug = none := by kernel_rfl
theorem laidOutT : laidOutB Tryz.prog = true := by kernel_rfl
theorem sh_int : shT Tryz.prog 3 = .int .i64 := by kernel_rfl
theorem sh_bool : shT Tryz.prog 4 = .bool := by kernel_rfl
theorem sh_str : shT Tryz.prog 9 = .str := by kernel_rfl
theorem sh_err : shT Tryz.prog 28 = .int .i64 := by kernel_rfl
theorem sh_ints : shT Tryz.prog 83 = .sl 3 := by kernel_rfl
theorem sh_key : shT Tryz.prog 89 = .st [3, 9] := by kernel_rfl
theorem sh_keys : shT Tryz.prog 27 = .sl 89 := by kernel_rfl
theorem sh_w : shT Tryz.prog 242 = .st [9, 3] := by kernel_rfl
theorem sh_ws : shT Tryz.prog 238 = .sl 242 := by kernel_rfl
theorem sh_rule : shT Tryz.prog 240 = .st [9, 9, 238] := by kernel_rfl
theorem sh_rules : shT Tryz.prog 82 = .sl 240 := by kernel_rfl
theorem sh_res : shT Tryz.prog 85 = .st [3, 9, 3, 3, 9, 82, 83] := by kernel_rfl
theorem sh_ress : shT Tryz.prog 26 = .sl 85 := by kernel_rfl
variable {n : Nat} {ds : List D}
theorem is_nB {s : ByteArray} (h : s.size ≤ maxLen) : nB s := by
  have := size_bs s
  have e : maxLen = 9223372036854775807 := rfl
  unfold G.nB; omega
theorem is_len {α : Type} {l : List α} {f : α → List D} (h : (l.map f).length ≤ maxLen) : l.length ≤ 9223372036854775807 := by
  have e : maxLen = 9223372036854775807 := rfl
  rw [List.length_map] at h; omega
theorem is_key (h : Is Tryz.prog (n + 2) 89 ds) : ∃ k : Key, nB k.name ∧ ds = keyC k := by
  obtain ⟨_, _, h1, g1, rfl⟩ := isF_cons (is_st sh_key h)
  obtain ⟨_, _, h2, g2, rfl⟩ := isF_cons g1
  obtain rfl := isF_nil g2
  obtain ⟨a, _, rfl⟩ := is_int sh_int h1
  obtain ⟨b, hb, rfl⟩ := is_str sh_str h2
  exact ⟨⟨a, b⟩, is_nB hb, rfl⟩
theorem is_w (h : Is Tryz.prog (n + 2) 242 ds) : ∃ k : Weight, nB k.cluster ∧ ds = wC k := by
  obtain ⟨_, _, h1, g1, rfl⟩ := isF_cons (is_st sh_w h)
  obtain ⟨_, _, h2, g2, rfl⟩ := isF_cons g1
  obtain rfl := isF_nil g2
  obtain ⟨a, ha, rfl⟩ := is_str sh_str h1
  obtain ⟨b, _, rfl⟩ := is_int sh_int h2
  exact ⟨⟨a, b⟩, is_nB ha, rfl⟩
theorem is_rule (h : Is Tryz.prog (n + 4) 240 ds) : ∃ x : Rule, x.split.length ≤ 9223372036854775807 ∧ ds = ruleC x := by
  obtain ⟨_, _, h1, g1, rfl⟩ := isF_cons (is_st sh_rule h)
  obtain ⟨_, _, h2, g2, rfl⟩ := isF_cons g1
  obtain ⟨_, _, h3, g3, rfl⟩ := isF_cons g2
  obtain rfl := isF_nil g3
  obtain ⟨a, ha, rfl⟩ := is_str sh_str h1
  obtain ⟨b, hb, rfl⟩ := is_str sh_str h2
  obtain ⟨es, he, h4, rfl⟩ := is_sl sh_ws h3
  obtain ⟨l, _, rfl⟩ := is_list (fun c => is_w) h4
  exact ⟨⟨a, b, l⟩, is_len he, rfl⟩
theorem is_intc (h : Is Tryz.prog (n + 1) 3 ds) : ∃ x : Int, True ∧ ds = intC x := by
  obtain ⟨a, _, rfl⟩ := is_int sh_int h
  exact ⟨a, trivial, rfl⟩
theorem is_res (h : Is Tryz.prog (n + 6) 85 ds) : ∃ r : Res, OkRes r ∧ ds = resC r := by
  obtain ⟨_, _, h1, g1, rfl⟩ := isF_cons (is_st sh_res h)
  obtain ⟨_, _, h2, g2, rfl⟩ := isF_cons g1
  obtain ⟨_, _, h3, g3, rfl⟩ := isF_cons g2
  obtain ⟨_, _, h4, g4, rfl⟩ := isF_cons g3
  obtain ⟨_, _, h5, g5, rfl⟩ := isF_cons g4
  obtain ⟨_, _, h6, g6, rfl⟩ := isF_cons g5
  obtain ⟨_, _, h7, g7, rfl⟩ := isF_cons g6
  obtain rfl := isF_nil g7
  obtain ⟨a, _, rfl⟩ := is_int sh_int h1
  obtain ⟨b, hb, rfl⟩ := is_str sh_str h2
  obtain ⟨c, _, rfl⟩ := is_int sh_int h3
  obtain ⟨d, _, rfl⟩ := is_int sh_int h4
  obtain ⟨e, he, rfl⟩ := is_str sh_str h5
  obtain ⟨es, hes, h8, rfl⟩ := is_sl sh_rules h6
  obtain ⟨l, hl, rfl⟩ := is_list (fun c => is_rule) h8
  obtain ⟨fs, hfs, h9, rfl⟩ := is_sl sh_ints h7
  obtain ⟨m, _, rfl⟩ := is_list (fun c => is_intc) h9
  exact ⟨⟨a, b, c, d, e, l, m⟩, ⟨is_nB hb, is_nB he, is_len hes, hl, is_len hfs⟩, rfl⟩
theorem is_ress (h : Is Tryz.prog (n + 7) 26 ds) : ∃ l : List Res, OkRs l ∧ ds = [lD (l.map resC)] := by
  obtain ⟨es, he, h1, rfl⟩ := is_sl sh_ress h
  obtain ⟨l, hl, rfl⟩ := is_list (fun c => is_res) h1
  exact ⟨l, ⟨is_len he, hl⟩, rfl⟩
theorem is_keys (h : Is Tryz.prog (n + 3) 27 ds) : ∃ l : List Key, (l.length ≤ 9223372036854775807 ∧ ∀ k ∈ l, nB k.name) ∧ ds = [lD (l.map keyC)] := by
  obtain ⟨es, he, h1, rfl⟩ := is_sl sh_keys h
  obtain ⟨l, hl, rfl⟩ := is_list (fun c => is_key) h1
  exact ⟨l, ⟨is_len he, hl⟩, rfl⟩
end Go.Proofs.YtbmnaehodmgibaaGreatDoor
end
section
namespace Go.Proofs.YtbmnaehodmgibaaGreatDoor
open Go.ChangeShapes Go.WideShapes Go.ChangeAt Go.RowKit
open Go.AI Go.G
set_option maxRecDepth 20000
theorem sh_mark : shT Tryz.prog 122 = .st [89, 3] := by kernel_rfl
theorem sh_marks : shT Tryz.prog 29 = .sl 122 := by kernel_rfl
theorem sh_frame : shT Tryz.prog 31 = .st [3, 3, 3, 3, 3, 26, 27, 28, 29, 27] := by kernel_rfl
theorem sh_view : shT Tryz.prog 33 = .st [26, 27, 3, 31, 4] := by kernel_rfl
variable {n : Nat} {ds : List D}
theorem is_mark (h : Is Tryz.prog (n + 3) 122 ds) : ∃ m : G.Mark, nB m.k.name ∧ ds = markC m := by
  obtain ⟨_, _, h1, g1, rfl⟩ := isF_cons (is_st sh_mark h)
  obtain ⟨_, _, h2, g2, rfl⟩ := isF_cons g1
  obtain rfl := isF_nil g2
  obtain ⟨k, hk, rfl⟩ := is_key h1
  obtain ⟨a, _, rfl⟩ := is_int sh_int h2
  exact ⟨⟨k, a⟩, hk, rfl⟩
theorem is_marks (h : Is Tryz.prog (n + 4) 29 ds) : ∃ l : List G.Mark, (l.length ≤ 9223372036854775807 ∧ ∀ m ∈ l, nB m.k.name) ∧ ds = [lD (l.map markC)] := by
  obtain ⟨es, he, h1, rfl⟩ := is_sl sh_marks h
  obtain ⟨l, hl, rfl⟩ := is_list (fun c => is_mark) h1
  exact ⟨l, ⟨is_len he, hl⟩, rfl⟩
theorem is_frame (h : Is Tryz.prog (n + 8) 31 ds) : ∃ f : G.Frame, OkFrame f ∧ ds = frameC f := by
  obtain ⟨_, _, h1, g1, rfl⟩ := isF_cons (is_st sh_frame h)
  obtain ⟨_, _, h2, g2, rfl⟩ := isF_cons g1
  obtain ⟨_, _, h3, g3, rfl⟩ := isF_cons g2
  obtain ⟨_, _, h4, g4, rfl⟩ := isF_cons g3
  obtain ⟨_, _, h5, g5, rfl⟩ := isF_cons g4
  obtain ⟨_, _, h6, g6, rfl⟩ := isF_cons g5
  obtain ⟨_, _, h7, g7, rfl⟩ := isF_cons g6
  obtain ⟨_, _, h8, g8, rfl⟩ := isF_cons g7
  obtain ⟨_, _, h9, g9, rfl⟩ := isF_cons g8
  obtain ⟨_, _, h10, g10, rfl⟩ := isF_cons g9
  obtain rfl := isF_nil g10
  obtain ⟨a, _, rfl⟩ := is_int sh_int h1
  obtain ⟨b, _, rfl⟩ := is_int sh_int h2
  obtain ⟨c, _, rfl⟩ := is_int sh_int h3
  obtain ⟨d, _, rfl⟩ := is_int sh_int h4
  obtain ⟨e, _, rfl⟩ := is_int sh_int h5
  obtain ⟨l, hl, rfl⟩ := is_ress h6
  obtain ⟨g, ⟨hg, _⟩, rfl⟩ := is_keys h7
  obtain ⟨er, _, rfl⟩ := is_int sh_err h8
  obtain ⟨m, ⟨hm, _⟩, rfl⟩ := is_marks h9
  obtain ⟨q, ⟨hq, _⟩, rfl⟩ := is_keys h10
  exact ⟨⟨a, b, c, d, e, l, g, er, m, q⟩, ⟨hl, hg, hm, hq⟩, rfl⟩
theorem is_view (h : Is Tryz.prog (n + 9) 33 ds) : ∃ v : View, OkView v ∧ ds = viewC v := by
  obtain ⟨_, _, h1, g1, rfl⟩ := isF_cons (is_st sh_view h)
  obtain ⟨_, _, h2, g2, rfl⟩ := isF_cons g1
  obtain ⟨_, _, h3, g3, rfl⟩ := isF_cons g2
  obtain ⟨_, _, h4, g4, rfl⟩ := isF_cons g3
  obtain ⟨_, _, h5, g5, rfl⟩ := isF_cons g4
  obtain rfl := isF_nil g5
  obtain ⟨l, hl, rfl⟩ := is_ress h1
  obtain ⟨q, ⟨hq, _⟩, rfl⟩ := is_keys h2
  obtain ⟨t, _, rfl⟩ := is_int sh_int h3
  obtain ⟨f, hf, rfl⟩ := is_frame h4
  obtain ⟨o, rfl⟩ := is_bool sh_bool h5
  exact ⟨⟨l, q, t, f, o⟩, ⟨hl, hq, hf⟩, rfl⟩
end Go.Proofs.YtbmnaehodmgibaaGreatDoor
end
