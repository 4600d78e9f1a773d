/-
  LAYERS 3, 6, 14: the walks of the program's references and views, of the laws' own helpers; what the laws' arguments are.
-/
import Derived.Test.YtnmocaniljacpaaGreatDoorWb
import Derived.Test.YtnmocaniljacpaaGreatDoorPl
import Derived.Test.YtnmocaniljacpaaGreatDoorTy
import Derived.Test.YtnmocaniljacpaaGreatDoorFc
set_option linter.unusedSimpArgs false
set_option linter.unusedVariables false
section
namespace Go.Proofs.YtnmocaniljacpaaGreatDoor
open Go.AI Go.G
set_option maxRecDepth 20000

-- slices.Compact[[]groyne/api.Key,groyne/api.Key]
theorem compact_p (l : List Key) (hl : l.length ≤ 1000000) : Ct Tryz.prog 59 [.own 0] [] [(0, .grow 2 (l.map keyC) 45)] (lst ((compK l).map keyC)) [] := by
  refine Ct.of_body Tryz.func59 rfl mixed (by rw [Tryz.ntmps59]; simp) (CW.run 9999 400 rfl ?_)
  simp [Tryz.ntmps59, Tryz.results59]
  refine run_br_split (fun h0 => ?_) (fun h0 => ?_) <;> simp only [h0] <;> simp [Tryz.ntmps59, Tryz.results59] <;> (try simp only [Bool.not_eq_true', Bool.not_eq_false', decide_eq_true_eq, decide_eq_false_iff_not] at h0)
  · have e : compK l = l := comp_short h0
    first | (refine ⟨[], ?_, ?_, ?_, ?_, ?_, ?_, ?_⟩ <;> simp [nmF, inB, e]; done) | (refine ⟨by decide +kernel, ?_⟩; refine ⟨[], ?_, ?_, ?_, ?_, ?_, ?_, ?_⟩ <;> simp [nmF, inB, e])
  refine LoopW.inv mixed (Plain.retC _ _ _ _ _) rfl (ι := {k : Nat // k + 1 ≤ l.length ∧ compK (l.take (k + 1)) = l.take (k + 1)}) (fun k => [(0, .own 0), (3, int ((k.1 : Int) + 1))]) (fun k => [(0, .grow 2 (l.map keyC) 45)]) 64 (fun k => l.length - k.1) ⟨0, by omega, comp_first l⟩ [] (by constructor <;> simp) ?_
  rintro ⟨m, hk1, hi⟩ B hB
  refine CW.run 9999 400 rfl ?_
  simp [Tryz.ntmps59, Tryz.results59]
  refine run_br_split (fun h => ?_) (fun h => ?_) <;> simp only [h] <;> simp [Tryz.ntmps59, Tryz.results59] <;> (try simp only [Bool.not_eq_true', Bool.not_eq_false', decide_eq_true_eq, decide_eq_false_iff_not] at h)
  · have hk : m + 1 < l.length := by omega
    have hk' : m < l.length := by omega
    have hv : l[m + 1]? = some l[m + 1] := List.getElem?_eq_getElem hk
    have hq : l[m]? = some l[m] := List.getElem?_eq_getElem hk'
    have w0 : IntKind.wrap .i64 (m : Int) = m := wrap_i64 (by omega) (by omega)
    have w1 : IntKind.wrap .i64 ((m : Int) + 1 + 1) = (m : Int) + 1 + 1 := wrap_i64 (by omega) (by omega)
    have c1 : (0 : Int) ≤ (m : Int) + 1 := by omega
    have c2 : (m : Int) < l.length := by omega
    generalize hvu : l[m + 1] = u at hv
    generalize hqu : l[m] = q0 at hq
    have hs := comp_step (by omega) (show l[m + 1 - 1]? = _ from hq) hv
    simp [h, hvu, hqu, c1, c2, hv, hq, w0, Tryz.ntmps59, Tryz.results59]
    rw [key_eq]
    refine ⟨by decide +kernel, ?_⟩
    refine run_br_split (fun h2 => ?_) (fun h2 => ?_) <;> simp only [h2] <;> simp [hv, hq, Tryz.ntmps59, Tryz.results59] <;> (try simp only [Bool.not_eq_true', Bool.not_eq_false', decide_eq_true_eq, decide_eq_false_iff_not] at h2)
    · refine ⟨by omega, ?_⟩
      rw [h2] at hv
      have d0 : CompSt l (m + 2 + 0) (m + 1) l := CompSt.start (by omega) hi hq hv
      clear hv hq hs w0 w1 c1 c2 hi hB
      refine LoopW.inv mixed (Plain.retC _ _ _ _ _) rfl (ι := {q : Nat × Nat × List Key // CompSt l (m + 2 + q.1) q.2.1 q.2.2}) (fun k => [(0, .own 0), (3, int k.1.2.1), (4, .sl 0 2 (m + 1) (l.length - (m + 1))), (5, int ((k.1.1 : Int) + 1))]) (fun k => [(0, .grow 2 (k.1.2.2.map keyC) 45)]) 64 (fun k => l.length - k.1.1) ⟨(0, m + 1, l), d0⟩ [] (by constructor <;> simp) ?_
      rintro ⟨⟨d, i, cur⟩, hd⟩ B hB
      have hlen := hd.len
      have hlt := hd.lt
      have hle := hd.le
      simp only at hlen hlt hle
      have w1 : IntKind.wrap .i64 ((d : Int) + 1 + 1) = d + 1 + 1 := wrap_i64 (by omega) (by omega)
      have w2 : IntKind.wrap .i64 ((i : Int) + 1) = i + 1 := wrap_i64 (by omega) (by omega)
      have w0 : IntKind.wrap .i64 (d : Int) = d := wrap_i64 (by omega) (by omega)
      refine CW.run 9999 400 rfl ?_
      simp [hlen, Tryz.ntmps59, Tryz.results59]
      refine run_br_split (fun h3 => ?_) (fun h3 => ?_) <;> simp only [h3] <;> simp [Tryz.ntmps59, Tryz.results59] <;> (try simp only [Bool.not_eq_true', Bool.not_eq_false', decide_eq_true_eq, decide_eq_false_iff_not] at h3)
      · have hj : m + 1 + (d + 1) < l.length := by omega
        have hj' : m + 1 + d < l.length := by omega
        have hv : l[m + 2 + d]? = some l[m + 1 + (d + 1)] := by rw [← List.getElem?_eq_getElem hj]; congr 1; omega
        have hq : l[m + 2 + d - 1]? = some l[m + 1 + d] := by rw [← List.getElem?_eq_getElem hj']; congr 1; omega
        generalize l[m + 1 + (d + 1)] = v at hv
        generalize l[m + 1 + d] = q at hq
        have hg : cur[m + 1 + (d + 1)]? = some v := by have := hd.get hv; rwa [show m + 2 + d = m + 1 + (d + 1) by omega] at this
        have hg' : cur[m + 1 + d]? = some q := by have := hd.get' hq; rwa [show m + 2 + d - 1 = m + 1 + d by omega] at this
        have c1 : (0 : Int) ≤ (d : Int) + 1 := by omega
        have c2 : (d : Int) < ((l.length - (m + 1) : Nat) : Int) := by omega
        simp [h3, c1, c2, w0, hg, hg', Tryz.ntmps59, Tryz.results59]
        rw [key_ne]
        refine ⟨by decide +kernel, ?_⟩
        have hic : i < cur.length := by omega
        refine run_br_split (fun h4 => ?_) (fun h4 => ?_) <;> simp only [h4] <;> simp [h3, c1, c2, hg, hg', hic, Tryz.ntmps59, Tryz.results59] <;> (try simp only [Bool.not_eq_true', Bool.not_eq_false', decide_eq_true_eq, decide_eq_false_iff_not] at h4)
        · refine hB _ ⟨(d + 1, i + 1, cur.set i v), by exact hd.keep hv hq (fun e => h4 e.symm)⟩ [] ?_ (by simp; omega)
          constructor <;> simp [w1, w2, List.map_set]
        · rw [← h4] at hq
          refine hB _ ⟨(d + 1, i, cur), by exact hd.same hv hq⟩ [] ?_ (by simp; omega)
          constructor <;> simp [w1]
      · have hj : m + 2 + d = l.length := by omega
        simp only at hd
        rw [hj] at hd
        have e : cur.take i = compK l := hd.done
        have e2 : List.take i (List.map keyC cur) = List.map keyC (compK l) := by rw [← List.map_take, e]
        have e3 : (compK l).length = i := by rw [← e, List.length_take]; omega
        refine ⟨by omega, by omega, by omega, ?_⟩
        rw [e2]
        first | (refine ⟨[], ?_, ?_, ?_, ?_, ?_, ?_, ?_⟩ <;> simp [nmF, inB, e3, List.take_append, show i ≤ i + (l.length - i + (l.length - (i + (l.length - i)))) from by omega]; done) | (refine ⟨by decide +kernel, ?_⟩; refine ⟨[], ?_, ?_, ?_, ?_, ?_, ?_, ?_⟩ <;> simp [nmF, inB, e3, List.take_append, show i ≤ i + (l.length - i + (l.length - (i + (l.length - i)))) from by omega])
    · rw [if_neg (fun e => h2 e.symm)] at hs
      refine hB _ ⟨m + 1, by omega, by rw [hs, hi, List.take_add_one (i := m + 1), hv]; rfl⟩ [] ?_ (by simp; omega)
      constructor <;> simp [w1]
  · have e : compK l = l := by
      have hl2 : m + 1 = l.length := by omega
      rw [hl2, List.take_length] at hi; exact hi
    first | (refine ⟨[], ?_, ?_, ?_, ?_, ?_, ?_, ?_⟩ <;> simp [nmF, inB, e]; done) | (refine ⟨by decide +kernel, ?_⟩; refine ⟨[], ?_, ?_, ?_, ?_, ?_, ?_, ?_⟩ <;> simp [nmF, inB, e])

end Go.Proofs.YtnmocaniljacpaaGreatDoor
end
section
namespace Go.Proofs.YtnmocaniljacpaaGreatDoor
open Go.AI Go.G Go.Sort Go.Proofs Go.RowKit Go.Shelf
set_option maxRecDepth 20000
def keyV (k : Key) : List Value := [.int .i64 k.kind, .string k.name]
instance keyInh : Inhabited Key := ⟨⟨0, .empty⟩⟩
theorem sort_p (l : List Key) (hl : l.length < 4611686018427387904) : Ct Tryz.prog 58 [.own 0, .d (fnD 54)] [] [(0, .grow 2 (l.map keyC) 45)] (.d (.v (.tuple #[]))) [(0, .grow 2 ((sortK l).map keyC) 45)] :=
  Ct.sort (enc := keyV) (k := 2) (cf := cmpK) (sortL := sortK) (by decide) (fun _ => rfl) (fun x v hv => by simp [keyV] at hv; rcases hv with rfl | rfl <;> rfl) sortK_length
    (fun p cap fv w => AnyF.slices_SortFunc_none { Tryz.sortKeys with } p cap fv w)
    (fun blk off cap d w hc hH hb hs => AnyQ.slices_SortFunc_total Tryz.sortKeys 2 (fun w => by kernel_rfl) (fun w => by kernel_rfl) keyV (fun _ => rfl) (fun x v hv => by simp [keyV] at hv; rcases hv with rfl | rfl <;> rfl) cmpK swoK 54 #[] blk off cap d w Tryz.call54 hc hH hb hs (fun x y h1 h2 => ltK_tot h1 h2))
    (fun a b => cmpK_p a b) hl
end Go.Proofs.YtnmocaniljacpaaGreatDoor
end
section
namespace Go.Proofs.YtnmocaniljacpaaGreatDoor
open Go.AI Go.G
set_option maxRecDepth 20000
-- groyne/res.Refs
theorem refs_p (r : Res) : Ct Tryz.prog 57 [st (resC r)] [] [] (lst ((refsK r).map keyC)) [] := by
  refine Ct.of_body Tryz.func57 rfl mixed (by rw [Tryz.ntmps57]; simp) (CW.run 9999 400 rfl ?_)
  simp [Tryz.ntmps57, Tryz.results57]
  refine CW.callP (sane_p r) Tryz.call53 rfl rfl rfl (by first | exact .inl rfl | exact .inr ⟨_, _, rfl, by simp⟩ | exact .inr ⟨_, _, rfl, by simp [*]⟩) rfl (by simp) rfl rfl (CW.runOps 9999 400 rfl ?_)
  simp [Tryz.ntmps57, Tryz.results57]
  refine run_br_split (fun h1 => ?_) (fun h1 => ?_) <;> simp only [h1] <;> simp [Tryz.ntmps57, Tryz.results57] <;> (try simp only [Bool.not_eq_true', Bool.not_eq_false', decide_eq_true_eq, decide_eq_false_iff_not] at h1)
  · first | (exact fin0 (by simp [refsK, h1]) rfl) | (refine ⟨by decide +kernel, ?_⟩; exact fin0 (by simp [refsK, h1]) rfl)
  obtain ⟨hk0, hn, hs, hsh, hnm, hsg⟩ := sane_parts h1
  have hk := rng_yes.1 hk0
  have hb := small_bounds hs
  have hwk : IntKind.wrap .i64 (r.kind + 1) = r.kind + 1 := wrap_i64 (by omega) (by omega)
  refine run_br_split (fun h2 => ?_) (fun h2 => ?_) <;> simp only [h2] <;> simp [Tryz.ntmps57, Tryz.results57] <;> (try simp only [Bool.not_eq_true', Bool.not_eq_false', decide_eq_true_eq, decide_eq_false_iff_not] at h2)
  · have hto : ¬ bs r.to = [] := fun e => h2 (bs_inj e)
    have hr0 := to_rules hsh hto
    have h0 : outP r 0 = [⟨r.kind + 1, r.to⟩] := by rw [outP_zero, if_neg hto]
    have e := outP_refs h1
    rw [hr0] at e
    simp only [List.length_nil, h0] at e
    simp [hr0, hwk, Tryz.ntmps57, Tryz.results57]
    refine LoopW.unroll mixed (Plain.retC _ _ _ _ _) rfl ?_
    refine CW.run 9999 400 rfl ?_
    simp [Tryz.ntmps57, Tryz.results57]
    refine CW.callC [1152] (sort_p [⟨r.kind + 1, r.to⟩] (by simp)) Tryz.call58 rfl rfl rfl (by first | exact .inl rfl | exact .inr ⟨_, _, rfl, by simp⟩ | exact .inr ⟨_, _, rfl, by simp [*]⟩) rfl (by simp) (by constructor <;> simp [nmOk]) (by simp) (CW.runOps 9999 400 rfl ?_)
    simp [Tryz.ntmps57, Tryz.results57]
    refine CW.callC [1152] (compact_p (sortK [⟨r.kind + 1, r.to⟩]) (by rw [sortK_length]; simp)) Tryz.call59 rfl rfl rfl (by first | exact .inl rfl | exact .inr ⟨_, _, rfl, by simp⟩ | exact .inr ⟨_, _, rfl, by simp [*]⟩) rfl (by simp) (by constructor <;> simp [nmOk]) (by simp) (CW.runOps 9999 400 rfl ?_)
    simp [Tryz.ntmps57, Tryz.results57]
    rw [e]
    first | (exact fin0 (by simp) rfl) | (refine ⟨by decide +kernel, ?_⟩; exact fin0 (by simp) rfl)
  · have hto : bs r.to = [] := by
      have : r.to = ⟨#[]⟩ := by simpa using h2
      rw [this]; rfl
    have h0 : outP r 0 = [] := by rw [outP_zero, if_pos hto]
    refine LoopW.nilOwn 3 2 45 rfl ?_
    refine LoopW.inv mixed (Plain.retC _ _ _ _ _) rfl (ι := {k : Nat // k ≤ (r.rules).length}) (fun k => [(1, .ptr 64 0), (3, .own 65), (24, lst (r.rules.map ruleC)), (25, int r.rules.length), (26, int k.1)]) (fun k => [(64, .cells ((resC r).map .d) 51), (65, .grow 2 ((outP r k.1).map keyC) 45)]) 66 (fun k => (r.rules).length - k.1) ⟨0, by omega⟩ [] (by constructor <;> simp [h0]) ?_
    rintro ⟨k, hk1⟩ B hB
    refine CW.run 9999 400 rfl ?_
    simp [h0, Tryz.ntmps57, Tryz.results57]
    refine run_br_split (fun h => ?_) (fun h => ?_)
    · have hk : k < (r.rules).length := by simpa using h
      have hr : (r.rules)[k]? = some (r.rules)[k] := List.getElem?_eq_getElem hk
      have hm : (r.rules)[k] ∈ (r.rules) := List.getElem_mem hk
      have ht : (r.rules).take (k + 1) = (r.rules).take k ++ [(r.rules)[k]] := by rw [List.take_add_one, hr]; rfl
      have hd : (r.rules).drop k = (r.rules)[k] :: (r.rules).drop (k + 1) := List.drop_eq_getElem_cons hk
      have hw : IntKind.wrap .i64 ((k : Int) + 1) = k + 1 := wrap_i64 (by omega) (by omega)
      obtain ⟨x, hx⟩ : ∃ x0, (r.rules)[k] = x0 := ⟨_, rfl⟩
      rw [hx] at hr hm ht hd
      simp only [h]
      simp [hr, hw, Tryz.ntmps57, Tryz.results57]
      have h7 := hb.2.2 x hm
      refine LoopW.inv mixed (Plain.retC _ _ _ _ _) rfl (ι := {kj : Nat // kj ≤ (x.split).length}) (fun kj => [(1, .ptr 64 0), (3, .own 65), (24, lst (r.rules.map ruleC)), (25, int r.rules.length), (26, int k), (31, lst (x.split.map wC)), (32, int x.split.length), (33, int kj.1)]) (fun kj => [(64, .cells ((resC r).map .d) 51), (65, .grow 2 ((outP r k ++ ((x.split.take kj.1).filter fun w => decide (0 < w.w)).map toKey).map keyC) 45)]) 66 (fun kj => (x.split).length - kj.1) ⟨0, by omega⟩ [] (by constructor <;> simp [hr]) ?_
      rintro ⟨kj, hk1j⟩ Bj hBj
      refine CW.run 9999 400 rfl ?_
      simp [hr, Tryz.ntmps57, Tryz.results57]
      refine run_br_split (fun hj => ?_) (fun hj => ?_)
      · have hkj : kj < (x.split).length := by simpa using hj
        have hrj : (x.split)[kj]? = some (x.split)[kj] := List.getElem?_eq_getElem hkj
        have hmj : (x.split)[kj] ∈ (x.split) := List.getElem_mem hkj
        have htj : (x.split).take (kj + 1) = (x.split).take kj ++ [(x.split)[kj]] := by rw [List.take_add_one, hrj]; rfl
        have hdj : (x.split).drop kj = (x.split)[kj] :: (x.split).drop (kj + 1) := List.drop_eq_getElem_cons hkj
        have hwj : IntKind.wrap .i64 ((kj : Int) + 1) = kj + 1 := wrap_i64 (by omega) (by omega)
        obtain ⟨w, hxj⟩ : ∃ x0, (x.split)[kj] = x0 := ⟨_, rfl⟩
        rw [hxj] at hrj hmj htj hdj
        simp only [hj]
        simp [hrj, hwj, hr, Tryz.ntmps57, Tryz.results57]
        have hlen := outP_len k hb.1 hb.2.2
        have h8 : ((x.split.take kj).filter fun w => decide (0 < w.w)).length ≤ 4 := Nat.le_trans (List.length_filter_le _ _) (Nat.le_trans (by simp; omega) h7)
        refine run_br_split (fun h4 => ?_) (fun h4 => ?_) <;> simp only [h4] <;> simp [hr, hrj, Tryz.ntmps57, Tryz.results57] <;> (try simp only [Bool.not_eq_true', Bool.not_eq_false', decide_eq_true_eq, decide_eq_false_iff_not] at h4)
        · refine ⟨by omega, ?_⟩
          refine hBj _ ⟨kj + 1, by omega⟩ [] ?_ (by simp; omega)
          constructor <;> simp [hwj, htj, List.filter_append, h4, hwj]
        · refine hBj _ ⟨kj + 1, by omega⟩ [] ?_ (by simp; omega)
          constructor <;> simp [hwj, htj, List.filter_append, h4, hwj]
      · have hklj : kj = (x.split).length := by simp at hj; omega
        subst hklj
        simp only [hj]
        simp [List.take_length, List.drop_length, hw, Tryz.ntmps57, Tryz.results57]
        refine hB _ ⟨k + 1, by omega⟩ [] ?_ (by simp; omega)
        constructor <;> simp [hw, ht, outP_succ ht, List.map_append]
    · have hkl : k = (r.rules).length := by simp at h; omega
      subst hkl
      simp only [h]
      simp [List.take_length, List.drop_length, Tryz.ntmps57, Tryz.results57]
      have hlen := outP_len r.rules.length hb.1 hb.2.2
      refine CW.callC [65] (sort_p (outP r r.rules.length) (by omega)) Tryz.call58 rfl rfl rfl (by first | exact .inl rfl | exact .inr ⟨_, _, rfl, by simp⟩ | exact .inr ⟨_, _, rfl, by simp [*]⟩) rfl (by simp) (by constructor <;> simp [nmOk]) (by simp) (CW.runOps 9999 400 rfl ?_)
      simp [Tryz.ntmps57, Tryz.results57]
      refine CW.callC [65] (compact_p (sortK (outP r r.rules.length)) (by rw [sortK_length]; omega)) Tryz.call59 rfl rfl rfl (by first | exact .inl rfl | exact .inr ⟨_, _, rfl, by simp⟩ | exact .inr ⟨_, _, rfl, by simp [*]⟩) rfl (by simp) (by constructor <;> simp [nmOk]) (by simp) (CW.runOps 9999 400 rfl ?_)
      simp [Tryz.ntmps57, Tryz.results57]
      rw [outP_refs h1]
      first | (exact fin0 (by simp) rfl) | (refine ⟨by decide +kernel, ?_⟩; exact fin0 (by simp) rfl)

-- groyne/refs.Referrers
theorem refers_p (l : List Res) (k_ : Key) (hl : l.length ≤ 1000000) : Ct Tryz.prog 77 [lst (l.map resC), st (keyC k_)] [] [] (lst ((refersR l k_).map keyC)) [] := by
  refine Ct.of_body Tryz.func77 rfl mixed (by rw [Tryz.ntmps77]; simp) (CW.run 9999 400 rfl ?_)
  simp [Tryz.ntmps77, Tryz.results77]
  refine LoopW.nilOwn 5 2 45 rfl ?_
  refine LoopW.inv mixed (Plain.retC _ _ _ _ _) rfl (ι := {k : Nat // k ≤ (l).length}) (fun k => [(3, .ptr 64 0), (5, .own 65), (8, lst (l.map resC)), (9, int l.length), (10, int k.1)]) (fun k => [(64, .cells ((keyC k_).map .d) 45), (65, .grow 2 ((refersR (l.take k.1) k_).map keyC) 45)]) 66 (fun k => (l).length - k.1) ⟨0, by omega⟩ [] (by constructor <;> simp) ?_
  rintro ⟨k, hk1⟩ B hB
  refine CW.run 9999 400 rfl ?_
  simp [Tryz.ntmps77, Tryz.results77]
  refine run_br_split (fun h => ?_) (fun h => ?_)
  · have hk : k < (l).length := by simpa using h
    have hr : (l)[k]? = some (l)[k] := List.getElem?_eq_getElem hk
    have hm : (l)[k] ∈ (l) := List.getElem_mem hk
    have ht : (l).take (k + 1) = (l).take k ++ [(l)[k]] := by rw [List.take_add_one, hr]; rfl
    have hd : (l).drop k = (l)[k] :: (l).drop (k + 1) := List.drop_eq_getElem_cons hk
    have hw : IntKind.wrap .i64 ((k : Int) + 1) = k + 1 := wrap_i64 (by omega) (by omega)
    obtain ⟨x, hx⟩ : ∃ x0, (l)[k] = x0 := ⟨_, rfl⟩
    rw [hx] at hr hm ht hd
    simp only [h]
    simp [hr, hw, Tryz.ntmps77, Tryz.results77]
    have hlen : ((l.take k).filter fun r => decide (k_ ∈ refsK r)).length ≤ 1000000 := Nat.le_trans (List.length_filter_le _ _) (by simp; omega)
    refine CW.callP (refs_p x) Tryz.call57 rfl rfl rfl (by first | exact .inl rfl | exact .inr ⟨_, _, rfl, by simp⟩ | exact .inr ⟨_, _, rfl, by simp [*]⟩) rfl (by simp) rfl rfl (CW.runOps 9999 400 rfl ?_)
    simp [Tryz.ntmps77, Tryz.results77]
    refine CW.callP (hasK_p (refsK x) k_ (refs_le x)) Tryz.call76 rfl rfl rfl (by first | exact .inl rfl | exact .inr ⟨_, _, rfl, by simp⟩ | exact .inr ⟨_, _, rfl, by simp [*]⟩) rfl (by simp) rfl rfl (CW.runOps 9999 400 rfl ?_)
    simp [Tryz.ntmps77, Tryz.results77]
    refine ⟨by decide +kernel, ?_⟩
    refine run_br_split (fun h1 => ?_) (fun h1 => ?_) <;> simp only [h1] <;> simp [hr, Tryz.ntmps77, Tryz.results77] <;> (try simp only [Bool.not_eq_true', Bool.not_eq_false', decide_eq_true_eq, decide_eq_false_iff_not] at h1)
    · refine CW.callP (key_p x) Tryz.call32 rfl rfl rfl (by first | exact .inl rfl | exact .inr ⟨_, _, rfl, by simp⟩ | exact .inr ⟨_, _, rfl, by simp [*]⟩) rfl (by simp) rfl rfl (CW.runOps 9999 400 rfl ?_)
      simp [Tryz.ntmps77, Tryz.results77]
      refine ⟨by omega, ?_⟩
      refine hB _ ⟨k + 1, by omega⟩ [] ?_ (by simp; omega)
      constructor <;> simp [hw, ht, List.filter_append, h1]
    · refine hB _ ⟨k + 1, by omega⟩ [] ?_ (by simp; omega)
      constructor <;> simp [hw, ht, List.filter_append, h1]
  · have hkl : k = (l).length := by simp at h; omega
    subst hkl
    simp only [h]
    simp [List.take_length, List.drop_length, Tryz.ntmps77, Tryz.results77]
    first | (exact fin0 (by simp) rfl) | (refine ⟨by decide +kernel, ?_⟩; exact fin0 (by simp) rfl)
end Go.Proofs.YtnmocaniljacpaaGreatDoor
end
section
namespace Go.Proofs.YtnmocaniljacpaaGreatDoor
open Go.AI Go.G
set_option maxRecDepth 20000
-- groyne/view.Sent
theorem sent_p (v : View) (f : G.Frame) : Ct Tryz.prog 38 [st (viewC v), st (frameC f)] [] [] (st (viewC (sentV v f))) [] := by
  refine Ct.of_body Tryz.func38 rfl mixed (by rw [Tryz.ntmps38]; simp) (CW.run 9999 400 rfl ?_)
  simp [Tryz.ntmps38, Tryz.results38]
  first | (exact fin0 (by simp [sentV]) rfl) | (refine ⟨by decide +kernel, ?_⟩; exact fin0 (by simp [sentV]) rfl)

-- groyne/view.of
theorem of_p (f : G.Frame) : Ct Tryz.prog 73 [st (frameC f)] [] [] (.agg [int f.epoch, int f.kind, int f.nonce]) [] := by
  refine Ct.of_body Tryz.func73 rfl mixed (by rw [Tryz.ntmps73]; simp) (CW.run 9999 400 rfl ?_)
  simp [Tryz.ntmps73, Tryz.results73]
  first | (exact fin0 (by simp) rfl) | (refine ⟨by decide +kernel, ?_⟩; exact fin0 (by simp) rfl)

-- groyne/view.Drained
theorem drain_p (v : View) (t : Int) (h : List Key) : Ct Tryz.prog 75 [st (viewC v), int t, lst (h.map keyC)] [] [] (st (viewC (drainV v t h))) [] := by
  refine Ct.of_body Tryz.func75 rfl mixed (by rw [Tryz.ntmps75]; simp) (CW.run 9999 400 rfl ?_)
  simp [Tryz.ntmps75, Tryz.results75]
  refine run_br_split (fun h1 => ?_) (fun h1 => ?_) <;> simp only [h1] <;> simp [Tryz.ntmps75, Tryz.results75] <;> (try simp only [Bool.not_eq_true', Bool.not_eq_false', decide_eq_true_eq, decide_eq_false_iff_not] at h1)
  · first | (exact fin0 (by simp [drainV, h1]) rfl) | (refine ⟨by decide +kernel, ?_⟩; exact fin0 (by simp [drainV, h1]) rfl)
  · first | (exact fin0 (by simp [drainV, h1]) rfl) | (refine ⟨by decide +kernel, ?_⟩; exact fin0 (by simp [drainV, h1]) rfl)

-- groyne/view.Answered
theorem answered_p (v : View) (f : G.Frame) (hl : v.have_.length + v.push.adds.length ≤ 1000000) (hg : v.push.gone.length ≤ 9223372036854775807) : Ct Tryz.prog 39 [st (viewC v), st (frameC f)] [] [] (.tup [st (viewC (ansV v f)), int (ansE v f)]) [] := by
  refine Ct.of_body Tryz.func39 rfl mixed (by rw [Tryz.ntmps39]; simp) (CW.run 9999 400 rfl ?_)
  simp [Tryz.ntmps39, Tryz.results39]
  refine run_br_split (fun h1 => ?_) (fun h1 => ?_) <;> simp only [h1] <;> simp [Tryz.ntmps39, Tryz.results39]
  · have h1' : v.open_ = false := by simpa using h1
    first | (exact fin0 (by simp [ansV, ansE, h1']) rfl) | (refine ⟨by decide +kernel, ?_⟩; exact fin0 (by simp [ansV, ansE, h1']) rfl)
  have h1' : v.open_ = true := by simpa using h1
  refine run_gd_split (fun h2 => ?_) (fun h2 => ?_) <;> simp only [h2] <;> simp [Tryz.ntmps39, Tryz.results39] <;> (try simp only [Bool.not_eq_true', Bool.not_eq_false', decide_eq_true_eq, decide_eq_false_iff_not] at h2)
  · refine ⟨by decide +kernel, ?_⟩
    first | (exact fin0 (by simp [ansV, ansE, fitF, h1', h2]) rfl) | (refine ⟨by decide +kernel, ?_⟩; exact fin0 (by simp [ansV, ansE, fitF, h1', h2]) rfl)
  refine CW.callP (of_p f) Tryz.call73 rfl rfl rfl (by first | exact .inl rfl | exact .inr ⟨_, _, rfl, by simp⟩ | exact .inr ⟨_, _, rfl, by simp [*]⟩) rfl (by simp) rfl rfl (CW.runOps 9999 400 rfl ?_)
  simp [Tryz.ntmps39, Tryz.results39]
  refine CW.callP (of_p v.push) Tryz.call73 rfl rfl rfl (by first | exact .inl rfl | exact .inr ⟨_, _, rfl, by simp⟩ | exact .inr ⟨_, _, rfl, by simp [*]⟩) rfl (by simp) rfl rfl (CW.runOps 9999 400 rfl ?_)
  simp [Tryz.ntmps39, Tryz.results39]
  refine ⟨by decide +kernel, ?_⟩
  rw [fitF_not h2]
  refine run_br_split (fun h3 => ?_) (fun h3 => ?_) <;> simp only [h3] <;> simp [Tryz.ntmps39, Tryz.results39]
  · have h3' : fitF v f = false := by simpa using h3
    first | (exact fin0 (by simp [ansV, ansE, h1', h3']) rfl) | (refine ⟨by decide +kernel, ?_⟩; exact fin0 (by simp [ansV, ansE, h1', h3']) rfl)
  have h3' : fitF v f = true := by simpa using h3
  rw [ansV_open h1' h3']
  refine run_br_split (fun h4 => ?_) (fun h4 => ?_) <;> simp only [h4] <;> simp [Tryz.ntmps39, Tryz.results39] <;> (try simp only [Bool.not_eq_true', Bool.not_eq_false', decide_eq_true_eq, decide_eq_false_iff_not] at h4)
  · refine CW.callP (patch_p v.have_ v.push.adds v.push.gone hl hg) Tryz.call74 rfl rfl rfl (by first | exact .inl rfl | exact .inr ⟨_, _, rfl, by simp⟩ | exact .inr ⟨_, _, rfl, by simp [*]⟩) rfl (by simp) rfl rfl (CW.runOps 9999 400 rfl ?_)
    simp [Tryz.ntmps39, Tryz.results39]
    refine CW.callP (drain_p ⟨patchR v.have_ v.push.adds v.push.gone, v.held, v.turn, zFrame, false⟩ f.turn f.held) Tryz.call75 rfl rfl rfl (by first | exact .inl rfl | exact .inr ⟨_, _, rfl, by simp⟩ | exact .inr ⟨_, _, rfl, by simp [*]⟩) rfl (by simp [zFrame]) rfl rfl (CW.runOps 9999 400 rfl ?_)
    simp [zFrame, Tryz.ntmps39, Tryz.results39]
    refine ⟨by decide +kernel, ?_⟩
    first | (exact fin0 (by simp [ansE, h1', h3', h4, zFrame]) rfl) | (refine ⟨by decide +kernel, ?_⟩; exact fin0 (by simp [ansE, h1', h3', h4, zFrame]) rfl)
  · refine CW.callP (drain_p ⟨v.have_, v.held, v.turn, zFrame, false⟩ f.turn f.held) Tryz.call75 rfl rfl rfl (by first | exact .inl rfl | exact .inr ⟨_, _, rfl, by simp⟩ | exact .inr ⟨_, _, rfl, by simp [*]⟩) rfl (by simp [zFrame]) rfl rfl (CW.runOps 9999 400 rfl ?_)
    simp [zFrame, Tryz.ntmps39, Tryz.results39]
    refine ⟨by decide +kernel, ?_⟩
    first | (exact fin0 (by simp [ansE, h1', h3', h4, zFrame]) rfl) | (refine ⟨by decide +kernel, ?_⟩; exact fin0 (by simp [ansE, h1', h3', h4, zFrame]) rfl)

-- groyne/view.Free
theorem free_p (v : View) (k_ : Key) (hl : v.have_.length ≤ 1000000) (hh : v.held.length ≤ 9223372036854775807) : Ct Tryz.prog 40 [st (viewC v), st (keyC k_)] [] [] (bool (freeV v k_)) [] := by
  refine Ct.of_body Tryz.func40 rfl mixed (by rw [Tryz.ntmps40]; simp) (CW.run 9999 400 rfl ?_)
  simp [Tryz.ntmps40, Tryz.results40]
  refine CW.callP (get_p v.have_ k_ (by omega)) Tryz.call17 rfl rfl rfl (by first | exact .inl rfl | exact .inr ⟨_, _, rfl, by simp⟩ | exact .inr ⟨_, _, rfl, by simp [*]⟩) rfl (by simp) rfl rfl (CW.runOps 9999 400 rfl ?_)
  simp [Tryz.ntmps40, Tryz.results40]
  refine run_gd_split (fun h1 => ?_) (fun h1 => ?_) <;> simp only [h1] <;> simp [Tryz.ntmps40, Tryz.results40] <;> (try simp only [Bool.not_eq_true', Bool.not_eq_false', decide_eq_true_eq, decide_eq_false_iff_not] at h1)
  · refine CW.callP (hasK_p v.held k_ hh) Tryz.call76 rfl rfl rfl (by first | exact .inl rfl | exact .inr ⟨_, _, rfl, by simp⟩ | exact .inr ⟨_, _, rfl, by simp [*]⟩) rfl (by simp) rfl rfl (CW.runOps 9999 400 rfl ?_)
    simp [Tryz.ntmps40, Tryz.results40]
    refine run_gd_split (fun h2 => ?_) (fun h2 => ?_) <;> simp only [h2] <;> simp [Tryz.ntmps40, Tryz.results40] <;> (try simp only [Bool.not_eq_true', Bool.not_eq_false', decide_eq_true_eq, decide_eq_false_iff_not] at h2)
    · refine CW.callP (refers_p v.have_ k_ hl) Tryz.call77 rfl rfl rfl (by first | exact .inl rfl | exact .inr ⟨_, _, rfl, by simp⟩ | exact .inr ⟨_, _, rfl, by simp [*]⟩) rfl (by simp) rfl rfl (CW.runOps 9999 400 rfl ?_)
      simp [Tryz.ntmps40, Tryz.results40]
      first | (exact fin0 (by simp [freeV, h1, h2]) rfl) | (refine ⟨by decide +kernel, ?_⟩; exact fin0 (by simp [freeV, h1, h2]) rfl)
    · first | (exact fin0 (by simp [freeV, h2]) rfl) | (refine ⟨by decide +kernel, ?_⟩; exact fin0 (by simp [freeV, h2]) rfl)
  · first | (exact fin0 (by simp [freeV, h1]) rfl) | (refine ⟨by decide +kernel, ?_⟩; exact fin0 (by simp [freeV, h1]) rfl)

-- groyne/view.Marks
theorem marks_p (l : List Res) (hl : l.length ≤ 1000000) : Ct Tryz.prog 15 [lst (l.map resC)] [] [] (lst ((marksV l).map markC)) [] := by
  refine Ct.of_body Tryz.func15 rfl mixed (by rw [Tryz.ntmps15]; simp) (CW.run 9999 400 rfl ?_)
  simp [Tryz.ntmps15, Tryz.results15]
  refine LoopW.nilOwn 3 3 92 rfl ?_
  refine LoopW.inv mixed (Plain.retC _ _ _ _ _) rfl (ι := {k : Nat // k ≤ (l).length}) (fun k => [(3, .own 64), (6, lst (l.map resC)), (7, int l.length), (8, int k.1)]) (fun k => [(64, .grow 3 ((marksV (l.take k.1)).map markC) 92)]) 65 (fun k => (l).length - k.1) ⟨0, by omega⟩ [] (by constructor <;> simp) ?_
  rintro ⟨k, hk1⟩ B hB
  refine CW.run 9999 400 rfl ?_
  simp [Tryz.ntmps15, Tryz.results15]
  refine run_br_split (fun h => ?_) (fun h => ?_)
  · have hk : k < (l).length := by simpa using h
    have hr : (l)[k]? = some (l)[k] := List.getElem?_eq_getElem hk
    have hm : (l)[k] ∈ (l) := List.getElem_mem hk
    have ht : (l).take (k + 1) = (l).take k ++ [(l)[k]] := by rw [List.take_add_one, hr]; rfl
    have hd : (l).drop k = (l)[k] :: (l).drop (k + 1) := List.drop_eq_getElem_cons hk
    have hw : IntKind.wrap .i64 ((k : Int) + 1) = k + 1 := wrap_i64 (by omega) (by omega)
    obtain ⟨x, hx⟩ : ∃ x0, (l)[k] = x0 := ⟨_, rfl⟩
    rw [hx] at hr hm ht hd
    simp only [h]
    simp [hr, hw, Tryz.ntmps15, Tryz.results15]
    refine CW.callP (key_p x) Tryz.call32 rfl rfl rfl (by first | exact .inl rfl | exact .inr ⟨_, _, rfl, by simp⟩ | exact .inr ⟨_, _, rfl, by simp [*]⟩) rfl (by simp) rfl rfl (CW.runOps 9999 400 rfl ?_)
    simp [Tryz.ntmps15, Tryz.results15]
    refine ⟨by omega, ?_⟩
    refine ⟨by decide +kernel, ?_⟩
    refine hB _ ⟨k + 1, by omega⟩ [] ?_ (by simp; omega)
    constructor <;> simp [hw, ht, marksV_append]
  · have hkl : k = (l).length := by simp at h; omega
    subst hkl
    simp only [h]
    simp [List.take_length, List.drop_length, Tryz.ntmps15, Tryz.results15]
    first | (exact fin0 (by simp) rfl) | (refine ⟨by decide +kernel, ?_⟩; exact fin0 (by simp) rfl)

end Go.Proofs.YtnmocaniljacpaaGreatDoor
end
section
namespace Go.Proofs.YtnmocaniljacpaaGreatDoor
open Go.AI Go.G
set_option maxRecDepth 20000
-- groyne/groynelaw14.frame1
theorem frame1_l (f : G.Frame) (hl : f.have_.length ≤ 1000000) : Ct Tryz.prog 16 [st (frameC f)] [] [] (st (frameC f)) [] := by
  refine Ct.of_body Tryz.func16 rfl mixed (by rw [Tryz.ntmps16]; simp) (CW.run 9999 400 rfl ?_)
  simp [Tryz.ntmps16, Tryz.results16]
  refine LoopW.nilCell 1408 8 3 92 40 _ rfl rfl ?_
  refine LoopW.inv mixed (Plain.retC _ _ _ _ _) rfl (ι := {k : Nat // k ≤ (f.have_).length}) (fun k => [(1, .ptr 64 0), (2, .ptr 65 0), (3, .ptr 66 0), (4, int k.1)]) (fun k => [(64, .cells ((frameC f).map .d) 43), (65, .cells ((frameC zFrame).map .d) 40), (66, .cells [int f.type, int f.epoch, int f.kind, int f.nonce, int f.turn, lst (f.adds.map resC), lst (f.gone.map keyC), int f.err, .own 67, lst (f.held.map keyC)] 40), (67, .grow 3 ((f.have_.take k.1).map markC) 92)]) 68 (fun k => (f.have_).length - k.1) ⟨0, by omega⟩ [] (by constructor <;> simp [zFrame]) ?_
  rintro ⟨k, hk1⟩ B hB
  refine CW.run 9999 400 rfl ?_
  simp [zFrame, Tryz.ntmps16, Tryz.results16]
  refine run_br_split (fun h => ?_) (fun h => ?_)
  · have hk : k < (f.have_).length := by simpa using h
    have hr : (f.have_)[k]? = some (f.have_)[k] := List.getElem?_eq_getElem hk
    have hm : (f.have_)[k] ∈ (f.have_) := List.getElem_mem hk
    have ht : (f.have_).take (k + 1) = (f.have_).take k ++ [(f.have_)[k]] := by rw [List.take_add_one, hr]; rfl
    have hd : (f.have_).drop k = (f.have_)[k] :: (f.have_).drop (k + 1) := List.drop_eq_getElem_cons hk
    have hw : IntKind.wrap .i64 ((k : Int) + 1) = k + 1 := wrap_i64 (by omega) (by omega)
    obtain ⟨x, hx⟩ : ∃ x0, (f.have_)[k] = x0 := ⟨_, rfl⟩
    rw [hx] at hr hm ht hd
    simp only [h]
    simp [hr, hw, Tryz.ntmps16, Tryz.results16]
    refine ⟨by omega, ?_⟩
    refine ⟨by decide +kernel, ?_⟩
    refine hB _ ⟨k + 1, by omega⟩ [] ?_ (by simp; omega)
    constructor <;> simp [hw, ht, zFrame]
  · have hkl : k = (f.have_).length := by simp at h; omega
    subst hkl
    simp only [h]
    simp [List.take_length, List.drop_length, Tryz.ntmps16, Tryz.results16]
    have e : List.take f.have_.length (List.map markC f.have_) = List.map markC f.have_ := by rw [← List.map_take, List.take_length]
    first | (exact fin0 (by simp [e]) rfl) | (refine ⟨by decide +kernel, ?_⟩; exact fin0 (by simp [e]) rfl)

-- (left out: plain_l)
-- (left out: view1_l)
-- (left out: seen_l)
def awC : Res := ⟨2, ⟨#[99]⟩, 0, 0, ⟨#[101]⟩, [], []⟩
def awZ : View := ⟨[], [], 0, zFrame, false⟩
def awF : G.Frame := ⟨1, 3, 2, 1, 0, [awC], [], 0, [], []⟩
def awA : G.Frame := ⟨2, 3, 2, 1, 0, [], [], 0, [], []⟩
def awW : View := ⟨[awC], [], 0, zFrame, false⟩
theorem aw1 : ansV (sentV awZ awF) awA = awW := by decide +kernel
theorem aw2 : ansE (sentV awZ awF) awA = 0 := by decide +kernel
theorem aw3 : freeV awW awC.key = true := by decide +kernel

-- groyne/groynelaw14.awake
theorem awake_l : Ct Tryz.prog 9 [] [] [] (bool true) [] := by
  refine Ct.of_body Tryz.func9 rfl mixed (by rw [Tryz.ntmps9]; simp) (CW.run 2 400 rfl ?_)
  simp [Tryz.ntmps9, Tryz.results9]
  have a1 := aw1
  have a2 := aw2
  simp only [sentV, awZ, awF, awA, awC, zFrame] at a1 a2
  refine CW.sub (tm := [(0, bool false), (1, .ptr 64 0)]) (m := [(64, .cells ((resC awC).map .d) 51)]) (nx := 65) [(64, 192)] [] rfl (by constructor <;> simp [awC]) ?_
  refine CW.run 9999 400 rfl ?_
  simp [awC, Tryz.ntmps9, Tryz.results9]
  refine CW.callG [193] [] (sent_p awZ awF) Tryz.call38 rfl rfl rfl (by first | exact .inl rfl | exact .inr ⟨_, _, rfl, by simp⟩ | exact .inr ⟨_, _, rfl, by simp [*]⟩) rfl (by simp [giveT, awZ, awF, awC, zFrame]) (by constructor <;> simp [nmOk]) (by simp [gvB, awZ, awF, awC, zFrame]) (by simp) (CW.runOps 9999 400 rfl ?_)
  simp [awZ, awF, awC, zFrame, Tryz.ntmps9, Tryz.results9]
  refine CW.callP (answered_p (sentV awZ awF) awA (by simp [sentV, awZ, awF]) (by simp [sentV, awZ, awF])) Tryz.call39 rfl rfl rfl (by first | exact .inl rfl | exact .inr ⟨_, _, rfl, by simp⟩ | exact .inr ⟨_, _, rfl, by simp [*]⟩) rfl (by simp [a1, a2, awZ, awA, sentV, awF, awC, zFrame]) rfl rfl (CW.runOps 9999 400 rfl ?_)
  simp [a1, a2, awZ, awA, sentV, awF, awC, zFrame, Tryz.ntmps9, Tryz.results9]
  have aw3' := aw3
  have b1 : awW.have_.length = 1 := rfl
  have b2 : awW.open_ = false := rfl
  simp [b1, b2, Tryz.ntmps9, Tryz.results9]
  refine CW.callP (key_p awC) Tryz.call32 rfl rfl rfl (by first | exact .inl rfl | exact .inr ⟨_, _, rfl, by simp⟩ | exact .inr ⟨_, _, rfl, by simp [*]⟩) rfl (by simp [awC, Res.key]) rfl rfl (CW.runOps 9999 400 rfl ?_)
  simp [awC, Res.key, Tryz.ntmps9, Tryz.results9]
  rw [show awC.key = ⟨2, ⟨#[99]⟩⟩ from rfl] at aw3'
  refine CW.callP (free_p awW ⟨2, ⟨#[99]⟩⟩ (by simp [b1]) (by simp [awW])) Tryz.call40 rfl rfl rfl (by first | exact .inl rfl | exact .inr ⟨_, _, rfl, by simp⟩ | exact .inr ⟨_, _, rfl, by simp [*]⟩) rfl (by simp [aw3', b2]) rfl rfl (CW.runOps 9999 400 rfl ?_)
  simp [aw3', b2, Tryz.ntmps9, Tryz.results9]
  refine CW.callP (marks_p awW.have_ (by simp [b1])) Tryz.call15 rfl rfl rfl (by first | exact .inl rfl | exact .inr ⟨_, _, rfl, by simp⟩ | exact .inr ⟨_, _, rfl, by simp [*]⟩) rfl (by simp [b1]) rfl rfl (CW.runOps 9999 400 rfl ?_)
  simp [b1, Tryz.ntmps9, Tryz.results9]
  refine ⟨by decide +kernel, ?_⟩
  first | (exact fin0 (by simp) rfl) | (refine ⟨by decide +kernel, ?_⟩; exact fin0 (by simp) rfl)

end Go.Proofs.YtnmocaniljacpaaGreatDoor
end
section
-- WHAT ARGUMENTS ARE, PLAINLY
namespace Go.Proofs.YtnmocaniljacpaaGreatDoor
open Go.ChangeShapes Go.WideShapes Go.ChangeAt Go.RowKit
open Go.AI Go.G
set_option maxRecDepth 20000
theorem ownT : ownKnob Tryz.prog.godebug = none := by kernel_rfl
theorem laidOutT : laidOutB Tryz.prog = true := by kernel_rfl
theorem sh_int : shT Tryz.prog 3 = .int .i64 := by kernel_rfl
theorem sh_bool : shT Tryz.prog 4 = .bool := by kernel_rfl
theorem sh_str : shT Tryz.prog 9 = .str := by kernel_rfl
theorem sh_err : shT Tryz.prog 38 = .int .i64 := by kernel_rfl
theorem sh_ints : shT Tryz.prog 49 = .sl 3 := by kernel_rfl
theorem sh_key : shT Tryz.prog 45 = .st [3, 9] := by kernel_rfl
theorem sh_keys : shT Tryz.prog 37 = .sl 45 := by kernel_rfl
theorem sh_w : shT Tryz.prog 118 = .st [9, 3] := by kernel_rfl
theorem sh_ws : shT Tryz.prog 113 = .sl 118 := by kernel_rfl
theorem sh_rule : shT Tryz.prog 115 = .st [9, 9, 113] := by kernel_rfl
theorem sh_rules : shT Tryz.prog 48 = .sl 115 := by kernel_rfl
theorem sh_res : shT Tryz.prog 51 = .st [3, 9, 3, 3, 9, 48, 49] := by kernel_rfl
theorem sh_ress : shT Tryz.prog 29 = .sl 51 := by kernel_rfl

variable {n : Nat} {ds : List D}
theorem is_nB {s : ByteArray} (h : s.size ≤ maxLen) : nB s := by
  have := size_bs s
  have e : maxLen = 9223372036854775807 := rfl
  unfold G.nB; omega
theorem is_len {α : Type} {l : List α} {f : α → List D} (h : (l.map f).length ≤ maxLen) : l.length ≤ 9223372036854775807 := by
  have e : maxLen = 9223372036854775807 := rfl
  rw [List.length_map] at h; omega
theorem is_key (h : Is Tryz.prog (n + 2) 45 ds) : ∃ k : Key, nB k.name ∧ ds = keyC k := by
  obtain ⟨_, _, h1, g1, rfl⟩ := isF_cons (is_st sh_key h)
  obtain ⟨_, _, h2, g2, rfl⟩ := isF_cons g1
  obtain rfl := isF_nil g2
  obtain ⟨a, _, rfl⟩ := is_int sh_int h1
  obtain ⟨b, hb, rfl⟩ := is_str sh_str h2
  exact ⟨⟨a, b⟩, is_nB hb, rfl⟩
theorem is_w (h : Is Tryz.prog (n + 2) 118 ds) : ∃ k : Weight, nB k.cluster ∧ ds = wC k := by
  obtain ⟨_, _, h1, g1, rfl⟩ := isF_cons (is_st sh_w h)
  obtain ⟨_, _, h2, g2, rfl⟩ := isF_cons g1
  obtain rfl := isF_nil g2
  obtain ⟨a, ha, rfl⟩ := is_str sh_str h1
  obtain ⟨b, _, rfl⟩ := is_int sh_int h2
  exact ⟨⟨a, b⟩, is_nB ha, rfl⟩
theorem is_rule (h : Is Tryz.prog (n + 4) 115 ds) : ∃ x : Rule, x.split.length ≤ 9223372036854775807 ∧ ds = ruleC x := by
  obtain ⟨_, _, h1, g1, rfl⟩ := isF_cons (is_st sh_rule h)
  obtain ⟨_, _, h2, g2, rfl⟩ := isF_cons g1
  obtain ⟨_, _, h3, g3, rfl⟩ := isF_cons g2
  obtain rfl := isF_nil g3
  obtain ⟨a, ha, rfl⟩ := is_str sh_str h1
  obtain ⟨b, hb, rfl⟩ := is_str sh_str h2
  obtain ⟨es, he, h4, rfl⟩ := is_sl sh_ws h3
  obtain ⟨l, _, rfl⟩ := is_list (fun c => is_w) h4
  exact ⟨⟨a, b, l⟩, is_len he, rfl⟩
theorem is_intc (h : Is Tryz.prog (n + 1) 3 ds) : ∃ x : Int, True ∧ ds = intC x := by
  obtain ⟨a, _, rfl⟩ := is_int sh_int h
  exact ⟨a, trivial, rfl⟩
theorem is_res (h : Is Tryz.prog (n + 6) 51 ds) : ∃ r : Res, OkRes r ∧ ds = resC r := by
  obtain ⟨_, _, h1, g1, rfl⟩ := isF_cons (is_st sh_res h)
  obtain ⟨_, _, h2, g2, rfl⟩ := isF_cons g1
  obtain ⟨_, _, h3, g3, rfl⟩ := isF_cons g2
  obtain ⟨_, _, h4, g4, rfl⟩ := isF_cons g3
  obtain ⟨_, _, h5, g5, rfl⟩ := isF_cons g4
  obtain ⟨_, _, h6, g6, rfl⟩ := isF_cons g5
  obtain ⟨_, _, h7, g7, rfl⟩ := isF_cons g6
  obtain rfl := isF_nil g7
  obtain ⟨a, _, rfl⟩ := is_int sh_int h1
  obtain ⟨b, hb, rfl⟩ := is_str sh_str h2
  obtain ⟨c, _, rfl⟩ := is_int sh_int h3
  obtain ⟨d, _, rfl⟩ := is_int sh_int h4
  obtain ⟨e, he, rfl⟩ := is_str sh_str h5
  obtain ⟨es, hes, h8, rfl⟩ := is_sl sh_rules h6
  obtain ⟨l, hl, rfl⟩ := is_list (fun c => is_rule) h8
  obtain ⟨fs, hfs, h9, rfl⟩ := is_sl sh_ints h7
  obtain ⟨m, _, rfl⟩ := is_list (fun c => is_intc) h9
  exact ⟨⟨a, b, c, d, e, l, m⟩, ⟨is_nB hb, is_nB he, is_len hes, hl, is_len hfs⟩, rfl⟩
theorem is_ress (h : Is Tryz.prog (n + 7) 29 ds) : ∃ l : List Res, OkRs l ∧ ds = [lD (l.map resC)] := by
  obtain ⟨es, he, h1, rfl⟩ := is_sl sh_ress h
  obtain ⟨l, hl, rfl⟩ := is_list (fun c => is_res) h1
  exact ⟨l, ⟨is_len he, hl⟩, rfl⟩
theorem is_keys (h : Is Tryz.prog (n + 3) 37 ds) : ∃ l : List Key, (l.length ≤ 9223372036854775807 ∧ ∀ k ∈ l, nB k.name) ∧ ds = [lD (l.map keyC)] := by
  obtain ⟨es, he, h1, rfl⟩ := is_sl sh_keys h
  obtain ⟨l, hl, rfl⟩ := is_list (fun c => is_key) h1
  exact ⟨l, ⟨is_len he, hl⟩, rfl⟩
theorem is_i (h : Is Tryz.prog (n + 1) 3 ds) : ∃ x : Int, True ∧ ds = [iD x] := is_intc h
end Go.Proofs.YtnmocaniljacpaaGreatDoor
end
section
-- WHAT ARGUMENTS ARE, PLAINLY: frames, views
namespace Go.Proofs.YtnmocaniljacpaaGreatDoor
open Go.ChangeShapes Go.WideShapes Go.ChangeAt Go.RowKit
open Go.AI Go.G
set_option maxRecDepth 20000
theorem sh_mark : shT Tryz.prog 47 = .st [45, 3] := by kernel_rfl
theorem sh_marks : shT Tryz.prog 25 = .sl 47 := by kernel_rfl
theorem sh_frame : shT Tryz.prog 43 = .st [3, 3, 3, 3, 3, 29, 37, 38, 25, 37] := by kernel_rfl
-- (left out: sh_view)
variable {n : Nat} {ds : List D}
theorem is_mark (h : Is Tryz.prog (n + 3) 47 ds) : ∃ m : G.Mark, nB m.k.name ∧ ds = markC m := by
  obtain ⟨_, _, h1, g1, rfl⟩ := isF_cons (is_st sh_mark h)
  obtain ⟨_, _, h2, g2, rfl⟩ := isF_cons g1
  obtain rfl := isF_nil g2
  obtain ⟨k, hk, rfl⟩ := is_key h1
  obtain ⟨a, _, rfl⟩ := is_int sh_int h2
  exact ⟨⟨k, a⟩, hk, rfl⟩
theorem is_marks (h : Is Tryz.prog (n + 4) 25 ds) : ∃ l : List G.Mark, (l.length ≤ 9223372036854775807 ∧ ∀ m ∈ l, nB m.k.name) ∧ ds = [lD (l.map markC)] := by
  obtain ⟨es, he, h1, rfl⟩ := is_sl sh_marks h
  obtain ⟨l, hl, rfl⟩ := is_list (fun c => is_mark) h1
  exact ⟨l, ⟨is_len he, hl⟩, rfl⟩
theorem is_frame (h : Is Tryz.prog (n + 8) 43 ds) : ∃ f : G.Frame, OkFrame f ∧ ds = frameC f := by
  obtain ⟨_, _, h1, g1, rfl⟩ := isF_cons (is_st sh_frame h)
  obtain ⟨_, _, h2, g2, rfl⟩ := isF_cons g1
  obtain ⟨_, _, h3, g3, rfl⟩ := isF_cons g2
  obtain ⟨_, _, h4, g4, rfl⟩ := isF_cons g3
  obtain ⟨_, _, h5, g5, rfl⟩ := isF_cons g4
  obtain ⟨_, _, h6, g6, rfl⟩ := isF_cons g5
  obtain ⟨_, _, h7, g7, rfl⟩ := isF_cons g6
  obtain ⟨_, _, h8, g8, rfl⟩ := isF_cons g7
  obtain ⟨_, _, h9, g9, rfl⟩ := isF_cons g8
  obtain ⟨_, _, h10, g10, rfl⟩ := isF_cons g9
  obtain rfl := isF_nil g10
  obtain ⟨a, _, rfl⟩ := is_int sh_int h1
  obtain ⟨b, _, rfl⟩ := is_int sh_int h2
  obtain ⟨c, _, rfl⟩ := is_int sh_int h3
  obtain ⟨d, _, rfl⟩ := is_int sh_int h4
  obtain ⟨e, _, rfl⟩ := is_int sh_int h5
  obtain ⟨l, hl, rfl⟩ := is_ress h6
  obtain ⟨g, ⟨hg, _⟩, rfl⟩ := is_keys h7
  obtain ⟨er, _, rfl⟩ := is_int sh_err h8
  obtain ⟨m, ⟨hm, _⟩, rfl⟩ := is_marks h9
  obtain ⟨q, ⟨hq, _⟩, rfl⟩ := is_keys h10
  exact ⟨⟨a, b, c, d, e, l, g, er, m, q⟩, ⟨hl, hg, hm, hq⟩, rfl⟩
-- (left out: is_view)
-- (left out: ag_view)
theorem ag_frame : aggT Tryz.prog 43 = true := by kernel_rfl
theorem ag_key : aggT Tryz.prog 45 = true := by kernel_rfl
theorem ag_int : aggT Tryz.prog 3 = false := by kernel_rfl
theorem ag_keys : aggT Tryz.prog 37 = false := by kernel_rfl
theorem ag_ress : aggT Tryz.prog 29 = false := by kernel_rfl
theorem ag_marks : aggT Tryz.prog 25 = false := by kernel_rfl
end Go.Proofs.YtnmocaniljacpaaGreatDoor
end
