/-
  LAYERS 3, 6, 14: the walks of the program's references and views, of the laws' own helpers; what the laws' arguments are.
-/
import Derived.Test.YtnmocaniljacpaaGreatDoorWb
import Derived.Test.YtnmocaniljacpaaGreatDoorPl
import Derived.Test.YtnmocaniljacpaaGreatDoorTy
import Derived.Test.YtnmocaniljacpaaGreatDoorFc
set_option linter.unusedSimpArgs false
set_option linter.unusedVariables false
section
namespace Go.Proofs.YtnmocaniljacpaaGreatDoor
open Go.AI Go.G
set_option maxRecDepth 20000
theorem compact_p (l : List Key) (hl : l.length ≤ 1000000) : Ct Tryz.prog 59 [.own 0] [] [(0, .grow 2 (l.map keyC) 45)] (lst ((compK l).map keyC)) [] := by
  refine Ct.of_body Tryz.func59 rfl mixed (by rw [Tryz.ntmps59]; simp) (CW.run 9999 400 rfl ?_)
  simp [Tryz.ntmps59, Tryz.results59]
  refine run_br_split (fun h0 => ?_) (fun h0 => ?_) <;> simp only [h0] <;> simp [Tryz.ntmps59, Tryz.results59] <;> (try simp only [Bool.not_eq_true', Bool.not_eq_false', decide_eq_true_eq, decide_eq_false_iff_not] at h0)
  · have e : compK l = l := comp_short h0
    first | (refine ⟨[], ?_, ?_, ?_, ?_, ?_, ?_, ?_⟩ <;> simp [nmF, inB, e]; done) | (refine ⟨by decide +kernel, ?_⟩; refine ⟨[], ?_, ?_, ?_, ?_, ?_, ?_, ?_⟩ <;> simp [nmF, inB, e])
  refine LoopW.inv mixed (Plain.retC _ _ _ _ _) rfl (ι := {k : Nat // k + 1 ≤ l.length ∧ compK (l.take (k + 1)) = l.take (k + 1)}) (fun k => [(0, .own 0), (3, int ((k.1 : Int) + 1))]) (fun k => [(0, .grow 2 (l.map keyC) 45)]) 64 (fun k => l.length - k.1) ⟨0, by omega, comp_first l⟩ [] (by constructor <;> simp) ?_
  rintro ⟨m, hk1, hi⟩ B hB
  refine CW.run 9999 400 rfl ?_
  simp [Tryz.ntmps59, Tryz.results59]
  refine run_br_split (fun h => ?_) (fun h => ?_) <;> simp only [h] <;> simp [Tryz.ntmps59, Tryz.results59] <;> (try simp only [Bool.not_eq_true', Bool.not_eq_false', decide_eq_true_eq, decide_eq_false_iff_not] at h)
  · have hk : m + 1 < l.length := by omega
    have hk' : m < l.length := by omega
    have hv : l[m + 1]? = some l[m + 1] := List.getElem?_eq_getElem hk
    have hq : l[m]? = some l[m] := List.getElem?_eq_getElem hk'
    have w0 : IntKind.wrap .i64 (m : Int) = m := wrap_i64 (by omega) (by omega)
    have w1 : IntKind.wrap .i64 ((m : Int) + 1 + 1) = (m : Int) + 1 + 1 := wrap_i64 (by omega) (by omega)
    have c1 : (0 : Int) ≤ (m : Int) + 1 := by omega
    have c2 : (m : Int) < l.length := by omega
    generalize hvu : l[m + 1] = u at hv
    generalize hqu : l[m] = q0 at hq
    have hs := comp_step (by omega) (show l[m + 1 - 1]? = _ from hq) hv
    simp [h, hvu, hqu, c1, c2, hv, hq, w0, Tryz.ntmps59, Tryz.results59]
    rw [key_eq]
    refine ⟨by decide +kernel, ?_⟩
    refine run_br_split (fun h2 => ?_) (fun h2 => ?_) <;> simp only [h2] <;> simp [hv, hq, Tryz.ntmps59, Tryz.results59] <;> (try simp only [Bool.not_eq_true', Bool.not_eq_false', decide_eq_true_eq, decide_eq_false_iff_not] at h2)
    · refine ⟨by omega, ?_⟩
      rw [h2] at hv
      have d0 : CompSt l (m + 2 + 0) (m + 1) l := CompSt.start (by omega) hi hq hv
      clear hv hq hs w0 w1 c1 c2 hi hB
      refine LoopW.inv mixed (Plain.retC _ _ _ _ _) rfl (ι := {q : Nat × Nat × List Key // CompSt l (m + 2 + q.1) q.2.1 q.2.2}) (fun k => [(0, .own 0), (3, int k.1.2.1), (4, .sl 0 2 (m + 1) (l.length - (m + 1))), (5, int ((k.1.1 : Int) + 1))]) (fun k => [(0, .grow 2 (k.1.2.2.map keyC) 45)]) 64 (fun k => l.length - k.1.1) ⟨(0, m + 1, l), d0⟩ [] (by constructor <;> simp) ?_
      rintro ⟨⟨d, i, cur⟩, hd⟩ B hB
      have hlen := hd.len
      have hlt := hd.lt
      have hle := hd.le
      simp only at hlen hlt hle
      have w1 : IntKind.wrap .i64 ((d : Int) + 1 + 1) = d + 1 + 1 := wrap_i64 (by omega) (by omega)
      have w2 : IntKind.wrap .i64 ((i : Int) + 1) = i + 1 := wrap_i64 (by omega) (by omega)
      have w0 : IntKind.wrap .i64 (d : Int) = d := wrap_i64 (by omega) (by omega)
      refine CW.run 9999 400 rfl ?_
      simp [hlen, Tryz.ntmps59, Tryz.results59]
      refine run_br_split (fun h3 => ?_) (fun h3 => ?_) <;> simp only [h3] <;> simp [Tryz.ntmps59, Tryz.results59] <;> (try simp only [Bool.not_eq_true', Bool.not_eq_false', decide_eq_true_eq, decide_eq_false_iff_not] at h3)
      · have hj : m + 1 + (d + 1) < l.length := by omega
        have hj' : m + 1 + d < l.length := by omega
        have hv : l[m + 2 + d]? = some l[m + 1 + (d + 1)] := by rw [← List.getElem?_eq_getElem hj]; congr 1; omega
        have hq : l[m + 2 + d - 1]? = some l[m + 1 + d] := by rw [← List.getElem?_eq_getElem hj']; congr 1; omega
        generalize l[m + 1 + (d + 1)] = v at hv
        generalize l[m + 1 + d] = q at hq
        have hg : cur[m + 1 + (d + 1)]? = some v := by have := hd.get hv; rwa [show m + 2 + d = m + 1 + (d + 1) by omega] at this
        have hg' : cur[m + 1 + d]? = some q := by have := hd.get' hq; rwa [show m + 2 + d - 1 = m + 1 + d by omega] at this
        have c1 : (0 : Int) ≤ (d : Int) + 1 := by omega
        have c2 : (d : Int) < ((l.length - (m + 1) : Nat) : Int) := by omega
        simp [h3, c1, c2, w0, hg, hg', Tryz.ntmps59, Tryz.results59]
        rw [key_ne]
        refine ⟨by decide +kernel, ?_⟩
        have hic : i < cur.length := by omega
        refine run_br_split (fun h4 => ?_) (fun h4 => ?_) <;> simp only [h4] <;> simp [h3, c1, c2, hg, hg', hic, Tryz.ntmps59, Tryz.results59] <;> (try simp only [Bool.not_eq_true', Bool.not_eq_false', decide_eq_true_eq, decide_eq_false_iff_not] at h4)
        · refine hB _ ⟨(d + 1, i + 1, cur.set i v), by exact hd.keep hv hq (fun e => h4 e.symm)⟩ [] ?_ (by simp; omega)
          constructor <;> simp [w1, w2, List.map_set]
        · rw [← h4] at hq
          refine hB _ ⟨(d + 1, i, cur), by exact hd.same hv hq⟩ [] ?_ (by simp; omega)
          constructor <;> simp [w1]
      · have hj : m + 2 + d = l.length := by omega
        simp only at hd
        rw [hj] at hd
        have e : cur.take i = compK l := hd.done
        have e2 : List.take i (List.map keyC cur) = List.map keyC (compK l) := by rw [← List.map_take, e]
        have e3 : (compK l).length = i := by rw [← e, List.length_take]; omega
        refine ⟨by omega, by omega, by omega, ?_⟩
        rw [e2]
        first | (refine ⟨[], ?_, ?_, ?_, ?_, ?_, ?_, ?_⟩ <;> simp [nmF, inB, e3, List.take_append, show i ≤ i + (l.length - i + (l.length - (i + (l.length - i)))) from by omega]; done) | (refine ⟨by decide +kernel, ?_⟩; refine ⟨[], ?_, ?_, ?_, ?_, ?_, ?_, ?_⟩ <;> simp [nmF, inB, e3, List.take_append, show i ≤ i + (l.length - i + (l.length - (i + (l.length - i)))) from by omega])
    · rw [if_neg (fun e => h2 e.symm)] at hs
      refine hB _ ⟨m + 1, by omega, by rw [hs, hi, List.take_add_one (i := m + 1), hv]; rfl⟩ [] ?_ (by simp; omega)
      constructor <;> simp [w1]
  · have e : compK l = l := by
      have hl2 : m + 1 = l.length := by omega
      rw [hl2, List.take_length] at hi; exact hi
    first | (refine ⟨[], ?_, ?_, ?_, ?_, ?_, ?_, ?_⟩ <;> simp [nmF, inB, e]; done) | (refine ⟨by decide +kernel, ?_⟩; refine ⟨[], ?_, ?_, ?_, ?_, ?_, ?_, ?_⟩ <;> simp [nmF, inB, e])
end Go.Proofs.YtnmocaniljacpaaGreatDoor
end
section
namespace Go.Proofs.YtnmocaniljacpaaGreatDoor
open Go.AI Go.G Go.Sort Go.Proofs Go.RowKit Go.Shelf
set_option maxRecDepth 20000
def keyV (k : Key) : List Value := [.int .i64 k.kind, .string k.name]
instance keyInh : Inhabited Key := ⟨⟨0, .empty⟩⟩
theorem sort_p (l : List Key) (hl : l.length < 4611686018427387904) : Ct Tryz.prog 58 [.own 0, .d (fnD 54)] [] [(0, .grow 2 (l.map keyC) 45)] (.d (.v (.tuple #[]))) [(0, .grow 2 ((sortK l).map keyC) 45)] :=
  Ct.sort (enc := keyV) (k := 2) (cf := cmpK) (sortL := sortK) (by decide) (fun _ => rfl) (fun x v hv => by simp [keyV] at hv; rcases hv with rfl | rfl <;> rfl) sortK_length
    (fun p cap fv w => AnyF.slices_SortFunc_none { Tryz.sortKeys with } p cap fv w)
    (fun blk off cap d w hc hH hb hs => AnyQ.slices_SortFunc_total Tryz.sortKeys 2 (fun w => by kernel_rfl) (fun w => by kernel_rfl) keyV (fun _ => rfl) (fun x v hv => by simp [keyV] at hv; rcases hv with rfl | rfl <;> rfl) cmpK swoK 54 #[] blk off cap d w Tryz.call54 hc hH hb hs (fun x y h1 h2 => ltK_tot h1 h2))
    (fun a b => cmpK_p a b) hl
end Go.Proofs.YtnmocaniljacpaaGreatDoor
end
section
namespace Go.Proofs.YtnmocaniljacpaaGreatDoor
open Go.AI Go.G
set_option maxRecDepth 20000
theorem refs_p (r : Res) : Ct Tryz.prog 57 [st (resC r)] [] [] (lst ((refsK r).map keyC)) [] := by
  refine Ct.of_body Tryz.func57 rfl mixed (by rw [Tryz.ntmps57]; simp) (CW.run 9999 400 rfl ?_)
  simp [Tryz.ntmps57, Tryz.results57]
  refine CW.callP (sane_p r) Tryz.call53 rfl rfl rfl (by first | exact .inl rfl | exact .inr ⟨_, _, rfl, by simp⟩ | exact .inr ⟨_, _, rfl, by simp [*]⟩) rfl (by simp) rfl rfl (CW.runOps 9999 400 rfl ?_)
  simp [Tryz.ntmps57, Tryz.results57]
  refine run_br_split (fun h1 => ?_) (fun h1 => ?_) <;> simp only [h1] <;> simp [Tryz.ntmps57, Tryz.results57] <;> (try simp only [Bool.not_eq_true', Bool.not_eq_false', decide_eq_true_eq, decide_eq_false_iff_not] at h1)
  · first | (exact fin0 (by simp [refsK, h1]) rfl) | (refine ⟨by decide +kernel, ?_⟩; exact fin0 (by simp [refsK, h1]) rfl)
  obtain ⟨hk0, hn, hs, hsh, hnm, hsg⟩ := sane_parts h1
  have hk := rng_yes.1 hk0
  have hb := small_bounds hs
  have hwk : IntKind.wrap .i64 (r.kind + 1) = r.kind + 1 := wrap_i64 (by omega) (by omega)
  refine run_br_split (fun h2 => ?_) (fun h2 => ?_) <;> simp only [h2] <;> simp [Tryz.ntmps57, Tryz.results57] <;> (try simp only [Bool.not_eq_true', Bool.not_eq_false', decide_eq_true_eq, decide_eq_false_iff_not] at h2)
  · have hto : ¬ bs r.to = [] := fun e => h2 (bs_inj e)
    have hr0 := to_rules hsh hto
    have h0 : outP r 0 = [⟨r.kind + 1, r.to⟩] := by rw [outP_zero, if_neg hto]
    have e := outP_refs h1
    rw [hr0] at e
    simp only [List.length_nil, h0] at e
    simp [hr0, hwk, Tryz.ntmps57, Tryz.results57]
    refine LoopW.unroll mixed (Plain.retC _ _ _ _ _) rfl ?_
    refine CW.run 9999 400 rfl ?_
    simp [Tryz.ntmps57, Tryz.results57]
    refine CW.callC [1152] (sort_p [⟨r.kind + 1, r.to⟩] (by simp)) Tryz.call58 rfl rfl rfl (by first | exact .inl rfl | exact .inr ⟨_, _, rfl, by simp⟩ | exact .inr ⟨_, _, rfl, by simp [*]⟩) rfl (by simp) (by constructor <;> simp [nmOk]) (by simp) (CW.runOps 9999 400 rfl ?_)
    simp [Tryz.ntmps57, Tryz.results57]
    refine CW.callC [1152] (compact_p (sortK [⟨r.kind + 1, r.to⟩]) (by rw [sortK_length]; simp)) Tryz.call59 rfl rfl rfl (by first | exact .inl rfl | exact .inr ⟨_, _, rfl, by simp⟩ | exact .inr ⟨_, _, rfl, by simp [*]⟩) rfl (by simp) (by constructor <;> simp [nmOk]) (by simp) (CW.runOps 9999 400 rfl ?_)
    simp [Tryz.ntmps57, Tryz.results57]
    rw [e]
    first | (exact fin0 (by simp) rfl) | (refine ⟨by decide +kernel, ?_⟩; exact fin0 (by simp) rfl)
  · have hto : bs r.to = [] := by
      have : r.to = ⟨#[]⟩ := by simpa using h2
      rw [this]; rfl
    have h0 : outP r 0 = [] := by rw [outP_zero, if_pos hto]
    refine LoopW.nilOwn 3 2 45 rfl ?_
    refine LoopW.inv mixed (Plain.retC _ _ _ _ _) rfl (ι := {k : Nat // k ≤ (r.rules).length}) (fun k => [(1, .ptr 64 0), (3, .own 65), (24, lst (r.rules.map ruleC)), (25, int r.rules.length), (26, int k.1)]) (fun k => [(64, .cells ((resC r).map .d) 51), (65, .grow 2 ((outP r k.1).map keyC) 45)]) 66 (fun k => (r.rules).length - k.1) ⟨0, by omega⟩ [] (by constructor <;> simp [h0]) ?_
    rintro ⟨k, hk1⟩ B hB
    refine CW.run 9999 400 rfl ?_
    simp [h0, Tryz.ntmps57, Tryz.results57]
    refine run_br_split (fun h => ?_) (fun h => ?_)
    · have hk : k < (r.rules).length := by simpa using h
      have hr : (r.rules)[k]? = some (r.rules)[k] := List.getElem?_eq_getElem hk
      have hm : (r.rules)[k] ∈ (r.rules) := List.getElem_mem hk
      have ht : (r.rules).take (k + 1) = (r.rules).take k ++ [(r.rules)[k]] := by rw [List.take_add_one, hr]; rfl
      have hd : (r.rules).drop k = (r.rules)[k] :: (r.rules).drop (k + 1) := List.drop_eq_getElem_cons hk
      have hw : IntKind.wrap .i64 ((k : Int) + 1) = k + 1 := wrap_i64 (by omega) (by omega)
      obtain ⟨x, hx⟩ : ∃ x0, (r.rules)[k] = x0 := ⟨_, rfl⟩
      rw [hx] at hr hm ht hd
      simp only [h]
      simp [hr, hw, Tryz.ntmps57, Tryz.results57]
      have h7 := hb.2.2 x hm
      refine LoopW.inv mixed (Plain.retC _ _ _ _ _) rfl (ι := {kj : Nat // kj ≤ (x.split).length}) (fun kj => [(1, .ptr 64 0), (3, .own 65), (24, lst (r.rules.map ruleC)), (25, int r.rules.length), (26, int k), (31, lst (x.split.map wC)), (32, int x.split.length), (33, int kj.1)]) (fun kj => [(64, .cells ((resC r).map .d) 51), (65, .grow 2 ((outP r k ++ ((x.split.take kj.1).filter fun w => decide (0 < w.w)).map toKey).map keyC) 45)]) 66 (fun kj => (x.split).length - kj.1) ⟨0, by omega⟩ [] (by constructor <;> simp [hr]) ?_
      rintro ⟨kj, hk1j⟩ Bj hBj
      refine CW.run 9999 400 rfl ?_
      simp [hr, Tryz.ntmps57, Tryz.results57]
      refine run_br_split (fun hj => ?_) (fun hj => ?_)
      · have hkj : kj < (x.split).length := by simpa using hj
        have hrj : (x.split)[kj]? = some (x.split)[kj] := List.getElem?_eq_getElem hkj
        have hmj : (x.split)[kj] ∈ (x.split) := List.getElem_mem hkj
        have htj : (x.split).take (kj + 1) = (x.split).take kj ++ [(x.split)[kj]] := by rw [List.take_add_one, hrj]; rfl
        have hdj : (x.split).drop kj = (x.split)[kj] :: (x.split).drop (kj + 1) := List.drop_eq_getElem_cons hkj
        have hwj : IntKind.wrap .i64 ((kj : Int) + 1) = kj + 1 := wrap_i64 (by omega) (by omega)
        obtain ⟨w, hxj⟩ : ∃ x0, (x.split)[kj] = x0 := ⟨_, rfl⟩
        rw [hxj] at hrj hmj htj hdj
        simp only [hj]
        simp [hrj, hwj, hr, Tryz.ntmps57, Tryz.results57]
        have hlen := outP_len k hb.1 hb.2.2
        have h8 : ((x.split.take kj).filter fun w => decide (0 < w.w)).length ≤ 4 := Nat.le_trans (List.length_filter_le _ _) (Nat.le_trans (by simp; omega) h7)
        refine run_br_split (fun h4 => ?_) (fun h4 => ?_) <;> simp only [h4] <;> simp [hr, hrj, Tryz.ntmps57, Tryz.results57] <;> (try simp only [Bool.not_eq_true', Bool.not_eq_false', decide_eq_true_eq, decide_eq_false_iff_not] at h4)
        · refine ⟨by omega, ?_⟩
          refine hBj _ ⟨kj + 1, by omega⟩ [] ?_ (by simp; omega)
          constructor <;> simp [hwj, htj, List.filter_append, h4, hwj]
        · refine hBj _ ⟨kj + 1, by omega⟩ [] ?_ (by simp; omega)
          constructor <;> simp [hwj, htj, List.filter_append, h4, hwj]
      · have hklj : kj = (x.split).length := by simp at hj; omega
        subst hklj
        simp only [hj]
        simp [List.take_length, List.drop_length, hw, Tryz.ntmps57, Tryz.results57]
        refine hB _ ⟨k + 1, by omega⟩ [] ?_ (by simp; omega)
        constructor <;> simp [hw, ht, outP_succ ht, List.map_append]
    · have hkl : k = (r.rules).length := by simp at h; omega
      subst hkl
      simp only [h]
      simp [List.take_length, List.drop_length, Tryz.ntmps57, Tryz.results57]
      have hlen := outP_len r.rules.length hb.1 hb.2.2
      refine CW.callC [65] (sort_p (outP r r.rules.length) (by omega)) Tryz.call58 rfl rfl rfl (by first | exact .inl rfl | exact .inr ⟨_, _, rfl, by simp⟩ | exact .inr ⟨_, _, rfl, by simp [*]⟩) rfl (by simp) (by constructor <;> simp [nmOk]) (by simp) (CW.runOps 9999 400 rfl ?_)
      simp [Tryz.ntmps57, Tryz.results57]
      refine CW.callC [65] (compact_p (sortK (outP r r.rules.length)) (by rw [sortK_length]; omega)) Tryz.call59 rfl rfl rfl (by first | exact .inl rfl | exact .inr ⟨_, _, rfl, by simp⟩ | exact .inr ⟨_, _, rfl, by simp [*]⟩) rfl (by simp) (by constructor <;> simp [nmOk]) (by simp) (CW.runOps 9999 400 rfl ?_)
      simp [Tryz.ntmps57, Tryz.results57]
      rw [outP_refs h1]
      first | (exact fin0 (by simp) rfl) | (refine ⟨by decide +kernel, ?_⟩; exact fin0 (by simp) rfl)
end Go.Proofs.YtnmocaniljacpaaGreatDoor
end
section
namespace Go.Proofs.YtnmocaniljacpaaGreatDoor
open Go.AI Go.G
set_option maxRecDepth 20000
end Go.Proofs.YtnmocaniljacpaaGreatDoor
end
section
namespace Go.Proofs.YtnmocaniljacpaaGreatDoor
open Go.AI Go.G
set_option maxRecDepth 20000
end Go.Proofs.YtnmocaniljacpaaGreatDoor
end
section
namespace Go.Proofs.YtnmocaniljacpaaGreatDoor
open Go.ChangeShapes Go.WideShapes Go.ChangeAt Go.RowKit
open Go.AI Go.G
set_option maxRecDepth 20000
theorem ownT : ownKnob Tryz.prog.godebug = none := by kernel_rfl
theorem laidOutT : laidOutB Tryz.prog = true := by kernel_rfl
theorem sh_int : shT Tryz.prog 3 = .int .i64 := by kernel_rfl
theorem sh_str : shT Tryz.prog 9 = .str := by kernel_rfl
theorem sh_ints : shT Tryz.prog 49 = .sl 3 := by kernel_rfl
theorem sh_key : shT Tryz.prog 45 = .st [3, 9] := by kernel_rfl
theorem sh_keys : shT Tryz.prog 37 = .sl 45 := by kernel_rfl
theorem sh_w : shT Tryz.prog 118 = .st [9, 3] := by kernel_rfl
theorem sh_ws : shT Tryz.prog 113 = .sl 118 := by kernel_rfl
theorem sh_rule : shT Tryz.prog 115 = .st [9, 9, 113] := by kernel_rfl
theorem sh_rules : shT Tryz.prog 48 = .sl 115 := by kernel_rfl
theorem sh_res : shT Tryz.prog 51 = .st [3, 9, 3, 3, 9, 48, 49] := by kernel_rfl
theorem sh_ress : shT Tryz.prog 29 = .sl 51 := by kernel_rfl
variable {n : Nat} {ds : List D}
theorem is_nB {s : ByteArray} (h : s.size ≤ maxLen) : nB s := by
  have := size_bs s
  have e : maxLen = 9223372036854775807 := rfl
  unfold G.nB; omega
theorem is_len {α : Type} {l : List α} {f : α → List D} (h : (l.map f).length ≤ maxLen) : l.length ≤ 9223372036854775807 := by
  have e : maxLen = 9223372036854775807 := rfl
  rw [List.length_map] at h; omega
theorem is_key (h : Is Tryz.prog (n + 2) 45 ds) : ∃ k : Key, nB k.name ∧ ds = keyC k := by
  obtain ⟨_, _, h1, g1, rfl⟩ := isF_cons (is_st sh_key h)
  obtain ⟨_, _, h2, g2, rfl⟩ := isF_cons g1
  obtain rfl := isF_nil g2
  obtain ⟨a, _, rfl⟩ := is_int sh_int h1
  obtain ⟨b, hb, rfl⟩ := is_str sh_str h2
  exact ⟨⟨a, b⟩, is_nB hb, rfl⟩
theorem is_w (h : Is Tryz.prog (n + 2) 118 ds) : ∃ k : Weight, nB k.cluster ∧ ds = wC k := by
  obtain ⟨_, _, h1, g1, rfl⟩ := isF_cons (is_st sh_w h)
  obtain ⟨_, _, h2, g2, rfl⟩ := isF_cons g1
  obtain rfl := isF_nil g2
  obtain ⟨a, ha, rfl⟩ := is_str sh_str h1
  obtain ⟨b, _, rfl⟩ := is_int sh_int h2
  exact ⟨⟨a, b⟩, is_nB ha, rfl⟩
theorem is_rule (h : Is Tryz.prog (n + 4) 115 ds) : ∃ x : Rule, x.split.length ≤ 9223372036854775807 ∧ ds = ruleC x := by
  obtain ⟨_, _, h1, g1, rfl⟩ := isF_cons (is_st sh_rule h)
  obtain ⟨_, _, h2, g2, rfl⟩ := isF_cons g1
  obtain ⟨_, _, h3, g3, rfl⟩ := isF_cons g2
  obtain rfl := isF_nil g3
  obtain ⟨a, ha, rfl⟩ := is_str sh_str h1
  obtain ⟨b, hb, rfl⟩ := is_str sh_str h2
  obtain ⟨es, he, h4, rfl⟩ := is_sl sh_ws h3
  obtain ⟨l, _, rfl⟩ := is_list (fun c => is_w) h4
  exact ⟨⟨a, b, l⟩, is_len he, rfl⟩
theorem is_intc (h : Is Tryz.prog (n + 1) 3 ds) : ∃ x : Int, True ∧ ds = intC x := by
  obtain ⟨a, _, rfl⟩ := is_int sh_int h
  exact ⟨a, trivial, rfl⟩
theorem is_res (h : Is Tryz.prog (n + 6) 51 ds) : ∃ r : Res, OkRes r ∧ ds = resC r := by
  obtain ⟨_, _, h1, g1, rfl⟩ := isF_cons (is_st sh_res h)
  obtain ⟨_, _, h2, g2, rfl⟩ := isF_cons g1
  obtain ⟨_, _, h3, g3, rfl⟩ := isF_cons g2
  obtain ⟨_, _, h4, g4, rfl⟩ := isF_cons g3
  obtain ⟨_, _, h5, g5, rfl⟩ := isF_cons g4
  obtain ⟨_, _, h6, g6, rfl⟩ := isF_cons g5
  obtain ⟨_, _, h7, g7, rfl⟩ := isF_cons g6
  obtain rfl := isF_nil g7
  obtain ⟨a, _, rfl⟩ := is_int sh_int h1
  obtain ⟨b, hb, rfl⟩ := is_str sh_str h2
  obtain ⟨c, _, rfl⟩ := is_int sh_int h3
  obtain ⟨d, _, rfl⟩ := is_int sh_int h4
  obtain ⟨e, he, rfl⟩ := is_str sh_str h5
  obtain ⟨es, hes, h8, rfl⟩ := is_sl sh_rules h6
  obtain ⟨l, hl, rfl⟩ := is_list (fun c => is_rule) h8
  obtain ⟨fs, hfs, h9, rfl⟩ := is_sl sh_ints h7
  obtain ⟨m, _, rfl⟩ := is_list (fun c => is_intc) h9
  exact ⟨⟨a, b, c, d, e, l, m⟩, ⟨is_nB hb, is_nB he, is_len hes, hl, is_len hfs⟩, rfl⟩
theorem is_ress (h : Is Tryz.prog (n + 7) 29 ds) : ∃ l : List Res, OkRs l ∧ ds = [lD (l.map resC)] := by
  obtain ⟨es, he, h1, rfl⟩ := is_sl sh_ress h
  obtain ⟨l, hl, rfl⟩ := is_list (fun c => is_res) h1
  exact ⟨l, ⟨is_len he, hl⟩, rfl⟩
theorem is_keys (h : Is Tryz.prog (n + 3) 37 ds) : ∃ l : List Key, (l.length ≤ 9223372036854775807 ∧ ∀ k ∈ l, nB k.name) ∧ ds = [lD (l.map keyC)] := by
  obtain ⟨es, he, h1, rfl⟩ := is_sl sh_keys h
  obtain ⟨l, hl, rfl⟩ := is_list (fun c => is_key) h1
  exact ⟨l, ⟨is_len he, hl⟩, rfl⟩
end Go.Proofs.YtnmocaniljacpaaGreatDoor
end
section
namespace Go.Proofs.YtnmocaniljacpaaGreatDoor
open Go.ChangeShapes Go.WideShapes Go.ChangeAt Go.RowKit
open Go.AI Go.G
set_option maxRecDepth 20000
variable {n : Nat} {ds : List D}
theorem ag_keys : aggT Tryz.prog 37 = false := by kernel_rfl
theorem ag_ress : aggT Tryz.prog 29 = false := by kernel_rfl
end Go.Proofs.YtnmocaniljacpaaGreatDoor
end
