/-
  LAYERS 9, 10, 13, 20: the walks of policies' exported functions, of numbers of pushes, of frames, of sessions.
-/
import Derived.Test.YtmhfcgpmmghakaaGreatDoorWe
import Derived.Test.YtmhfcgpmmghakaaGreatDoorAs
import Derived.Test.YtmhfcgpmmghakaaGreatDoorPs
import Derived.Test.YtmhfcgpmmghakaaGreatDoorFd
import Derived.Test.YtmhfcgpmmghakaaGreatDoorWa
import Derived.Test.YtmhfcgpmmghakaaGreatDoorFc
set_option linter.unusedSimpArgs false
set_option linter.unusedVariables false
section
open Go.RowKit
namespace Go.Proofs.YtmhfcgpmmghakaaGreatDoor
open Go.AI Go.G Tryz
set_option maxRecDepth 20000
attribute [simp] ntmps44 results44 ntmps51 results51
abbrev errV : Value := .iface 359 (.agg #[.pointer (some ⟨4, 169, none⟩)])
def errG : (Nat → Prop) → World → Prop := fun I w => I 0 ∧ w.cell? ⟨0, 0, none⟩ = some errV
theorem errK : qi7 errG := fun I I' w w' h h1 h2 => ⟨h2 0 h.1, (zew (h1 0 h.1)).trans h.2⟩
set_option maxHeartbeats 4000000 in
theorem qfx (b : Nat) (e : Int) (w : World) (hg : w.cell? ⟨0, 0, none⟩ = some errV) (hc : w.cell? ⟨b, 0, none⟩ = some (.int .i64 e)) :
  Calls prog 77 #[.iface 210 (.pointer (some ⟨b, 0, none⟩))] w fun ev w' => ev = .returned (.int .i64 e) ∧ Below w.heap.size w w' ∧ w.drawn ≤ w'.drawn := by
 have hlt : 0 < w.heap.size := by
  rcases Nat.eq_zero_or_pos w.heap.size with h0 | h
  ·simp [World.cell?, h0] at hg
  ·exact h
 have hbl : b < w.heap.size := by
  rcases Nat.lt_or_ge b w.heap.size with h | h
  ·exact h
  ·simp [World.cell?, Array.getElem?_eq_none h] at hc
 have hgA : (w.alloc (.cells #[.pointer none] 210)).cell? ⟨0, 0, none⟩ = some errV := by
  rw [World.cell?_alloc_lt _ _ ⟨0, 0, none⟩ hlt]; exact hg
 have htA : (w.alloc (.cells #[.pointer none] 210)).cell? ⟨w.heap.size, 0, none⟩ = some (.pointer none) := by simp
 have hfA : (w.alloc (.cells #[.pointer none] 210)).frozen? ⟨w.heap.size, 0, none⟩ = false := by simp
 have hAs : Calls prog 112 #[.iface 210 (.pointer (some ⟨b, 0, none⟩)), .iface 212 (.pointer (some ⟨w.heap.size, 0, none⟩))] (w.alloc (.cells #[.pointer none] 210)) fun ev w' =>
   ev = .returned (.bool true) ∧ w'.cell? ⟨w.heap.size, 0, none⟩ = some (.pointer (some ⟨b, 0, none⟩)) ∧ w'.cell? ⟨b, 0, none⟩ = some (.int .i64 e) ∧ Below w.heap.size w w' ∧ w.drawn ≤ w'.drawn := by
  refine (qrj _ _ (.pointer none) _ hgA htA hfA).mono ?_
  rintro ev w' ⟨rfl, rfl⟩
  have hB : Below w.heap.size w (((((w.alloc (.cells #[.pointer none] 210)).alloc (.cells #[.pointer (some ⟨w.heap.size, 0, none⟩)] 212)).alloc (.cells #[.pointer (some ⟨4, 212, none⟩), .pointer (some ⟨(w.alloc (.cells #[.pointer none] 210)).heap.size, 0, none⟩), .int .u64 150] 272)).alloc (.cells #[.pointer (some ⟨4, 212, none⟩), .pointer (some ⟨(w.alloc (.cells #[.pointer none] 210)).heap.size, 0, none⟩), .int .u64 150] 272)).alloc (.cells #[.pointer (some ⟨b, 0, none⟩)] 210)) :=
   (((((Below.refl _ w).alloc (Nat.le_refl _) _).alloc (by simp) _).alloc (by simp; omega) _).alloc (by simp; omega) _).alloc (by simp; omega) _
  refine ⟨rfl, ?_, ?_, hB.setCell (p := ⟨w.heap.size, 0, none⟩) (by simp) _, Nat.le_refl _⟩
  ·refine (zb6 (zra (t := 210) (v := .pointer none) ?_ _)).1
   refine (Below.heap_alloc _ _ _ (by simp; omega)).trans ?_
   refine (Below.heap_alloc _ _ _ (by simp; omega)).trans ?_
   refine (Below.heap_alloc _ _ _ (by simp; omega)).trans ?_
   refine (Below.heap_alloc _ _ _ (by simp)).trans ?_
   exact World.alloc_heap_new w _
  ·have h1 := hB.block b hbl
   refine (zew (a := ⟨b, 0, none⟩) ((zbp _ (show b ≠ w.heap.size by omega)).trans h1)).trans hc
 go_enter func77, ntmps77
 go_wp2_with (go_at_call 112; refine hAs.mono ?_; rintro ev w' ⟨rfl, c1, c2, c3, c4⟩)
 go_ret
 exact ⟨rfl, c3, c4⟩
theorem qfw (w : World) : Calls prog 77 #[.nilIface] w fun ev w' => ev = .returned (.int .i64 0) ∧ Below w.heap.size w w' ∧ w.drawn ≤ w'.drawn := by
 go_enter func77, ntmps77
 go_wp2_with (go_at_call 112; refine (qri _ _).mono ?_; rintro ev w' ⟨rfl, rfl⟩)
 go_ret
 exact ⟨rfl, (Below.refl _ w).alloc (Nat.le_refl _) _, Nat.le_refl _⟩
theorem qke : CtJ errG prog 77 [.d (.v .nilIface)] [] [] (int 0) [] := by
 refine CtJ.of_below fun σ I w vs hG hI hl ha hm => ?_
 match vs, hl with
 | [v], _ =>
   have h0 := ha 0 _ v rfl rfl
   obtain rfl := RV_v h0
   exact qfw w
theorem qkd (e : Int) (cs : List AV) (T : TypeId) : CtJ errG prog 77 [.ifc 210 (.ptr 0 0)] [(0, .cells (int e :: cs) T)] [] (int e) [] := by
 refine CtJ.of_below fun σ I w vs hG hI hl ha hm => ?_
 match vs, hl with
 | [v], _ =>
   have h0 := ha 0 _ v rfl rfl
   obtain ⟨y, hy, hb, hn⟩ := hm.blk 0 _ rfl
   cases h0 with
   | ifc h0 => cases h0 with
     | @ptr _ _ n h0 =>
       rw [h0] at hy; cases hy
       cases hb with
       | @cells _ _ _ arr c1 c2 c3 =>
         refine qfx n e w hG.2 ?_
         have hlt : 0 < arr.size := by rw [c2]; simp
         have e0 : arr[0]? = some arr[0] := Array.getElem?_eq_getElem hlt
         have := c3 0 _ arr[0] rfl e0
         have e1 : arr[0] = .int .i64 e := by
          generalize arr[0] = z at this
          exact RV_v this
         simp [World.cell?, c1, e0, e1]
theorem zws (s : Store) : ¬ (zar s).hist = [] := by
 unfold zar
 split
 ·simp [newS]
 ·rename_i h; simpa using h
theorem zrx {s : Store} (hl : s.hist.length ≤ 1000000) : (zar s).hist.length ≤ 1000000 := by
 unfold zar
 split
 ·simp [newS]
 ·exact hl
theorem qg8 (s : Store) (hl : s.hist.length ≤ 1000000) : Ct prog 44 [st (zbs s)] [] [] (.tup [int ((zar s).hist.length - 1), lst ((zbg (zar s)).map resC)]) [] := by
 refine Ct.B func44 mixed 99 400 ?_
 simp
 refine CI.p (zu1 s) call70 99 ?_
 simp
 have h1 := zws s
 have h2 := zrx hl
 have h0 : 0 < (zar s).hist.length := List.length_pos_iff.2 h1
 have hw := zaa (n := ((zar s).hist.length : Int) - 1) (by omega) (by omega)
 refine CI.p (qd2 (zar s) h1 h2) call71 99 ?_
 simp
 refine ⟨by decide +kernel, ?_⟩
 exact fin0 (by simp [hw]) rfl
theorem qfp (s : Store) (adds : List Res) (gone : List Key) (hl : s.hist.length ≤ 1000000) (hok : OkRs (zbg (zar s))) (hn : (zbg (zar s)).length + adds.length ≤ 1000000) (hg : gone.length ≤ 9223372036854775807) : CtJ errG prog 51 [st (zbs s), lst (adds.map resC), lst (gone.map keyC)] [] [] (.tup [st (zbs (zqa (zar s) adds gone)), int (zh0 (zar s) adds gone)]) [] := by
 refine CtJ.B errK func51 mixed 99 400 ?_
 simp
 refine CI.p (zu1 s) call70 99 ?_
 simp
 have h1 := zws s
 have h2 := zrx hl
 have hp := qcs (zar s) adds gone h1 h2 hok hn hg
 by_cases he : zh0 (zar s) adds gone = 0
 ·simp only [errA, errM, if_pos he] at hp
  refine CI.p hp call76 99 ?_
  simp
  refine CI.j [] qke call77 99 ?_
  simp
  refine ⟨by decide +kernel, ?_⟩
  exact fin0 (by simp [he]) rfl
 ·simp only [errA, errM, if_neg he] at hp
  refine CI.cc [] hp call76 99 ?_
  simp
  refine CI.j [512] (qkd (zh0 (zar s) adds gone) [int (zar s).hist.length] 214) call77 99 ?_
  simp
  refine ⟨by decide +kernel, ?_⟩
  exact fin0 (by simp [he]) rfl
end Go.Proofs.YtmhfcgpmmghakaaGreatDoor
end
namespace Go.Proofs.YtmhfcgpmmghakaaGreatDoor
open Go.AI Go.G Tryz
set_option maxRecDepth 20000
attribute [simp] ntmps75 results75 ntmps49 results49 ntmps126 results126 ntmps154 results154 ntmps104 results104 ntmps174 results174 ntmps114 results114 ntmps211 results211
abbrev nnC (i : Nonce.Nn) : List D := [iD i.l0, iD i.l1, iD i.l2, iD i.l3, iD i.m]
theorem qra (n : Int) : Ct prog 75 [int n] [] [] (int (Nonce.bnd n)) [] := by
 refine Ct.B func75 mixed 99 400 ?_
 simp
 have e := qnw n
 exact fin0 (by simp [e]) rfl
theorem zpy (n : Int) : Ct prog 49 [int n] [] [] (.tup [st (ouC (Nonce.startO n)), st (nnC (Nonce.startI n))]) [] := by
 refine Ct.B func49 mixed 99 400 ?_
 simp
 refine CI.p (qra n) call75 99 ?_
 simp
 exact fin0 (by simp [Nonce.startO, Nonce.startI]) rfl
theorem zqu (k_ : Int) : Ct prog 126 [int k_] [] [] (bool (Nonce.kindB k_)) [] := by
 refine Ct.B func126 mixed 99 400 ?_
 simp
 refine sGI (fun h1 => ?_) (fun h1 => ?_) <;> simp only [h1] <;> simp
 ·exact fin0 (by simp [Nonce.kindB, h1]) rfl
 ·exact fin0 (by simp [Nonce.kindB, h1]) rfl
theorem zp0 (i : Nonce.Nn) : Ct prog 154 [st (nnC i)] [] [] (bool (Nonce.soundB i)) [] := by
 refine Ct.B func154 mixed 99 400 ?_
 simp
 refine LoopI.unroll mixed (Plain.retC _ _ _ _ _) rfl ?_
 refine CI.run 99 400 rfl ?_
 simp
 refine ⟨by decide +kernel, ?_⟩
 refine LoopI.unroll mixed (Plain.retC _ _ _ _ _) rfl ?_
 refine CI.run 99 400 rfl ?_
 simp
 refine ⟨by decide +kernel, ?_⟩
 refine LoopI.unroll mixed (Plain.retC _ _ _ _ _) rfl ?_
 refine CI.run 99 400 rfl ?_
 simp
 refine ⟨by decide +kernel, ?_⟩
 refine LoopI.unroll mixed (Plain.retC _ _ _ _ _) rfl ?_
 refine CI.run 99 400 rfl ?_
 simp
 refine ⟨by decide +kernel, ?_⟩
 refine LoopI.unroll mixed (Plain.retC _ _ _ _ _) rfl ?_
 refine CI.run 99 400 rfl ?_
 simp
 refine sGI (fun h => ?_) (fun h => ?_) <;> simp only [h] <;> simp
 ·refine CI.p (qra i.m) call75 99 ?_
  simp
  have e := qbh i h
  exact zac (by simp [e])
 ·have e := qf5 i h
  exact zac (by simp [e])
theorem qjv (o : Nonce.Ou) : Ct prog 104 [st (ouC o)] [] [] (bool (Nonce.goodB o)) [] := by
 refine Ct.B func104 mixed 99 400 ?_
 simp
 obtain ⟨a, b, c, d, x, y, z, t, m⟩ := o
 refine LoopI.unroll mixed (Plain.retC _ _ _ _ _) rfl ?_
 refine CI.run 99 400 rfl ?_
 simp
 repeat' first
  | (refine sGI (fun h => ?_) (fun h => ?_) <;> simp only [h] <;> simp [h])
  | (refine sBI (fun h => ?_) (fun h => ?_) <;> simp only [h] <;> simp [h])
  | (refine ⟨(show zaq _ _ from by decide +kernel), ?_⟩)
  | fail
 all_goals (first | (exact fin0 (by simp [Nonce.goodB, *]) rfl) | (refine ⟨by decide +kernel, ?_⟩; exact fin0 (by simp [Nonce.goodB, *]) rfl) | skip)
 all_goals
  refine LoopI.unroll mixed (Plain.retC _ _ _ _ _) rfl ?_
  refine CI.run 99 400 rfl ?_
  simp
 repeat' first
  | (refine sGI (fun h => ?_) (fun h => ?_) <;> simp only [h] <;> simp [h])
  | (refine sBI (fun h => ?_) (fun h => ?_) <;> simp only [h] <;> simp [h])
  | (refine ⟨(show zaq _ _ from by decide +kernel), ?_⟩)
  | fail
 all_goals (first | (exact fin0 (by simp [Nonce.goodB, *]) rfl) | (refine ⟨by decide +kernel, ?_⟩; exact fin0 (by simp [Nonce.goodB, *]) rfl) | skip)
 all_goals
  refine LoopI.unroll mixed (Plain.retC _ _ _ _ _) rfl ?_
  refine CI.run 99 400 rfl ?_
  simp
 repeat' first
  | (refine sGI (fun h => ?_) (fun h => ?_) <;> simp only [h] <;> simp [h])
  | (refine sBI (fun h => ?_) (fun h => ?_) <;> simp only [h] <;> simp [h])
  | (refine ⟨(show zaq _ _ from by decide +kernel), ?_⟩)
  | fail
 all_goals (first | (exact fin0 (by simp [Nonce.goodB, *]) rfl) | (refine ⟨by decide +kernel, ?_⟩; exact fin0 (by simp [Nonce.goodB, *]) rfl) | skip)
 all_goals
  refine LoopI.unroll mixed (Plain.retC _ _ _ _ _) rfl ?_
  refine CI.run 99 400 rfl ?_
  simp
 repeat' first
  | (refine sGI (fun h => ?_) (fun h => ?_) <;> simp only [h] <;> simp [h])
  | (refine sBI (fun h => ?_) (fun h => ?_) <;> simp only [h] <;> simp [h])
  | (refine ⟨(show zaq _ _ from by decide +kernel), ?_⟩)
  | fail
 all_goals (first | (exact fin0 (by simp [Nonce.goodB, *]) rfl) | (refine ⟨by decide +kernel, ?_⟩; exact fin0 (by simp [Nonce.goodB, *]) rfl) | skip)
 all_goals
  refine LoopI.unroll mixed (Plain.retC _ _ _ _ _) rfl ?_
  refine CI.run 99 400 rfl ?_
  simp
 all_goals
  refine CI.p (zp0 ⟨a, b, c, d, m⟩) call154 99 ?_
  simp
 all_goals (first | (exact fin0 (by simp [Nonce.goodB, Nonce.Ou.toI, *]) rfl) | (refine ⟨by decide +kernel, ?_⟩; exact fin0 (by simp [Nonce.goodB, Nonce.Ou.toI, *]) rfl))
theorem qpm (o : Nonce.Ou) : Ct prog 174 [st (ouC o)] [] [] (st (ouC (Nonce.outF o))) [] := by
 refine Ct.B func174 mixed 99 400 ?_
 simp
 refine CI.p (qjv o) call104 99 ?_
 simp
 refine sBI (fun h1 => ?_) (fun h1 => ?_) <;> simp only [h1] <;> simp
 ·exact fin0 (by simp [Nonce.outF, h1]) rfl
 ·refine CI.p (zpy o.m) call49 99 ?_
  simp
  exact fin0 (by simp [Nonce.outF, h1]) rfl
theorem qde (o : Nonce.Ou) (k_ : Int) : Ct prog 114 [st (ouC o), int k_] [] [] (.tup [st (ouC (Nonce.push o k_).1), int (Nonce.push o k_).2.1, int (Nonce.push o k_).2.2]) [] := by
 refine Ct.B func114 mixed 99 400 ?_
 simp
 refine CI.p (qpm o) call174 99 ?_
 simp
 simp only [Nonce.push]
 have hb := Nonce.outF_ok o
 generalize Nonce.outF o = q at hb ⊢
 obtain ⟨A, B, C, D, X, Y, Z, T, M⟩ := q
 simp only [Nonce.Ou.ok] at hb
 have wA := zaa (n := A + 1) (by omega) (by omega)
 have wB := zaa (n := B + 1) (by omega) (by omega)
 have wC := zaa (n := C + 1) (by omega) (by omega)
 have wD := zaa (n := D + 1) (by omega) (by omega)
 refine CI.p (zqu k_) call126 99 ?_
 simp
 by_cases hk : Nonce.kindB k_ = true
 ·rcases Nonce.kindB_is hk with rfl | rfl | rfl | rfl
  all_goals
   simp [hk]
  all_goals
   repeat' first
    | (refine sGI (fun h => ?_) (fun h => ?_) <;> simp only [h] <;> simp [h, wA, wB, wC, wD])
    | (refine sBI (fun h => ?_) (fun h => ?_) <;> simp only [h] <;> simp [h, wA, wB, wC, wD])
    | (refine ⟨(show zaq _ _ from by decide +kernel), ?_⟩)
    | fail
  all_goals
   clear wA wB wC wD
   first
    | (refine fin0 ?_ rfl; simp_all [Nonce.pushQ, Nonce.Ou.open', Nonce.Ou.last, Nonce.Ou.set]; done)
    | (refine ⟨by decide +kernel, fin0 ?_ rfl⟩; simp_all [Nonce.pushQ, Nonce.Ou.open', Nonce.Ou.last, Nonce.Ou.set]; done)
 ·simp [hk]
  exact fin0 (by simp [Nonce.pushQ, hk]) rfl
theorem qmj (o : Nonce.Ou) (k_ n : Int) : Ct prog 211 [st (ouC o), int k_, int n] [] [] (.tup [st (ouC (Nonce.done o k_ n).1), int (Nonce.done o k_ n).2]) [] := by
 refine Ct.B func211 mixed 99 400 ?_
 simp
 refine CI.p (qpm o) call174 99 ?_
 simp
 simp only [Nonce.done]
 generalize Nonce.outF o = q
 obtain ⟨A, B, C, D, X, Y, Z, T, M⟩ := q
 refine CI.p (zqu k_) call126 99 ?_
 simp
 by_cases hk : Nonce.kindB k_ = true
 ·rcases Nonce.kindB_is hk with rfl | rfl | rfl | rfl
  all_goals
   simp [hk]
  all_goals
   repeat' first
    | (refine sGI (fun h => ?_) (fun h => ?_) <;> simp only [h] <;> simp [h])
    | (refine sBI (fun h => ?_) (fun h => ?_) <;> simp only [h] <;> simp [h])
    | (refine ⟨(show zaq _ _ from by decide +kernel), ?_⟩)
    | fail
  all_goals
   first
    | (refine fin0 ?_ rfl; simp_all [Nonce.doneQ, Nonce.Ou.open', Nonce.Ou.last, Nonce.Ou.set]; done)
    | (refine ⟨by decide +kernel, fin0 ?_ rfl⟩; simp_all [Nonce.doneQ, Nonce.Ou.open', Nonce.Ou.last, Nonce.Ou.set]; done)
 ·simp [hk]
  exact fin0 (by simp [Nonce.doneQ, hk]) rfl
end Go.Proofs.YtmhfcgpmmghakaaGreatDoor
namespace Go.Proofs.YtmhfcgpmmghakaaGreatDoor
open Go.AI Go.G Tryz
set_option maxRecDepth 20000
attribute [simp] ntmps277 results277 ntmps199 results199 ntmps133 results133 ntmps132 results132 ntmps131 results131 ntmps200 results200 ntmps134 results134 ntmps202 results202 ntmps135 results135 ntmps281 results281 ntmps204 results204 ntmps205 results205 ntmps136 results136 ntmps137 results137 ntmps208 results208 ntmps209 results209 ntmps138 results138 ntmps89 results89
theorem qhu (l : List G.Mark) (kf : D) (p : G.Mark → Bool) (hf : ∀ x ∈ l, FnOk prog (.d kf) [st (zdu x)] (bool (p x))) (hl : l.length ≤ 9223372036854775807) : Ct prog 277 [lst (l.map zdu), .d kf] [] [] (int (idxF p l)) [] := by
 refine Ct.B func277 mixed 99 400 ?_
 simp
 refine LoopI.inv mixed rfl (ι := {k : Nat // k ≤ (l).length ∧ (l.take k).all (fun x => !p x) = true}) (fun k => [(0, lst (l.map zdu)), (1, .d kf), (7, int l.length), (8, int k.1)]) (fun k => []) 64 (fun k => (l).length - k.1) ⟨0, by omega, by simp⟩ [] (by constructor <;> simp) ?_
 rintro ⟨k, hk1, hi⟩ B hB
 refine CI.run 99 400 rfl ?_
 simp
 refine sBI (fun h => ?_) (fun h => ?_)
 ·have hk : k < (l).length := by simpa using h
  obtain ⟨r, hx, hr, hm, ht, hd⟩ := inL hk
  have hw := wr (k := k) (by omega)
  simp only [h]
  simp [hr, hw]
  refine CI.ff (hf r hm) rfl rfl rfl 99 ?_
  simp
  refine sBI (fun hp => ?_) (fun hp => ?_) <;> simp only [hp] <;> simp
  ·exact fin0 (by simp [zek hi hr hp]) rfl
  ·refine hB _ ⟨k + 1, by omega, by simp [ht, hi, hp]⟩ [] ?_ (by simp; omega)
   constructor <;> simp [hw, ht, hp]
 ·have hkl : k = (l).length := by simp at h; omega
  subst hkl
  simp only [h]
  simp [List.take_length, List.drop_length]
  rw [List.take_length] at hi
  exact fin0 (by simp [zb1 (fun x hx => by have := List.all_eq_true.1 hi x hx; simpa using this)]) rfl
theorem zyk (l : List G.Mark) (kf : D) (p : G.Mark → Bool) (hf : ∀ x ∈ l, FnOk prog (.d kf) [st (zdu x)] (bool (p x))) (hl : l.length ≤ 9223372036854775807) : Ct prog 199 [lst (l.map zdu), .d kf] [] [] (bool (l.any p)) [] := by
 refine Ct.B func199 mixed 99 400 ?_
 simp
 refine CI.p (qhu l kf p hf hl) call277 99 ?_
 simp
 rw [zev]
 exact fin0 (by simp) rfl
theorem zer (n m : Int) : Ct prog 133 [int n, int m] [] [] (bool (rngB n m)) [] := by
 refine Ct.B func133 mixed 99 400 ?_
 simp
 repeat' first
  | (refine sGI (fun h => ?_) (fun h => ?_) <;> simp only [h] <;> simp [h])
  | (refine sBI (fun h => ?_) (fun h => ?_) <;> simp only [h] <;> simp [h])
  | (refine ⟨(show zaq _ _ from by decide +kernel), ?_⟩)
  | fail
 all_goals exact fin0 (by simp [*, rngB]) rfl
theorem zdq (b : Bool) (e : Int) : Ct prog 132 [bool b, int e] [] [] (int (if b = true then 0 else e)) [] := by
 refine Ct.B func132 mixed 99 400 ?_
 simp
 refine sBI (fun h1 => ?_) (fun h1 => ?_) <;> simp only [h1] <;> simp
 ·exact fin0 (by simp [h1]) rfl
 ·exact fin0 (by simp [h1]) rfl
theorem qev (l : List Int) (hl : l.length ≤ 1000) : Ct prog 131 [lst (l.map intC)] [] [] (int ((l.find? fun e => !decide (e = 0)).getD 0)) [] := by
 refine Ct.B func131 mixed 99 400 ?_
 simp
 refine LoopI.inv mixed rfl (ι := {k : Nat // k ≤ (l).length ∧ (l.take k).all (fun e => decide (e = 0)) = true}) (fun k => [(5, lst (l.map intC)), (6, int l.length), (7, int k.1)]) (fun k => []) 64 (fun k => (l).length - k.1) ⟨0, by omega, by simp⟩ [] (by constructor <;> simp) ?_
 rintro ⟨k, hk1, hi⟩ B hB
 refine CI.run 99 400 rfl ?_
 simp
 refine sBI (fun h => ?_) (fun h => ?_)
 ·have hk : k < (l).length := by simpa using h
  obtain ⟨x, hx, hr, hm, ht, hd⟩ := inL hk
  have hw := wr (k := k) (by omega)
  simp only [h]
  simp [hr, hw]
  refine sBI (fun h1 => ?_) (fun h1 => ?_) <;> simp only [h1] <;> simp <;> (try simp only [nT, nF, dT, dF] at h1)
  ·have e : (l.find? fun e => !decide (e = 0)) = some x := qh6 hi hr h1
   exact fin0 (by simp [e]) rfl
  ·refine hB _ ⟨k + 1, by omega, by simp [ht, hi, h1]⟩ [] ?_ (by simp; omega)
   constructor <;> simp [hw, ht, h1]
 ·have hkl : k = (l).length := by simp at h; omega
  subst hkl
  simp only [h]
  simp [List.take_length, List.drop_length]
  rw [List.take_length] at hi
  have e : (l.find? fun e => !decide (e = 0)) = none := qet hi
  exact fin0 (by simp [e]) rfl
theorem qga (m : G.Mark) : Ct prog 200 [st (zdu m)] [] [] (bool (!rngB m.ver 2147483647)) [] := by
 refine Ct.B func200 mixed 99 400 ?_
 simp
 refine CI.p (zer m.ver 2147483647) call133 99 ?_
 simp
 exact fin0 (by simp) rfl
theorem qbk (f : G.Frame) (hf : OkFrame f) : Ct prog 134 [st (zaj f)] [] [] (bool (zcz f)) [] := by
 refine Ct.B func134 mixed 99 400 ?_
 simp
 refine CI.p (zyk f.have_ (fnD 200) (fun m => !rngB m.ver 2147483647) (fun m _ => FnOk.of (qga m) call200 rfl rfl) hf.have_) call199 99 ?_
 simp
 rw [zku]
 refine sGI (fun h1 => ?_) (fun h1 => ?_) <;> simp only [h1] <;> simp
 ·have hl : f.adds.length ≤ 64 ∧ f.gone.length ≤ 64 ∧ f.have_.length ≤ 64 ∧ f.held.length ≤ 64 := by
   simp only [Bool.not_eq_true', decide_eq_false_iff_not] at h1
   (repeat' split at h1) <;> omega
  obtain ⟨l1, l2, l3, l4⟩ := hl
  refine sGI (fun h2 => ?_) (fun h2 => ?_) <;> simp only [h2] <;> simp
  ·refine CI.p (zer f.epoch 2147483647) call133 99 ?_
   simp
   refine sGI (fun h3 => ?_) (fun h3 => ?_) <;> simp only [h3] <;> simp
   ·refine CI.p (zer f.nonce 2147483647) call133 99 ?_
    simp
    refine sGI (fun h4 => ?_) (fun h4 => ?_) <;> simp only [h4] <;> simp
    ·refine CI.p (zer f.turn 2147483647) call133 99 ?_
     simp
     refine sGI (fun h5 => ?_) (fun h5 => ?_) <;> simp only [h5] <;> simp
     ·refine CI.p (zer f.err 15) call133 99 ?_
      simp
      exact fin0 (by simp [zcz, l1, l2, l3, l4, h2, h3, h4, h5]) rfl
     ·exact fin0 (by simp [zcz, h5]) rfl
    ·exact fin0 (by simp [zcz, h4]) rfl
   ·exact fin0 (by simp [zcz, h3]) rfl
  ·exact fin0 (by simp [zcz, h2]) rfl
 ·have hl : zcz f = false := by
   rw [Bool.eq_false_iff]
   intro hs
   obtain ⟨l1, l2, l3, l4, _⟩ := zbl hs
   simp only [Bool.not_eq_false', decide_eq_true_eq] at h1
   (repeat' split at h1) <;> omega
  exact fin0 (by simp [hl]) rfl
theorem qrc (f : G.Frame) : Ct prog 202 [st (zaj f)] [] [] (st (zaj (zh4 f))) [] := by
 refine Ct.B func202 mixed 99 400 ?_
 simp
 refine sBI (fun h1 => ?_) (fun h1 => ?_) <;> simp only [h1] <;> simp <;> (try simp only [nT, nF, dT, dF] at h1)
 ·first | exact fin0 (by simp [zh4, h1]) rfl | exact zac (by simp [zh4, h1])
 refine sBI (fun h2 => ?_) (fun h2 => ?_) <;> simp only [h2] <;> simp <;> (try simp only [nT, nF, dT, dF] at h2)
 ·first | exact fin0 (by simp [zh4, h1, h2]) rfl | exact zac (by simp [zh4, h1, h2])
 refine sBI (fun h3 => ?_) (fun h3 => ?_) <;> simp only [h3] <;> simp <;> (try simp only [nT, nF, dT, dF] at h3)
 ·first | exact fin0 (by simp [zh4, h1, h2, h3]) rfl | exact zac (by simp [zh4, h1, h2, h3])
 refine sBI (fun h4 => ?_) (fun h4 => ?_) <;> simp only [h4] <;> simp <;> (try simp only [nT, nF, dT, dF] at h4)
 ·first | exact fin0 (by simp [zh4, h1, h2, h3, h4]) rfl | exact zac (by simp [zh4, h1, h2, h3, h4])
 ·first | exact fin0 (by simp [zh4, h1, h2, h3, h4]) rfl | exact zac (by simp [zh4, h1, h2, h3, h4])
theorem zw2 (f : G.Frame) (hf : OkFrame f) : Ct prog 135 [st (zaj f)] [] [] (bool (zez f)) [] := by
 refine Ct.B func135 mixed 99 400 ?_
 simp
 refine CI.p (qrc f) call202 99 ?_
 simp
 refine CI.p (qln (zh4 f) { zFrame with type := f.type } (qn8 hf)) call201 99 ?_ (ha := by simp [zFrame])
 simp [zFrame]
 exact zac (by simp [zez, zFrame])
theorem qr9 (k_ : Key) : Ct prog 281 [st (keyC k_)] [] [] (bool (okK k_)) [] := by
 refine Ct.B func281 mixed 99 400 ?_
 simp
 refine CI.p (zer k_.kind 3) call133 99 ?_
 simp
 refine sGI (fun h1 => ?_) (fun h1 => ?_) <;> simp only [h1] <;> simp
 ·refine CI.p (zea k_.name) call283 99 ?_
  simp
  exact fin0 (by simp [okK, h1]) rfl
 ·exact fin0 (by simp [okK, h1]) rfl
theorem qn9 (k_ : Key) : Ct prog 204 [st (keyC k_)] [] [] (bool (!okK k_)) [] := by
 refine Ct.B func204 mixed 99 400 ?_
 simp
 refine CI.p (qr9 k_) call281 99 ?_
 simp
 exact fin0 (by simp) rfl
theorem qhe (m : G.Mark) : Ct prog 205 [st (zdu m)] [] [] (bool (!okK m.k)) [] := by
 refine Ct.B func205 mixed 99 400 ?_
 simp
 refine CI.p (qn9 m.k) call204 99 ?_
 simp
 exact fin0 (by simp) rfl
theorem qdl (f : G.Frame) (hf : OkFrame f) : Ct prog 136 [st (zaj f)] [] [] (bool (zb0 f)) [] := by
 refine Ct.B func136 mixed 99 400 ?_
 simp
 refine CI.p (zrh f.gone (fnD 204) (fun k => !okK k) (fun k _ => FnOk.of (qn9 k) call204 rfl rfl) hf.gone) call203 99 ?_
 simp
 rw [zku, Bool.not_not]
 refine sGI (fun h1 => ?_) (fun h1 => ?_) <;> simp only [h1] <;> simp
 ·refine CI.p (zrh f.held (fnD 204) (fun k => !okK k) (fun k _ => FnOk.of (qn9 k) call204 rfl rfl) hf.held) call203 99 ?_
  simp
  rw [zku, Bool.not_not]
  refine sGI (fun h2 => ?_) (fun h2 => ?_) <;> simp only [h2] <;> simp
  ·refine CI.p (zyk f.have_ (fnD 205) (fun m => !okK m.k) (fun m _ => FnOk.of (qhe m) call205 rfl rfl) hf.have_) call199 99 ?_
   simp
   rw [zku, Bool.not_not]
   exact fin0 (by simp [zb0, h1, h2]) rfl
  ·exact fin0 (by simp [zb0, h1, h2]) rfl
 ·exact fin0 (by simp [zb0, h1]) rfl
theorem qjz (f : G.Frame) (hf : OkFrame f) : Ct prog 137 [st (zaj f)] [] [] (int (zcm f.adds)) [] := by
 refine Ct.B func137 mixed 99 400 ?_
 simp
 have hl := hf.adds.1
 refine LoopI.inv mixed rfl (ι := {k : Nat // k ≤ (f.adds).length ∧ (f.adds.take k).all (fun r => decide (zaw r = 0)) = true}) (fun k => [(7, lst (f.adds.map resC)), (8, int f.adds.length), (9, int k.1)]) (fun k => []) 64 (fun k => (f.adds).length - k.1) ⟨0, by omega, by simp⟩ [] (by constructor <;> simp) ?_
 rintro ⟨k, hk1, hi⟩ B hB
 refine CI.run 99 400 rfl ?_
 simp
 refine sBI (fun h => ?_) (fun h => ?_)
 ·have hk : k < (f.adds).length := by simpa using h
  obtain ⟨x, hx, hr, hm, ht, hd⟩ := inL hk
  have hw := wr (k := k) (by omega)
  simp only [h]
  simp [hr, hw]
  refine CI.p (zk3 x) call206 99 ?_
  simp
  refine sBI (fun h1 => ?_) (fun h1 => ?_) <;> simp only [h1] <;> simp <;> (try simp only [nT, nF, dT, dF] at h1)
  ·have e := zq3 hi hr h1
   exact fin0 (by simp [e]) rfl
  ·refine hB _ ⟨k + 1, by omega, by simp [ht, hi, h1]⟩ [] ?_ (by simp; omega)
   constructor <;> simp [hw, ht, h1]
 ·have hkl : k = (f.adds).length := by simp at h; omega
  subst hkl
  simp only [h]
  simp [List.take_length, List.drop_length]
  rw [List.take_length] at hi
  have e := zpf hi
  exact fin0 (by simp [e]) rfl
theorem qm1 (f : G.Frame) (r : Res) : Ct prog 208 [st (resC r), .d (.pro (zaj f))] [] [] (bool (!decide (r.kind = f.kind))) [] := by
 refine Ct.B func208 mixed 99 400 ?_
 simp
 exact fin0 (by simp) rfl
theorem qm0 (f : G.Frame) (k_ : Key) : Ct prog 209 [st (keyC k_), .d (.pro (zaj f))] [] [] (bool (!decide (k_.kind = f.kind))) [] := by
 refine Ct.B func209 mixed 99 400 ?_
 simp
 exact fin0 (by simp) rfl
theorem qjs (f : G.Frame) (hf : OkFrame f) : Ct prog 138 [st (zaj f)] [] [] (bool (zjp f)) [] := by
 refine Ct.B func138 mixed 1 400 ?_
 simp
 refine CI.s (tm := [(1, .d (.pro (zaj f)))]) (mm := []) (nx := 65) [] [64] (by constructor <;> simp) ?_
 refine CI.run 99 400 rfl ?_
 simp
 refine CI.p (qfj f.adds (.fn (.func 208) [] [.pro (zaj f)]) (fun r => !decide (r.kind = f.kind)) (fun r _ => FnOk.clo (by exact qm1 f r) call208 rfl rfl) hf.adds.len) call207 99 ?_
 simp
 rw [zku, Bool.not_not]
 refine sGI (fun h1 => ?_) (fun h1 => ?_) <;> simp only [h1] <;> simp
 ·refine CI.p (zrh f.gone (.fn (.func 209) [] [.pro (zaj f)]) (fun k => !decide (k.kind = f.kind)) (fun k _ => FnOk.clo (by exact qm0 f k) call209 rfl rfl) hf.gone) call203 99 ?_
  simp
  rw [zku, Bool.not_not]
  have e : zjp f = f.gone.all fun k => decide (k.kind = f.kind) := by rw [zjp, h1, Bool.true_and]
  rw [← e]
  exact fin0 (by simp) rfl
 ·skip
  have e : zjp f = false := by rw [zjp, h1, Bool.false_and]
  exact fin0 (by simp [e]) rfl
theorem zix (f : G.Frame) (hf : OkFrame f) : Ct prog 89 [st (zaj f)] [] [] (int (zas f)) [] := by
 refine Ct.B func89 mixed 99 400 ?_
 simp
 refine CI.p (zer f.type 3) call133 99 ?_
 simp
 refine sGI (fun h1 => ?_) (fun h1 => ?_) <;> simp only [h1] <;> simp
 ·refine CI.p (zer f.kind 3) call133 99 ?_
  simp
  refine CI.p (zdq (rngB f.kind 3) 4) call132 99 ?_
  simp
  refine CI.p (qbk f hf) call134 99 ?_
  simp
  refine CI.p (zdq (zcz f) 3) call132 99 ?_
  simp
  refine CI.p (zw2 f hf) call135 99 ?_
  simp
  refine CI.p (zdq (zez f) 2) call132 99 ?_
  simp
  refine CI.p (qdl f hf) call136 99 ?_
  simp
  refine CI.p (zdq (zb0 f) 5) call132 99 ?_
  simp
  refine CI.p (qjz f hf) call137 99 ?_
  simp
  refine CI.p (qjs f hf) call138 99 ?_
  simp
  refine CI.p (zdq (zjp f) 2) call132 99 ?_
  simp
  refine CI.g [1664] [] (qev [if rngB f.kind 3 = true then 0 else 4, if zcz f = true then 0 else 3, if zez f = true then 0 else 2, if zb0 f = true then 0 else 5, zcm f.adds, if zjp f = true then 0 else 2] (by simp)) call131 99 ?_
  simp
  have e := zv5 f
  rw [h1, Bool.true_and] at e
  rw [e]
  exact zac (by simp)
 ·skip
  refine CI.p (zdq false 4) call132 99 ?_
  simp
  refine CI.p (qbk f hf) call134 99 ?_
  simp
  refine CI.p (zdq (zcz f) 3) call132 99 ?_
  simp
  refine CI.p (zw2 f hf) call135 99 ?_
  simp
  refine CI.p (zdq (zez f) 2) call132 99 ?_
  simp
  refine CI.p (qdl f hf) call136 99 ?_
  simp
  refine CI.p (zdq (zb0 f) 5) call132 99 ?_
  simp
  refine CI.p (qjz f hf) call137 99 ?_
  simp
  refine CI.p (qjs f hf) call138 99 ?_
  simp
  refine CI.p (zdq (zjp f) 2) call132 99 ?_
  simp
  refine CI.g [1664] [] (qev [4, if zcz f = true then 0 else 3, if zez f = true then 0 else 2, if zb0 f = true then 0 else 5, zcm f.adds, if zjp f = true then 0 else 2] (by simp)) call131 99 ?_
  simp
  have e : zas f = 4 := by simp [zas, h1]
  exact zac (by simp [e])
end Go.Proofs.YtmhfcgpmmghakaaGreatDoor
namespace Go.Proofs.YtmhfcgpmmghakaaGreatDoor
open Go.AI Go.G Tryz
set_option maxRecDepth 20000
attribute [simp] ntmps28 results28 ntmps155 results155 ntmps105 results105 ntmps106 results106 ntmps69 results69 ntmps43 results43 ntmps139 results139 ntmps140 results140 ntmps142 results142 ntmps141 results141 ntmps90 results90 ntmps58 results58
theorem zm8 (e m : Int) : Ct prog 28 [int e, int m] [] [] (st (zed (zbz e m))) [] := by
 refine Ct.B func28 mixed 99 400 ?_
 simp
 refine CI.p (zpy m) call49 99 ?_
 simp
 have h := qez e
 exact fin0 (by simp [zbz, h, zView, zFrame]) rfl
theorem zu8 (f : G.Frame) (hf : OkFrame f) : Ct prog 155 [st (zaj f)] [] [] (bool (decide (zas f = 0))) [] := by
 refine Ct.B func155 mixed 99 400 ?_
 simp
 refine CI.p (zix f hf) call89 99 ?_
 simp
 exact fin0 (by simp) rfl
theorem qo4 (v : View) (hv : v.held.length ≤ 9223372036854775807) (hl : v.have_.length ≤ 1000000) : Ct prog 105 [st (zrs v)] [] [] (bool (zzd v)) [] := by
 refine Ct.B func105 mixed 99 400 ?_
 simp
 refine CI.p (qdv v.have_ hl) call143 99 ?_
 simp
 refine CI.p (zu8 (zdh v) (qeg v (by omega))) call155 99 ?_ (ha := by simp [zdh])
 simp [zdh]
 refine sGI (fun h1 => ?_) (fun h1 => ?_) <;> simp only [h1] <;> simp
 ·refine CI.p (zu8 (zd2 v) (zt5 hv)) call155 99 ?_ (ha := by simp [zd2])
  simp [zd2]
  exact fin0 (by simp [zzd, h1, zdh, zd2]) rfl
 ·exact fin0 (by simp [zzd, h1, zdh]) rfl
theorem qj5 (s : Sess) (hs : OkFrame s.v.push) : Ct prog 106 [st (zed s)] [] [] (bool (zcx s)) [] := by
 refine Ct.B func106 mixed 99 400 ?_
 simp
 refine sGI (fun h1 => ?_) (fun h1 => ?_) <;> simp only [h1] <;> simp
 ·have h1' : s.greeted = false := by simpa using h1
  exact fin0 (by simp [zcx, h1']) rfl
 have h1' : s.greeted = true := by simpa using h1
 refine CI.p (zu8 s.v.push hs) call155 99 ?_
 simp
 refine sGI (fun h2 => ?_) (fun h2 => ?_) <;> simp only [h2] <;> simp
 ·have h2' : ¬ zas s.v.push = 0 := by simpa using h2
  exact fin0 (by simp [zcx, h2']) rfl
 have h2' : zas s.v.push = 0 := by simpa using h2
 refine sGI (fun h3 => ?_) (fun h3 => ?_) <;> simp only [h3] <;> simp
 ·have h3' : ¬ s.v.push.type = 1 := by simpa using h3
  exact fin0 (by simp [zcx, h3']) rfl
 have h3' : s.v.push.type = 1 := by simpa using h3
 refine sBI (fun h4 => ?_) (fun h4 => ?_) <;> simp only [h4] <;> simp
 ·have h4' : ¬ s.v.push.epoch = s.epoch := by simpa using h4
  exact fin0 (by simp [zcx, h4']) rfl
 have h4' : s.v.push.epoch = s.epoch := by simpa using h4
 rcases zsj h2' with hk | hk | hk | hk
 ·simp [hk]
  refine sGI (fun h5 => ?_) (fun h5 => ?_) <;> simp only [h5] <;> simp [hk]
  ·exact zac (by simp [zcx, h1', h2', h3', h4', hk, h5, Nonce.Ou.open', Nonce.Ou.last])
  ·exact zac (by simp [zcx, h1', h2', h3', h4', hk, h5, Nonce.Ou.open', Nonce.Ou.last])
 ·simp [hk]
  refine sGI (fun h5 => ?_) (fun h5 => ?_) <;> simp only [h5] <;> simp [hk]
  ·exact zac (by simp [zcx, h1', h2', h3', h4', hk, h5, Nonce.Ou.open', Nonce.Ou.last])
  ·exact zac (by simp [zcx, h1', h2', h3', h4', hk, h5, Nonce.Ou.open', Nonce.Ou.last])
 ·simp [hk]
  refine sGI (fun h5 => ?_) (fun h5 => ?_) <;> simp only [h5] <;> simp [hk]
  ·exact zac (by simp [zcx, h1', h2', h3', h4', hk, h5, Nonce.Ou.open', Nonce.Ou.last])
  ·exact zac (by simp [zcx, h1', h2', h3', h4', hk, h5, Nonce.Ou.open', Nonce.Ou.last])
 ·simp [hk]
  refine sGI (fun h5 => ?_) (fun h5 => ?_) <;> simp only [h5] <;> simp [hk]
  ·exact zac (by simp [zcx, h1', h2', h3', h4', hk, h5, Nonce.Ou.open', Nonce.Ou.last])
  ·exact zac (by simp [zcx, h1', h2', h3', h4', hk, h5, Nonce.Ou.open', Nonce.Ou.last])
theorem qll (s : Sess) (hd : s.v.held.length ≤ 9223372036854775807) (hs : OkFrame s.v.push) (hl : s.v.have_.length ≤ 1000000) : Ct prog 69 [st (zed s)] [] [] (bool (zct s)) [] := by
 refine Ct.B func69 mixed 99 400 ?_
 simp
 refine sGI (fun h1 => ?_) (fun h1 => ?_) <;> simp only [h1] <;> simp
 ·skip
  refine sGI (fun h2 => ?_) (fun h2 => ?_) <;> simp only [h2] <;> simp
  ·skip
   refine sGI (fun h3 => ?_) (fun h3 => ?_) <;> simp only [h3] <;> simp
   ·skip
    refine sGI (fun h4 => ?_) (fun h4 => ?_) <;> simp only [h4] <;> simp
    ·skip
     refine sGI (fun h5 => ?_) (fun h5 => ?_) <;> simp only [h5] <;> simp
     ·skip
      refine CI.p (qjv s.out) call104 99 ?_
      simp
      refine sGI (fun h6 => ?_) (fun h6 => ?_) <;> simp only [h6] <;> simp
      ·skip
       refine CI.p (qo4 s.v hd hl) call105 99 ?_
       simp
       refine sGI (fun h7 => ?_) (fun h7 => ?_) <;> simp only [h7] <;> simp
       ·skip
        refine sGI (fun h8 => ?_) (fun h8 => ?_) <;> simp only [h8] <;> simp
        ·exact fin0 (by simp [zct, zfb, rngB, h1, h2, h3, h4, h5, h6, h7, h8]) rfl
        ·refine CI.p (qj5 s hs) call106 99 ?_
         simp
         exact fin0 (by simp [zct, zfb, rngB, h1, h2, h3, h4, h5, h6, h7, h8]) rfl
       ·exact fin0 (by simp [zct, h7]) rfl
      ·exact fin0 (by simp [zct, h6]) rfl
     ·exact fin0 (by simp [zct, zfb, rngB, h5]) rfl
    ·exact fin0 (by simp [zct, zfb, rngB, h4]) rfl
   ·exact fin0 (by simp [zct, zfb, rngB, h3]) rfl
  ·exact fin0 (by simp [zct, zfb, rngB, h2]) rfl
 ·exact fin0 (by simp [zct, zfb, rngB, h1]) rfl
theorem zwv (s : Sess) (hd : s.v.held.length ≤ 9223372036854775807) (hs : OkFrame s.v.push) (hl : s.v.have_.length ≤ 1000000) : Ct prog 43 [st (zed s)] [] [] (st (zed (zbh s))) [] := by
 refine Ct.B func43 mixed 99 400 ?_
 simp
 refine CI.p (qll s hd hs hl) call69 99 ?_
 simp
 refine sBI (fun h1 => ?_) (fun h1 => ?_) <;> simp only [h1] <;> simp
 ·have h1' : zct s = false := by simpa using h1
  refine CI.p (zm8 s.epoch s.out.m) call28 99 ?_
  simp
  exact fin0 (by simp [zbh, h1']) rfl
 ·have h1' : zct s = true := by simpa using h1
  exact fin0 (by simp [zbh, h1']) rfl
theorem zww (s : Sess) (hs : OkSess s) (hl : s.v.have_.length ≤ 1000000) : Ct prog 43 [st (zed s)] [] [] (st (zed (zbh s))) [] := zwv s hs.v.held hs.v.push hl
theorem qnb (s : Sess) (p : Store) (f : G.Frame) (hp : OkStore p) (hl : f.have_.length ≤ 1000) : Ct prog 139 [st (zed s), st (zbs p), st (zaj f)] [] [] (.tup [st (zed (zg6 s p f).1), int (zg6 s p f).2]) [] := by
 refine Ct.B func139 mixed 99 400 ?_
 simp
 refine sBI (fun h1 => ?_) (fun h1 => ?_) <;> simp only [h1] <;> simp
 ·exact fin0 (by simp [zg6, h1]) rfl
 refine CI.p (qmx p f.have_ hp hl) call210 99 ?_
 simp
 have hk := zne p f.have_
 refine sBI (fun h2 => ?_) (fun h2 => ?_) <;> simp only [h2] <;> simp <;> (try simp only [nT, nF, dT, dF] at h2)
 ·refine CI.cc [] (qd4 (zej p f.have_) (by omega)) call67 99 ?_
  simp
  first | exact fin0 (by simp [zg6, zju, h1, h2]) rfl | exact zac (by simp [zg6, zju, h1, h2])
 ·first | exact fin0 (by simp [zg6, zju, h1, h2]) rfl | exact zac (by simp [zg6, zju, h1, h2])
theorem qpd (s : Sess) (p : Store) (f : G.Frame) : Ct prog 140 [st (zed s), st (zbs p), st (zaj f)] [] [] (.tup [st (zed s), int 2]) [] := by
 refine Ct.B func140 mixed 99 400 ?_
 simp
 exact fin0 (by simp) rfl
theorem qnl (s : Sess) (p : Store) (f : G.Frame) : Ct prog 142 [st (zed s), st (zbs p), st (zaj f)] [] [] (.tup [st (zed (zns s f).1), int (zns s f).2]) [] := by
 refine Ct.B func142 mixed 99 400 ?_
 simp
 refine CI.p (zwa s.v f.turn f.held) call213 99 ?_
 simp
 exact fin0 (by simp [zns]) rfl
theorem qsp (s : Sess) (p : Store) (f : G.Frame) (hl : s.v.open_ = true → s.v.have_.length + s.v.push.adds.length ≤ 1000000 ∧ s.v.push.gone.length ≤ 9223372036854775807) (hp : p.hist.length ≤ 1000000) : Ct prog 141 [st (zed s), st (zbs p), st (zaj f)] [] [] (.tup [st (zed (ackH s p f).1), int (ackH s p f).2]) [] := by
 refine Ct.B func141 mixed 99 400 ?_
 simp
 refine CI.p (qmj s.out f.kind f.nonce) call211 99 ?_
 simp
 refine sBI (fun h1 => ?_) (fun h1 => ?_) <;> simp only [h1] <;> simp <;> (try simp only [nT, nF, dT, dF] at h1)
 ·first | exact fin0 (by simp [ackH, h1]) rfl | exact zac (by simp [ackH, h1])
 refine sBI (fun h2 => ?_) (fun h2 => ?_) <;> simp only [h2] <;> simp
 ·have h2' : s.v.open_ = false := by simpa using h2
  first | exact fin0 (by simp [ackH, h1, h2']) rfl | exact zac (by simp [ackH, h1, h2'])
 have h2' : s.v.open_ = true := by simpa using h2
 refine CI.p (qas s.v f (hl h2').1 (hl h2').2) call212 99 ?_
 simp
 refine sBI (fun h3 => ?_) (fun h3 => ?_) <;> simp only [h3] <;> simp
 ·first | exact fin0 (by simp [ackH, h1, h2', h3]) rfl | exact zac (by simp [ackH, h1, h2', h3])
 refine sBI (fun h4 => ?_) (fun h4 => ?_) <;> simp only [h4] <;> simp <;> (try simp only [nT, nF, dT, dF] at h4)
 ·have h4' : 64 < (ansV s.v f).have_.length := by omega
  first | exact fin0 (by simp [ackH, h1, h2', h3, h4']) rfl | exact zac (by simp [ackH, h1, h2', h3, h4'])
 have h4' : ¬ 64 < (ansV s.v f).have_.length := by omega
 refine CI.p (qg8 p hp) call44 99 ?_
 simp
 exact zac (by simp [ackH, h1, h2', h3, h4', nowI])
theorem qn1 : Ct prog 90 [int 0] [] [] (.d (fnD 139)) [] := by
 refine Ct.B func90 mixed 99 400 ?_
 simp
 exact fin0 (by simp) rfl
theorem qn0 : Ct prog 90 [int 1] [] [] (.d (fnD 140)) [] := by
 refine Ct.B func90 mixed 99 400 ?_
 simp
 exact fin0 (by simp) rfl
theorem qnz : Ct prog 90 [int 2] [] [] (.d (fnD 141)) [] := by
 refine Ct.B func90 mixed 99 400 ?_
 simp
 exact fin0 (by simp) rfl
theorem qny : Ct prog 90 [int 3] [] [] (.d (fnD 142)) [] := by
 refine Ct.B func90 mixed 99 400 ?_
 simp
 exact fin0 (by simp) rfl
theorem qej (s : Sess) (p : Store) (f : G.Frame) (hd : s.v.held.length ≤ 9223372036854775807) (hs : OkFrame s.v.push) (hl : s.v.have_.length ≤ 1000000) (hf : OkFrame f) (hp : OkStore p) (hpl : p.hist.length ≤ 1000000) : Ct prog 58 [st (zed s), st (zbs p), st (zaj f)] [] [] (.tup [st (zed (handle s p f).1), int (handle s p f).2]) [] := by
 refine Ct.B func58 mixed 99 400 ?_
 simp
 refine CI.p (zwv s hd hs hl) call43 99 ?_
 simp
 have hq0 := zmk s
 have hh : handle s p f = zdm (zbh s) p f := rfl
 rw [hh]
 clear hh
 generalize zbh s = q at hq0 ⊢
 have S := saneS_iff.1 hq0
 refine CI.p (zix f hf) call89 99 ?_
 simp
 refine sBI (fun h1 => ?_) (fun h1 => ?_) <;> simp only [h1] <;> simp <;> (try simp only [nT, nF, dT, dF] at h1)
 ·first | exact fin0 (by simp [zdm, h1]) rfl | exact zac (by simp [zdm, h1])
 refine sBI (fun h2 => ?_) (fun h2 => ?_) <;> simp only [h2] <;> simp <;> (try simp only [nT, nF, dT, dF] at h2)
 ·first | exact fin0 (by simp [zdm, h1, h2]) rfl | exact zac (by simp [zdm, h1, h2])
 have F := frameE_zero.1 h1
 have L := zbl F.small
 have hS := S.hl
 rcases qcq h1 with h3 | h3 | h3 | h3
 ·refine CI.p qn1 call90 99 ?_ (ha := by simp [h3])
  simp [h3]
  refine CI.ff (FnOk.of (qnb q p f hp (by omega)) call139 rfl rfl) rfl rfl rfl 99 ?_ (ha := by simp [h3])
  simp [h3]
  refine ⟨by decide +kernel, ?_⟩
  exact fin0 (by simp [zdm, h1, h2, h3]) rfl
 ·refine CI.p qn0 call90 99 ?_ (ha := by simp [h3])
  simp [h3]
  refine CI.ff (FnOk.of (qpd q p f) call140 rfl rfl) rfl rfl rfl 99 ?_ (ha := by simp [h3])
  simp [h3]
  refine ⟨by decide +kernel, ?_⟩
  exact fin0 (by simp [zdm, h1, h2, h3]) rfl
 ·refine CI.p qnz call90 99 ?_ (ha := by simp [h3])
  simp [h3]
  refine CI.ff (FnOk.of (qsp q p f (qpp S) hpl) call141 rfl rfl) rfl rfl rfl 99 ?_ (ha := by simp [h3])
  simp [h3]
  refine ⟨by decide +kernel, ?_⟩
  exact fin0 (by simp [zdm, h1, h2, h3]) rfl
 ·refine CI.p qny call90 99 ?_ (ha := by simp [h3])
  simp [h3]
  refine CI.ff (FnOk.of (qnl q p f) call142 rfl rfl) rfl rfl rfl 99 ?_ (ha := by simp [h3])
  simp [h3]
  refine ⟨by decide +kernel, ?_⟩
  exact fin0 (by simp [zdm, h1, h2, h3]) rfl
end Go.Proofs.YtmhfcgpmmghakaaGreatDoor
