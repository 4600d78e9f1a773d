/-
  LAYER 9: the walks of policies' exported functions.
-/
import Derived.Test.YtbmnaehodmgibaaGreatDoorWe
import Derived.Test.YtbmnaehodmgibaaGreatDoorAs
import Derived.Test.YtbmnaehodmgibaaGreatDoorPn
import Derived.Test.YtbmnaehodmgibaaGreatDoorFe
set_option linter.unusedSimpArgs false
set_option linter.unusedVariables false
section
open Go.RowKit
namespace Go.Proofs.YtbmnaehodmgibaaGreatDoor
open Go.AI Go.G
set_option maxRecDepth 20000
abbrev errV : Value := .iface 366 (.agg #[.pointer (some ⟨4, 165, none⟩)])
def errG : (Nat → Prop) → World → Prop := fun I w => I 0 ∧ w.cell? ⟨0, 0, none⟩ = some errV
theorem errK : zyn errG := fun I I' w w' h h1 h2 => ⟨h2 0 h.1, (ze7 (h1 0 h.1)).trans h.2⟩
set_option maxHeartbeats 4000000 in
theorem qcc (b : Nat) (e : Int) (w : World) (hg : w.cell? ⟨0, 0, none⟩ = some errV) (hc : w.cell? ⟨b, 0, none⟩ = some (.int .i64 e)) :
  Calls Tryz.prog 116 #[.iface 262 (.pointer (some ⟨b, 0, none⟩))] w fun ev w' => ev = .returned (.int .i64 e) ∧ Below w.heap.size w w' ∧ w.drawn ≤ w'.drawn := by
 have hlt : 0 < w.heap.size := by
  rcases Nat.eq_zero_or_pos w.heap.size with h0 | h
  ·simp [World.cell?, h0] at hg
  ·exact h
 have hbl : b < w.heap.size := by
  rcases Nat.lt_or_ge b w.heap.size with h | h
  ·exact h
  ·simp [World.cell?, Array.getElem?_eq_none h] at hc
 have hgA : (w.alloc (.cells #[.pointer none] 262)).cell? ⟨0, 0, none⟩ = some errV := by
  rw [World.cell?_alloc_lt _ _ ⟨0, 0, none⟩ hlt]; exact hg
 have htA : (w.alloc (.cells #[.pointer none] 262)).cell? ⟨w.heap.size, 0, none⟩ = some (.pointer none) := by simp
 have hfA : (w.alloc (.cells #[.pointer none] 262)).frozen? ⟨w.heap.size, 0, none⟩ = false := by simp
 have hAs : Calls Tryz.prog 186 #[.iface 262 (.pointer (some ⟨b, 0, none⟩)), .iface 264 (.pointer (some ⟨w.heap.size, 0, none⟩))] (w.alloc (.cells #[.pointer none] 262)) fun ev w' =>
   ev = .returned (.bool true) ∧ w'.cell? ⟨w.heap.size, 0, none⟩ = some (.pointer (some ⟨b, 0, none⟩)) ∧ w'.cell? ⟨b, 0, none⟩ = some (.int .i64 e) ∧ Below w.heap.size w w' ∧ w.drawn ≤ w'.drawn := by
  refine (qkm _ _ (.pointer none) _ hgA htA hfA).mono ?_
  rintro ev w' ⟨rfl, rfl⟩
  have hB : Below w.heap.size w (((((w.alloc (.cells #[.pointer none] 262)).alloc (.cells #[.pointer (some ⟨w.heap.size, 0, none⟩)] 264)).alloc (.cells #[.pointer (some ⟨4, 264, none⟩), .pointer (some ⟨(w.alloc (.cells #[.pointer none] 262)).heap.size, 0, none⟩), .int .u64 150] 313)).alloc (.cells #[.pointer (some ⟨4, 264, none⟩), .pointer (some ⟨(w.alloc (.cells #[.pointer none] 262)).heap.size, 0, none⟩), .int .u64 150] 313)).alloc (.cells #[.pointer (some ⟨b, 0, none⟩)] 262)) :=
   (((((Below.refl _ w).alloc (Nat.le_refl _) _).alloc (by simp) _).alloc (by simp; omega) _).alloc (by simp; omega) _).alloc (by simp; omega) _
  refine ⟨rfl, ?_, ?_, hB.setCell (p := ⟨w.heap.size, 0, none⟩) (by simp) _, Nat.le_refl _⟩
  ·refine (zcf (zpr (t := 262) (v := .pointer none) ?_ _)).1
   refine (Below.heap_alloc _ _ _ (by simp; omega)).trans ?_
   refine (Below.heap_alloc _ _ _ (by simp; omega)).trans ?_
   refine (Below.heap_alloc _ _ _ (by simp; omega)).trans ?_
   refine (Below.heap_alloc _ _ _ (by simp)).trans ?_
   exact World.alloc_heap_new w _
  ·have h1 := hB.block b hbl
   refine (ze7 (a := ⟨b, 0, none⟩) ((zb2 _ (show b ≠ w.heap.size by omega)).trans h1)).trans hc
 go_enter Tryz.func116, Tryz.ntmps116
 go_wp2_with (go_at_call 186; refine hAs.mono ?_; rintro ev w' ⟨rfl, c1, c2, c3, c4⟩)
 go_ret
 exact ⟨rfl, c3, c4⟩
theorem qcb (w : World) : Calls Tryz.prog 116 #[.nilIface] w fun ev w' => ev = .returned (.int .i64 0) ∧ Below w.heap.size w w' ∧ w.drawn ≤ w'.drawn := by
 go_enter Tryz.func116, Tryz.ntmps116
 go_wp2_with (go_at_call 186; refine (qkl _ _).mono ?_; rintro ev w' ⟨rfl, rfl⟩)
 go_ret
 exact ⟨rfl, (Below.refl _ w).alloc (Nat.le_refl _) _, Nat.le_refl _⟩
theorem qfw : CtJ errG Tryz.prog 116 [.d (.v .nilIface)] [] [] (int 0) [] := by
 refine CtJ.of_below fun σ I w vs hG hI hl ha hm => ?_
 match vs, hl with
 | [v], _ =>
   have h0 := ha 0 _ v rfl rfl
   obtain rfl := RV_v h0
   exact qcb w
theorem qfv (e : Int) (cs : List AV) (T : TypeId) : CtJ errG Tryz.prog 116 [.ifc 262 (.ptr 0 0)] [(0, .cells (int e :: cs) T)] [] (int e) [] := by
 refine CtJ.of_below fun σ I w vs hG hI hl ha hm => ?_
 match vs, hl with
 | [v], _ =>
   have h0 := ha 0 _ v rfl rfl
   obtain ⟨y, hy, hb, hn⟩ := hm.blk 0 _ rfl
   cases h0 with
   | ifc h0 => cases h0 with
     | @ptr _ _ n h0 =>
       rw [h0] at hy; cases hy
       cases hb with
       | @cells _ _ _ arr c1 c2 c3 =>
         refine qcc n e w hG.2 ?_
         have hlt : 0 < arr.size := by rw [c2]; simp
         have e0 : arr[0]? = some arr[0] := Array.getElem?_eq_getElem hlt
         have := c3 0 _ arr[0] rfl e0
         have e1 : arr[0] = .int .i64 e := by
          generalize arr[0] = z at this
          exact RV_v this
         simp [World.cell?, c1, e0, e1]
theorem zux (s : Store) : ¬ (zaw s).hist = [] := by
 unfold zaw
 split
 ·simp [newS]
 ·rename_i h; simpa using h
theorem zqa {s : Store} (hl : s.hist.length ≤ 1000000) : (zaw s).hist.length ≤ 1000000 := by
 unfold zaw
 split
 ·simp [newS]
 ·exact hl
attribute [simp] Tryz.ntmps34 Tryz.results34
theorem qdb (s : Store) (hl : s.hist.length ≤ 1000000) : Ct Tryz.prog 34 [st (za5 s)] [] [] (.tup [int ((zaw s).hist.length - 1), lst ((zam (zaw s)).map resC)]) [] := by
 refine Ct.B Tryz.func34 mixed 9999 400 ?_
 simp
 refine CW.p (ztd s) Tryz.call92 9999 ?_
 simp
 have h1 := zux s
 have h2 := zqa hl
 have h0 : 0 < (zaw s).hist.length := List.length_pos_iff.2 h1
 have hw : IntKind.wrap .i64 (((zaw s).hist.length : Int) - 1) = ((zaw s).hist.length : Int) - 1 := zae (by omega) (by omega)
 refine CW.p (zr5 (zaw s) h1 h2) Tryz.call91 9999 ?_
 simp
 refine ⟨by decide +kernel, ?_⟩
 first | exact fin0 (by simp [hw]) rfl | exact zaa (by simp [hw])
attribute [simp] Tryz.ntmps47 Tryz.results47
theorem qb8 (s : Store) (adds : List Res) (gone : List Key) (hl : s.hist.length ≤ 1000000) (hok : OkRs (zam (zaw s))) (hn : (zam (zaw s)).length + adds.length ≤ 1000000) (hg : gone.length ≤ 9223372036854775807) : CtJ errG Tryz.prog 47 [st (za5 s), lst (adds.map resC), lst (gone.map keyC)] [] [] (.tup [st (za5 (zir (zaw s) adds gone)), int (zh7 (zaw s) adds gone)]) [] := by
 refine CtJ.B errK Tryz.func47 mixed 9999 400 ?_
 simp
 refine CI.p (ztd s) Tryz.call92 9999 ?_
 simp
 have h1 := zux s
 have h2 := zqa hl
 have hp := zq1 (zaw s) adds gone h1 h2 hok hn hg
 by_cases he : zh7 (zaw s) adds gone = 0
 ·simp only [errA, errM, if_pos he] at hp
  refine CI.p hp Tryz.call89 9999 ?_
  simp
  refine CI.j [] qfw Tryz.call116 9999 ?_
  simp
  refine ⟨by decide +kernel, ?_⟩
  first | exact fin0 (by simp [he]) rfl | exact zaa (by simp [he])
 ·simp only [errA, errM, if_neg he] at hp
  refine CI.cc [] hp Tryz.call89 9999 ?_
  simp
  refine CI.j [512] (qfv (zh7 (zaw s) adds gone) [int (zaw s).hist.length] 266) Tryz.call116 9999 ?_
  simp
  refine ⟨by decide +kernel, ?_⟩
  first | exact fin0 (by simp [he]) rfl | exact zaa (by simp [he])
end Go.Proofs.YtbmnaehodmgibaaGreatDoor
end
