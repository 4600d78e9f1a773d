/-
  LAYERS 1 to 3: the walks of names, hosts, paths, and of what is wrong with a resource, of the program and of the reference.
-/
import Derived.Test.YtmhfcgpmmghakaaGreatDoorTy
import Derived.Test.YtmhfcgpmmghakaaGreatDoorPl
import Derived.Test.YtmhfcgpmmghakaaGreatDoorFc
import Derived.Test.YtmhfcgpmmghakaaGreatDoorFd
set_option linter.unusedSimpArgs false
set_option linter.unusedVariables false
namespace Go.Proofs.YtmhfcgpmmghakaaGreatDoor
open Go.AI Go.G Tryz
theorem mixed : prog.follows .mixedOrders = true := by kernel_rfl
attribute [simp] ntmps305 results305 ntmps334 results334 ntmps333 results333 ntmps382 results382 ntmps283 results283 ntmps349 results349 ntmps394 results394 ntmps381 results381 ntmps352 results352
theorem qov (a b : Str) : Ct prog 356 [str a, str b] [] [] (int (cmpS a b)) [] := Ct.pure (xs := [.string a, .string b]) (fun w => Tryz.strings_Compare a b w)
theorem qsn (a b : Str) : Ct prog 305 [str a, str b] [] [] (int (cmpS a b)) [] := by
 refine Ct.B func305 mixed 99 400 ?_
 simp
 refine CI.p (qov a b) call356 99 ?_
 simp
 exact fin0 (by simp) rfl
theorem lowP (c : Int) : Ct prog 334 [.d (.v (.int .i32 c))] [] [] (bool (lowI c)) [] := by
 refine Ct.B func334 mixed 99 400 ?_
 simp
 repeat' first
  | (refine sGI (fun h => ?_) (fun h => ?_) <;> simp only [h] <;> simp [h])
  | (refine sBI (fun h => ?_) (fun h => ?_) <;> simp only [h] <;> simp [h])
  | (refine ⟨(show zaq _ _ from by decide +kernel), ?_⟩)
  | fail
 all_goals exact fin0 (by simp [*, lowI]) rfl
theorem zxf (c : Int) : Ct prog 333 [.d (.v (.int .i32 c))] [] [] (bool (zsq c)) [] := by
 refine Ct.B func333 mixed 99 400 ?_
 simp
 refine CI.p (lowP c) call334 99 ?_
 simp
 repeat' first
  | (refine sGI (fun h => ?_) (fun h => ?_) <;> simp only [h] <;> simp [h])
  | (refine sBI (fun h => ?_) (fun h => ?_) <;> simp only [h] <;> simp [h])
  | (refine ⟨(show zaq _ _ from by decide +kernel), ?_⟩)
  | fail
 all_goals exact fin0 (by simp [*, zsq]) rfl
theorem znk (s p : Str) : Ct prog 382 [str s, str p] [] [] (bool (decide ((bs p).length ≤ (bs s).length) && decide ((bs s).take (bs p).length = bs p))) [] := by
 refine Ct.B func382 mixed 99 400 ?_
 simp
 have hs := zay s
 have hp := zay p
 refine sGI (fun h1 => ?_) (fun h1 => ?_) <;> simp only [h1] <;> simp [hs, hp]
 ·have h1' : (bs p).length ≤ (bs s).length := by have := of_decide_eq_true h1; omega
  refine ⟨by omega, ?_⟩
  exact fin0 (by simp [h1', zwt, zeb]) rfl
 ·have h1' : ¬ (bs p).length ≤ (bs s).length := by have := of_decide_eq_false h1; omega
  exact fin0 (by simp [h1']) rfl
theorem zea (s : Str) : Ct prog 283 [str s] [] [] (bool (zc5 s)) [] := by
 refine Ct.B func283 mixed 99 400 ?_
 simp
 have hsz := zay s
 refine sBI (fun h1 => ?_) (fun h1 => ?_) <;> simp only [h1] <;> simp [hsz]
 ·have hz : ¬ ((bs s).length ≤ 12) := by have := of_decide_eq_true h1; omega
  exact fin0 (by simp [zc5, zij, hz]) rfl
 have hz : (bs s).length ≤ 12 := by have := of_decide_eq_false h1; omega
 refine LoopI.inv mixed rfl (ι := {k : Nat // k ≤ (bs s).length ∧ ((bs s).take k).all zlo = true ∧ (1 ≤ k → lowB ((bs s).headD 0) = true)}) (fun k => [(0, str s), (9, .own 64)]) (fun k => [(64, .iter s k.1)]) 65 (fun k => (bs s).length - k.1) ⟨0, by omega, by simp, by omega⟩ [] (by constructor <;> simp) ?_
 rintro ⟨k, hk1, hi, hl⟩ B hB
 by_cases hk : k < (bs s).length
 ·have hr : (bs s)[k]? = some (bs s)[k] := List.getElem?_eq_getElem hk
  have hm : (bs s)[k] ∈ (bs s) := List.getElem_mem hk
  have ht : (bs s).take (k + 1) = (bs s).take k ++ [(bs s)[k]] := by rw [List.take_add_one, hr]; rfl
  have h0 : k = 0 → (bs s).headD 0 = (bs s)[k] := by
   intro e
   simp only [e, List.headD_eq_head?_getD, List.head?_eq_getElem?]
   rw [List.getElem?_eq_getElem (by omega)]; rfl
  generalize (bs s)[k] = c at hr hm ht h0
  by_cases hc : c.toNat < 128
  ·refine CI.run 99 400 rfl ?_
   simp [hsz, hk, zt7 hr hc]
   refine CI.p (zxf c.toNat) call333 99 ?_
   simp
   refine sGI (fun h2 => ?_) (fun h2 => ?_) <;> simp only [h2] <;> simp
   ·have h2' : (bs s).all zlo = false := by
     rw [List.all_eq_false]; exact ⟨c, hm, by simpa using h2⟩
    exact fin0 (by simp [zc5, zij, h2']) rfl
   have h2' : zlo c = true := by simpa using h2
   refine sGI (fun h3 => ?_) (fun h3 => ?_) <;> simp only [h3] <;> simp
   ·have hk0 : k = 0 := by have := of_decide_eq_true h3; omega
    refine CI.p (lowP c.toNat) call334 99 ?_
    simp
    refine sBI (fun h4 => ?_) (fun h4 => ?_) <;> simp only [h4] <;> simp
    ·have h4' : lowB c = false := by simpa using h4
     have h5 : (bs s).head?.getD 0 = c := by rw [← List.headD_eq_head?_getD]; exact h0 hk0
     exact fin0 (by simp [zc5, zij, h5, h4']) rfl
    ·have h4' : lowB c = true := by simpa using h4
     refine hB _ ⟨k + 1, by omega, by simp [ht, hi, h2'], fun _ => by rw [h0 hk0]; exact h4'⟩ [] ?_ (by simp; omega)
     constructor <;> simp
   ·have hk0 : 1 ≤ k := by have := of_decide_eq_false h3; omega
    refine hB _ ⟨k + 1, by omega, by simp [ht, hi, h2'], fun _ => hl hk0⟩ [] ?_ (by simp; omega)
    constructor <;> simp
  ·have hu := zt8 hr (by omega)
   have hv : zlo c = false := by
    cases hv : zlo c
    ·rfl
    ·exact absurd (qc1 hv) hc
   have h2' : (bs s).all zlo = false := by
    rw [List.all_eq_false]; exact ⟨c, hm, by simp [hv]⟩
   refine CI.run 99 400 rfl ?_
   simp [hsz, hk]
   refine CI.p (zxf (Utf8.decode s k).1) call333 99 ?_
   simp
   rw [zsp hu]
   simp
   exact fin0 (by simp [zc5, zij, h2']) rfl
 ·have hkl : k = (bs s).length := by omega
  rw [hkl, List.take_length] at hi
  refine CI.run 99 400 rfl ?_
  simp [hsz, hk, hkl]
  cases hb : bs s with
  | nil =>
    have e : s = ⟨#[]⟩ := zpm (by rw [hb]; rfl)
    subst e
    exact fin0 (by simp [zc5, zij, hb]) rfl
  | cons a l =>
    have hne : ¬ s = ⟨#[]⟩ := by
     intro e; subst e; cases hb
    have e : zc5 s = true := by
     have h5 := hl (by rw [hkl, hb]; simp)
     have h6 : 1 ≤ (bs s).length := by rw [hb]; simp
     simp only [zc5, zij, hi, hz, h5, h6, decide_true, Bool.true_and]
    exact fin0 (by simp [e, hne]) rfl
theorem zpb (s p : Str) : Ct prog 349 [str s, str p] [] [] (bool (decide ((bs p).length ≤ (bs s).length) && decide ((bs s).take (bs p).length = bs p))) [] := by
 refine Ct.B func349 mixed 99 400 ?_
 simp
 refine CI.p (znk s p) call382 99 ?_
 simp
 exact fin0 (by simp) rfl
def zu0 (s p : Str) : Str := if (decide ((bs p).length ≤ (bs s).length) && decide ((bs s).take (bs p).length = bs p)) = true then s.extract (bs p).length s.size else s
theorem zyv (s p : Str) : Ct prog 394 [str s, str p] [] [] (str (zu0 s p)) [] := by
 refine Ct.B func394 mixed 99 400 ?_
 simp
 have hs := zay s
 have hp := zay p
 refine CI.p (znk s p) call382 99 ?_
 simp
 generalize hq : (decide ((bs p).length ≤ (bs s).length) && decide ((bs s).take (bs p).length = bs p)) = q
 refine sBI (fun h1 => ?_) (fun h1 => ?_) <;> simp only [h1] <;> simp [hs, hp]
 ·have h1' : (bs p).length ≤ (bs s).length := by
   rw [h1, Bool.and_eq_true] at hq; exact of_decide_eq_true hq.1
  refine ⟨by omega, ?_⟩
  exact fin0 (by simp [zu0, hq, h1, hs]) rfl
 ·exact fin0 (by simp [zu0, hq, h1]) rfl
theorem zuz (s p : Str) : Ct prog 381 [str s, str p] [] [] (str (zu0 s p)) [] := by
 refine Ct.B func381 mixed 99 400 ?_
 simp
 refine CI.p (zyv s p) call394 99 ?_
 simp
 exact fin0 (by simp) rfl
theorem qc0 (s : Str) : Ct prog 352 [str s] [] [] (bool (zln s)) [] := by
 refine Ct.B func352 mixed 99 400 ?_
 simp
 have hsz := zay s
 refine LoopI.inv mixed rfl (ι := {k : Nat // k ≤ (bs s).length ∧ ((bs s).take k).all slB = true}) (fun k => [(0, str s), (6, .own 64)]) (fun k => [(64, .iter s k.1)]) 65 (fun k => (bs s).length - k.1) ⟨0, by omega, by simp⟩ [] (by constructor <;> simp) ?_
 rintro ⟨k, hk1, hi⟩ B hB
 by_cases hk : k < (bs s).length
 ·have hr : (bs s)[k]? = some (bs s)[k] := List.getElem?_eq_getElem hk
  have hm : (bs s)[k] ∈ (bs s) := List.getElem_mem hk
  have ht : (bs s).take (k + 1) = (bs s).take k ++ [(bs s)[k]] := by rw [List.take_add_one, hr]; rfl
  generalize (bs s)[k] = c at hr hm ht
  by_cases hc : c.toNat < 128
  ·refine CI.run 99 400 rfl ?_
   simp [hsz, hk, zt7 hr hc]
   refine CI.p (zxf c.toNat) call333 99 ?_
   simp
   refine sGI (fun h2 => ?_) (fun h2 => ?_) <;> simp only [h2] <;> simp
   ·refine sBI (fun h3 => ?_) (fun h3 => ?_) <;> simp only [h3] <;> simp
    ·have h2' : (bs s).all slB = false := by
      rw [List.all_eq_false]; exact ⟨c, hm, by simp [slB] at h2 h3 ⊢; exact ⟨h2, by omega⟩⟩
     exact fin0 (by simp [zln, h2']) rfl
    ·have h2' : slB c = true := by simp [slB] at h2 h3 ⊢; exact .inr (by omega)
     refine hB _ ⟨k + 1, by omega, by simp [ht, hi, h2']⟩ [] ?_ (by simp; omega)
     constructor <;> simp
   ·have h2' : slB c = true := by simp [slB] at h2 ⊢; exact .inl h2
    refine hB _ ⟨k + 1, by omega, by simp [ht, hi, h2']⟩ [] ?_ (by simp; omega)
    constructor <;> simp
  ·have hu := zt8 hr (by omega)
   have hv : slB c = false := by
    cases hv : zlo c
    ·simp [slB, hv]; omega
    ·exact absurd (qc1 hv) hc
   have h2' : (bs s).all slB = false := by
    rw [List.all_eq_false]; exact ⟨c, hm, by simp [hv]⟩
   have hn : ¬ ((Utf8.decode s k).1 : Int) = 47 := by omega
   refine CI.run 99 400 rfl ?_
   simp [hsz, hk]
   refine CI.p (zxf (Utf8.decode s k).1) call333 99 ?_
   simp
   rw [zsp hu]
   simp [hn]
   exact fin0 (by simp [zln, h2']) rfl
 ·have hkl : k = (bs s).length := by omega
  rw [hkl, List.take_length] at hi
  refine CI.run 99 400 rfl ?_
  simp [hsz, hk, hkl]
  refine sGI (fun h1 => ?_) (fun h1 => ?_) <;> simp only [h1] <;> simp
  ·refine CI.p (zpb s ⟨#[47]⟩) call349 99 ?_
   simp
   have hz : (bs s).length ≤ 40 := by have := of_decide_eq_true h1; omega
   have e : zln s = (decide ((bs ⟨#[47]⟩).length ≤ (bs s).length) && decide ((bs s).take (bs ⟨#[47]⟩).length = bs ⟨#[47]⟩)) := by
    rw [show bs ⟨#[47]⟩ = [47] from rfl]
    simp only [zln, hi, hz]
    cases hb : bs s with
    | nil => rfl
    | cons a l => simp [← UInt8.toNat_inj]
   exact fin0 (by simp [e]) rfl
  ·have hz : ¬ ((bs s).length ≤ 40) := by have := of_decide_eq_false h1; omega
   exact fin0 (by simp [zln, hz]) rfl
end Go.Proofs.YtmhfcgpmmghakaaGreatDoor
section
open Go.RowKit Go.Shelf
namespace Go.Proofs.YtmhfcgpmmghakaaGreatDoor
open Go.AI Go.G Tryz
attribute [local go_sem] Oper.semAt_some
theorem zy8 (s p : Str) (n : Int) (w : World) : Calls prog 397 #[.string s, .string p, .int .i64 n] w fun e w' => e = .returned (.func (.func 398) #[] #[.pointer (some ⟨w.heap.size + 1, 0, none⟩), .pointer (some ⟨w.heap.size, 0, none⟩), .pointer (some ⟨w.heap.size + 2, 0, none⟩)]) ∧ w' = ((w.alloc (.cells #[.string s] 9)).alloc (.cells #[.string p] 9)).alloc (.cells #[.int .i64 n] 3) := by
 go_enter func397, ntmps397
 go_wp2
 go_ret
 exact ⟨rfl, rfl⟩
theorem qaw (s p : Str) (w : World) : Calls prog 393 #[.string s, .string p] w fun e w' => e = .returned (.func (.func 398) #[] #[.pointer (some ⟨w.heap.size + 1, 0, none⟩), .pointer (some ⟨w.heap.size, 0, none⟩), .pointer (some ⟨w.heap.size + 2, 0, none⟩)]) ∧ w' = ((w.alloc (.cells #[.string s] 9)).alloc (.cells #[.string p] 9)).alloc (.cells #[.int .i64 0] 3) := by
 go_enter func393, ntmps393
 go_wp2_with (go_at_call 397; refine (zy8 _ _ _ _).mono ?_; rintro e w' ⟨rfl, rfl⟩)
 go_ret
 exact ⟨rfl, rfl⟩
structure NmAt (w : World) (rest : Str) (lp : Loop) (W : World) : Prop where
 b0 : W.heap[w.heap.size]? = some (.cells #[.bool false] 4 (0, 0))
 b1 : W.heap[w.heap.size + 1]? = some (.cells #[.string rest] 9 (0, 0))
 b2 : W.heap[w.heap.size + 2]? = some (.cells #[.string ⟨#[46]⟩] 9 (0, 0))
 b3 : W.heap[w.heap.size + 3]? = some (.cells #[.int .i64 0] 3 (0, 0))
 b4 : W.heap[w.heap.size + 4]? = some (.deferred (some []))
 b5 : W.heap[w.heap.size + 5]? = some (.loop lp)
 below : Below w.heap.size w W
 dr : w.drawn ≤ W.drawn
theorem zb6 {W : World} {B : Nat} {v : Value} {t : TypeId} (h : W.heap[B]? = some (.cells #[v] t (0, 0))) : W.cell? ⟨B, 0, none⟩ = some v ∧ W.frozen? ⟨B, 0, none⟩ = false := by
 constructor <;> simp [World.cell?, World.frozen?, h]
theorem zra {W : World} {B : Nat} {v : Value} {t : TypeId} (h : W.heap[B]? = some (.cells #[v] t (0, 0))) (x : Value) : (W.setCell ⟨B, 0, none⟩ x).heap[B]? = some (.cells #[x] t (0, 0)) := by
 obtain ⟨hlt, hk⟩ := Array.getElem?_eq_some_iff.1 h
 show (W.heap.modify B _)[B]? = _
 rw [Array.getElem?_eq_getElem (by rw [Array.size_modify]; exact hlt), Array.getElem_modify_self, hk]
 rfl
theorem zbp {W : World} {B k : Nat} (x : Value) (h : k ≠ B) : (W.setCell ⟨B, 0, none⟩ x).heap[k]? = W.heap[k]? := Below.heap_setCell W ⟨B, 0, none⟩ x k h
section
variable {w W W' : World} {rest : Str} {lp : Loop}
theorem NmAt.lt (h : NmAt w rest lp W) : w.heap.size + 5 < W.heap.size := (Array.getElem?_eq_some_iff.1 h.b5).1
theorem NmAt.grow (h : NmAt w rest lp W) (hb : Below W.heap.size W W') (hd : W.drawn ≤ W'.drawn) : NmAt w rest lp W' := by
 have := h.lt
 exact ⟨(hb.block _ (by omega)).trans h.b0, (hb.block _ (by omega)).trans h.b1, (hb.block _ (by omega)).trans h.b2, (hb.block _ (by omega)).trans h.b3, (hb.block _ (by omega)).trans h.b4, (hb.block _ (by omega)).trans h.b5, h.below.trans (hb.mono h.below.size), Nat.le_trans h.dr hd⟩
theorem NmAt.set1 (h : NmAt w rest lp W) (r : Str) : NmAt w r lp (W.setCell ⟨w.heap.size + 1, 0, none⟩ (.string r)) :=
 ⟨(zbp _ (by omega)).trans h.b0, zra h.b1 _, (zbp _ (by omega)).trans h.b2, (zbp _ (by omega)).trans h.b3, (zbp _ (by omega)).trans h.b4, (zbp _ (by omega)).trans h.b5, h.below.setCell (p := ⟨w.heap.size + 1, 0, none⟩) (by simp) _, h.dr⟩
theorem NmAt.set0 (h : NmAt w rest lp W) : NmAt w rest lp (W.setCell ⟨w.heap.size, 0, none⟩ (.bool false)) :=
 ⟨zra h.b0 _, (zbp _ (by omega)).trans h.b1, (zbp _ (by omega)).trans h.b2, (zbp _ (by omega)).trans h.b3, (zbp _ (by omega)).trans h.b4, (zbp _ (by omega)).trans h.b5, h.below.setCell (p := ⟨w.heap.size, 0, none⟩) (by simp) _, h.dr⟩
theorem Below.put {B l : Nat} {w W : World} (h : Below B w W) (o : Obj) (hl : B ≤ l) : Below B w (W.putObj l o) :=
 ⟨h.os, h.tape, h.output, by simpa using h.size, fun k hk => (World.putObj_heap_other (by omega)).trans (h.block k hk)⟩
theorem NmAt.put (h : NmAt w rest lp W) (lq : Loop) : NmAt w rest lq (W.putObj (w.heap.size + 5) (.loop lq)) :=
 ⟨(World.putObj_heap_other (by omega)).trans h.b0, (World.putObj_heap_other (by omega)).trans h.b1, (World.putObj_heap_other (by omega)).trans h.b2, (World.putObj_heap_other (by omega)).trans h.b3, (World.putObj_heap_other (by omega)).trans h.b4, World.putObj_heap_same h.lt, Below.put h.below _ (by omega), h.dr⟩
end
end Go.Proofs.YtmhfcgpmmghakaaGreatDoor
end
section
namespace Go.G
open Go.AI
theorem zla : ∀ (l p : List UInt8) (i : Int), Lib.indexByte l 46 = i → (i < 0 → zb8 p l = zij (p ++ l)) ∧ (0 ≤ i → zb8 p l = (zij (p ++ l.take i.toNat) && zb8 [] (l.drop (i.toNat + 1))))
 | [], p, i, h => by
   simp [Lib.indexByte] at h; subst h; simp [zb8]
 | c :: l, p, i, h => by
   simp only [Lib.indexByte] at h
   by_cases hc : c = 46
   ·subst hc
    simp at h; subst h
    simp [zb8]
   ·have hc' : (c == 46) = false := by simpa using hc
    have ih := zla l (p ++ [c]) (Lib.indexByte l 46) rfl
    have h1 := Lib.indexByte_ge l 46
    simp only [hc'] at h
    by_cases h2 : Lib.indexByte l 46 < 0
    ·have e : Lib.indexByte l 46 = -1 := by omega
     rw [e] at h
     have : i = -1 := by simpa using h.symm
     subst this
     exact ⟨fun _ => by rw [zb8, if_neg hc, ih.1 h2]; simp, fun h => by omega⟩
    ·obtain ⟨k, hk⟩ : ∃ k : Nat, Lib.indexByte l 46 = k := ⟨(Lib.indexByte l 46).toNat, by omega⟩
     rw [hk] at h ih
     have e : i = ((k + 1 : Nat) : Int) := by
      have : ¬ (k : Int) < 0 := by omega
      simp [this] at h; omega
     subst e
     refine ⟨fun h => by omega, fun _ => ?_⟩
     rw [zb8, if_neg hc, ih.2 (by omega)]
     simp
end Go.G
open Go.RowKit Go.Shelf
namespace Go.Proofs.YtmhfcgpmmghakaaGreatDoor
open Go.AI Go.G
attribute [local go_sem] Oper.semAt_some
theorem zrc {σ σ' : Names} {I I' : Nat → Prop} {w w' : World} {nm : Nat} {m' : Mem} (hp : Post σ I w (zab []) nm σ' I' w' m') : Below w.heap.size w w' :=
 ⟨hp.os, hp.tape, hp.output.eq, hp.size, fun k hk => hp.frame k hk (by rintro ⟨b, _, _, hb, _⟩; simp [zab] at hb)⟩
theorem zo4 (s : Str) (w : World) : Calls Tryz.prog 283 #[.string s] w fun e w' => e = .returned (.bool (zc5 s)) ∧ Below w.heap.size w w' ∧ w.drawn ≤ w'.drawn := by
 refine (zea s (fun _ => none) (fun n => n < w.heap.size) w [.string s] (fun _ h => h) rfl (fun i c x h1 h2 => ?_) ⟨fun b k hb => by simp [zab] at hb, fun b b' k k' x x' n hb => by simp [zab] at hb⟩ (fun _ _ => rfl)).mono ?_
 ·match i with
  | 0 => simp at h1 h2; subst h1; subst h2; exact .d (.v _)
  | i + 1 => simp at h1
 ·rintro e w' ⟨v, σ', I', rfl, hp, hv⟩
  cases hv with
  | d hd => cases hd with
    | v => exact ⟨rfl, zrc hp, hp.output.drawn⟩
def qdi (H : Nat) (W : World) : Nat := match W.cell? ⟨H + 1, 0, none⟩ with
 | some (.string s) => s.size
 | _ => 0
theorem zs4 {w W : World} {rest : Str} {r : Loop} (h : NmAt w rest r W) : qdi w.heap.size W = rest.size := by
 simp [qdi, (zb6 h.b1).1]
def NmY (w : World) (rest : Str) (r : Loop) (x : Str) (e : Ending) (W' : World) : Prop := (e = .returned (.bool true) ∧ zc5 x = true ∧ NmAt w rest r W') ∨ (e = .returned (.bool false) ∧ zc5 x = false ∧ ∃ q : Loop, q.state = .done ∧ q.pending = some .ret ∧ NmAt w rest q W')
abbrev qss (w : World) (r : Loop) (t : Bool) (W : World) : Prop := (t = true ∧ ∃ rest, NmAt w rest r W) ∨ (t = false ∧ ∃ rest, ∃ q : Loop, q.state = .done ∧ q.pending = some .ret ∧ NmAt w rest q W)
set_option maxRecDepth 100000 in
set_option maxHeartbeats 2000000 in
theorem qp6 (m : Nat) (hm : 1 ≤ m) (w : World) (s : Str) (r : Loop) (hs : (bs s).length ≤ 40)
  (hY : ∀ W rest x, NmAt w rest r W → YieldAt Fence.wide (m - 1) Tryz.prog (w.heap.size + 5) #[.string x] W (NmY w rest r x))
  (W : World) (h : NmAt w s r W) :
  CallsIn Fence.wide m Tryz.prog 398 #[.func (.yield (w.heap.size + 5)) #[] #[], .pointer (some ⟨w.heap.size + 2, 0, none⟩), .pointer (some ⟨w.heap.size + 1, 0, none⟩), .pointer (some ⟨w.heap.size + 3, 0, none⟩)] W fun e W' => (∃ v, e = .returned v) ∧ qss w r (zb8 [] (bs s)) W' := by
 refine callsIn_of_wp Tryz.func398 rfl trivial ?_ rfl
 simp only [Tryz.ntmps398, List.size_toArray, List.length_cons, List.length_nil, Nat.reduceAdd, Nat.reduceSub, Array.replicate_succ, Array.replicate_zero, List.push_toArray, List.append_toArray, List.nil_append, List.cons_append]
 have c2 := (zb6 h.b2).1
 gi_wp2
 gi_loopw [7] (fun _ wr => ∃ rest, NmAt w rest r wr ∧ zb8 [] (bs rest) = zb8 [] (bs s) ∧ (bs rest).length ≤ 40) (fun _ wr => qdi w.heap.size wr)
 case atStart => exact ⟨s, h, rfl, hs⟩
 case round =>
  obtain ⟨rest, hr, hg, hl⟩ := hrel
  clear c2
  have d1 := (zb6 hr.b1).1
  have d2 := (zb6 hr.b2).1
  have d3 := (zb6 hr.b3).1
  have hsp := zla (bs rest) [] _ rfl
  have hge := Lib.indexByte_ge (bs rest) 46
  have hsz := zay rest
  unfold bs at hsp hge
  by_cases hi : Lib.indexByte rest.data.toList 46 < 0
  ·obtain ⟨f1, t1, a1, b1, hy1, hR1⟩ := hY wr rest rest hr
   gi_wp2_with (refine ⟨trivial, ?_⟩; gi_at_call 400; refine (callsIn_wide.2 (Tryz.strings_Index_one rest 46 _)).mono ?_; rintro e w' ⟨rfl, rfl⟩)
   refine hR1.mono ?_
   have e1 : zb8 [] (bs s) = zc5 rest := by rw [← hg]; exact hsp.1 hi
   rintro e W3 (⟨rfl, hn, h3⟩ | ⟨rfl, hn, q, hq1, hq2, hq⟩)
   ·gi_wp2
    go_end0
    exact ⟨⟨_, rfl⟩, .inl ⟨e1.trans hn, rest, h3⟩⟩
   ·gi_wp2
    go_end0
    exact ⟨⟨_, rfl⟩, .inr ⟨e1.trans hn, rest, q, hq1, hq2, hq⟩⟩
  ·obtain ⟨k, hk⟩ : ∃ k : Nat, Lib.indexByte rest.data.toList 46 = k := ⟨(Lib.indexByte rest.data.toList 46).toNat, by omega⟩
   have hkl : k < rest.size := by
    rw [hsz]
    exact (List.getElem?_eq_some_iff.1 (Lib.indexByte_some hk).1).1
   have hidx : ∀ (j : Nat) (w : World), CallsIn Fence.wide j Tryz.prog 400 #[.string rest, .string ⟨#[46]⟩] w fun e w' => e = .returned (.int .i64 k) ∧ w' = w := by
    intro j w; rw [← hk]; exact callsIn_wide.2 (Tryz.strings_Index_one rest 46 _)
   have H1 := hsp.2 (by omega)
   rw [hk] at H1
   have H2 : zb8 [] (bs s) = (zc5 (rest.extract 0 k) && zb8 [] (bs (rest.extract (k + 1) rest.size))) := by
    rw [← hg]
    refine H1.trans ?_
    rw [zeb, zc5, zeb, hsz, List.take_length]
    simp [bs]
   have H3 : (bs (rest.extract (k + 1) rest.size)).length ≤ 40 := by rw [zeb, hsz, List.take_length, List.length_drop]; omega
   have H4 : (rest.extract (k + 1) rest.size).size < rest.size := by simp; omega
   have H5 : rest.size ≤ 40 := by omega
   clear H1 hsp hge hsz hk hi
   obtain ⟨f1, t1, a1, b1, hy1, hR1⟩ := hY wr rest (rest.extract 0 k) hr
   gi_wp2_with (refine ⟨trivial, ?_⟩; gi_at_call 400; refine (hidx _ _).mono ?_; rintro e w' ⟨rfl, rfl⟩)
   refine hR1.mono ?_
   clear d1 d2 d3
   rintro e W3 (⟨rfl, hn, h3⟩ | ⟨rfl, hn, q, hq1, hq2, hq⟩)
   ·obtain ⟨d1, d4⟩ := zb6 h3.b1
    have d2 := (zb6 h3.b2).1
    gi_wp2
    go_roundw
    case rel => exact ⟨rest.extract (k + 1) rest.size, h3.set1 _, by rw [H2, hn]; rfl, H3⟩
    case measure => rw [zs4 (h3.set1 _), zs4 hr]; exact H4
   ·gi_wp2
    refine bodyPost_ret (results_none rfl _ _ _) rfl ?_
    exact ⟨⟨_, rfl⟩, .inr ⟨by rw [H2, hn]; rfl, rest, q, hq1, hq2, hq⟩⟩
set_option maxRecDepth 100000 in
set_option maxHeartbeats 2000000 in
theorem qmm (s : Str) (hs : (bs s).length ≤ 40) (w : World) : Calls Tryz.prog 380 #[.string s] w fun e w' => e = .returned (.bool (zb8 [] (bs s))) ∧ Below w.heap.size w w' ∧ w.drawn ≤ w'.drawn := by
 refine (callsIn_wide (n := 4)).1 ?_
 refine callsIn_of_wp_marks Tryz.func380 rfl trivial ?_ rfl
 simp only [Tryz.ntmps380, List.size_toArray, List.length_cons, List.length_nil, Nat.reduceAdd, Nat.reduceSub, Array.replicate_succ, Array.replicate_zero, List.push_toArray, List.append_toArray, List.nil_append, List.cons_append]
 gi_wp2_with (refine ⟨trivial, ?_⟩; gi_at_call 393; refine (callsIn_wide.2 (qaw _ _ _)).mono ?_; rintro e w' ⟨rfl, rfl⟩)
 obtain ⟨W0, hW0⟩ : ∃ W0, (((w.alloc (.cells #[.bool false] 4)).alloc (.cells #[.string s] 9)).alloc (.cells #[.string ⟨#[46]⟩] 9)).alloc (.cells #[.int .i64 0] 3) = W0 := ⟨_, rfl⟩
 have hs0 : W0.heap.size = w.heap.size + 4 := by rw [← hW0]; simp
 have k0 : W0.heap[w.heap.size]? = some (.cells #[.bool false] 4 (0, 0)) := by
  rw [← hW0]; exact (((Below.heap_alloc _ _ _ (by simp; omega)).trans (Below.heap_alloc _ _ _ (by simp; omega))).trans (Below.heap_alloc _ _ _ (by simp))).trans (World.alloc_heap_new w _)
 have k1 : W0.heap[w.heap.size + 1]? = some (.cells #[.string s] 9 (0, 0)) := by
  rw [← hW0]; refine ((Below.heap_alloc _ _ _ (by simp)).trans (Below.heap_alloc _ _ _ (by simp))).trans ?_
  have := World.alloc_heap_new (w.alloc (.cells #[.bool false] 4)) (.cells #[.string s] 9); rwa [World.size_alloc] at this
 have k2 : W0.heap[w.heap.size + 2]? = some (.cells #[.string ⟨#[46]⟩] 9 (0, 0)) := by
  rw [← hW0]; refine (Below.heap_alloc _ _ _ (by simp)).trans ?_
  have := World.alloc_heap_new ((w.alloc (.cells #[.bool false] 4)).alloc (.cells #[.string s] 9)) (.cells #[.string ⟨#[46]⟩] 9); rwa [World.size_alloc, World.size_alloc] at this
 have k3 : W0.heap[w.heap.size + 3]? = some (.cells #[.int .i64 0] 3 (0, 0)) := by
  rw [← hW0]
  have := World.alloc_heap_new (((w.alloc (.cells #[.bool false] 4)).alloc (.cells #[.string s] 9)).alloc (.cells #[.string ⟨#[46]⟩] 9)) (.cells #[.int .i64 0] 3); rwa [World.size_alloc, World.size_alloc, World.size_alloc] at this
 have kb : Below w.heap.size w W0 := by
  rw [← hW0]; exact ((((Below.refl _ w).alloc (Nat.le_refl _) _).alloc (by simp) _).alloc (by simp; omega) _).alloc (by simp; omega) _
 have kd : w.drawn ≤ W0.drawn := by rw [← hW0]; exact Nat.le_refl _
 rw [hW0]
 clear hW0
 refine zw6 rfl (by omega) rfl trivial (enters_of Tryz.func398 (by kernel_rfl) rfl) ?_
 rintro fn hfn r hr
 rw [hs0] at hr ⊢
 have k5 : ((W0.alloc (.deferred (some []))).alloc (.loop r)).heap[w.heap.size + 5]? = some (.loop r) := by
  have := World.alloc_heap_new (W0.alloc (.deferred (some []))) (.loop r); rwa [World.size_alloc, hs0] at this
 have hold : ∀ k, k < w.heap.size + 4 → ((W0.alloc (.deferred (some []))).alloc (.loop r)).heap[k]? = W0.heap[k]? := fun k hk =>
  (Below.heap_alloc _ _ k (by simp; omega)).trans (Below.heap_alloc _ _ k (by omega))
 have k4 : ((W0.alloc (.deferred (some []))).alloc (.loop r)).heap[w.heap.size + 4]? = some (.deferred (some [])) := by
  refine (Below.heap_alloc _ _ _ (by simp; omega)).trans ?_
  have := World.alloc_heap_new W0 (.deferred (some [])); rwa [hs0] at this
 have hN : NmAt w s r ((W0.alloc (.deferred (some []))).alloc (.loop r)) :=
  ⟨(hold _ (by omega)).trans k0, (hold _ (by omega)).trans k1, (hold _ (by omega)).trans k2, (hold _ (by omega)).trans k3, k4, k5, (kb.alloc (by omega) _).alloc (by simp; omega) _, kd⟩
 have hY : ∀ W rest x, NmAt w rest r W → YieldAt Fence.wide (4 - 1 - 1) Tryz.prog (w.heap.size + 5) #[.string x] W (NmY w rest r x) := by
  intro W rest x h
  have hp := h.put { r with state := .busy }
  refine qgn h.b5 (by rw [hr]) (by rw [hr]; rfl) trivial { tmps := #[.string s, undef, .pointer (some ⟨w.heap.size, 0, none⟩), .string x, .string s, .func (.func 398) #[] #[.pointer (some ⟨w.heap.size + 1 + 1, 0, none⟩), .pointer (some ⟨w.heap.size + 1, 0, none⟩), .pointer (some ⟨w.heap.size + 1 + 2, 0, none⟩)], .string x, undef, undef, undef], defers := [] } W h.b5 ?_ ?_
  ·intro K hK
   rw [hr]
   gi_wp2
   exact hK
  ·generalize hWb : W.putObj (w.heap.size + 5) (.loop { r with state := .busy }) = Wb at hp
   have hbd := congrArg Loop.body hr
   have hrr : ∀ W3, NmAt w rest { r with state := .busy } W3 → NmAt w rest r (W3.putObj (w.heap.size + 5) (.loop { { r with state := .busy } with state := if (none : Option Code).isNone then .ready else .done, pending := none })) := fun W3 h3 => by
    have := h3.put r
    rw [hr] at this ⊢
    exact this
   dsimp only at hbd
   rw [hbd]
   clear hbd hr hs0 k0 k1 k2 k3 k4 k5 kb hold hN hWb h
   cases hv : zc5 x with
   | true =>
     have hc : ∀ (j : Nat) (W : World), CallsIn (Fence.wide.inRound (w.heap.size + 5)) j Tryz.prog 283 #[.string x] W fun e w' => e = .returned (.bool true) ∧ Below W.heap.size W w' ∧ W.drawn ≤ w'.drawn := fun j W => by
      rw [← hv]; exact CallsIn.inRound _ (callsIn_wide.2 (zo4 x W))
     gi_wp2_with (refine ⟨trivial, ?_⟩; gi_at_call 283; refine (hc _ _).mono ?_; rintro e w' ⟨rfl, hB, hD⟩)
     exact ⟨none, rfl, _, (hp.grow hB hD).b5, .inl ⟨rfl, hv, hrr _ (hp.grow hB hD)⟩⟩
   | false =>
     have hc : ∀ (j : Nat) (W : World), CallsIn (Fence.wide.inRound (w.heap.size + 5)) j Tryz.prog 283 #[.string x] W fun e w' => e = .returned (.bool false) ∧ Below W.heap.size W w' ∧ W.drawn ≤ w'.drawn := fun j W => by
      rw [← hv]; exact CallsIn.inRound _ (callsIn_wide.2 (zo4 x W))
     have hc2 : ∀ (j : Nat), CallsIn (Fence.wide.inRound (w.heap.size + 5)) j Tryz.prog 283 #[.string x] Wb fun e w' => e = .returned (.bool false) ∧ NmAt w rest { r with state := .busy } w' ∧ w'.cell? ⟨w.heap.size, 0, none⟩ = some (.bool false) ∧ w'.frozen? ⟨w.heap.size, 0, none⟩ = false := fun j =>
      (hc j Wb).mono fun e w' ⟨h1, hB, hD⟩ => ⟨h1, hp.grow hB hD, (zb6 (hp.grow hB hD).b0).1, (zb6 (hp.grow hB hD).b0).2⟩
     gi_wp2_with (refine ⟨trivial, ?_⟩; gi_at_call 283; refine (hc2 _).mono ?_; rintro e w' ⟨rfl, hB, hB2, hB3⟩)
     exact ⟨some .ret, rfl, _, hB.set0.b5, .inr ⟨rfl, hv, _, rfl, rfl, hB.set0.put _⟩⟩
 refine (qp6 3 (by omega) w s r hs hY _ hN).mono ?_
 clear hY hN hold k0 k1 k2 k3 k4 k5 kb
 rintro e W2 ⟨hv, hO⟩
 refine ⟨hv, ?_⟩
 have hend : ∀ (W3 : World) (q : Loop) (rest : Str), NmAt w rest q W3 → ∀ t : Bool, (Below w.heap.size w ((W3.setCell ⟨w.heap.size, 0, none⟩ (.bool t)).putObj (w.heap.size + 4) (.deferred none)) ∧ w.drawn ≤ ((W3.setCell ⟨w.heap.size, 0, none⟩ (.bool t)).putObj (w.heap.size + 4) (.deferred none)).drawn) ∧ ((W3.setCell ⟨w.heap.size, 0, none⟩ (.bool t)).putObj (w.heap.size + 4) (.deferred none)).cell? ⟨w.heap.size, 0, none⟩ = some (.bool t) ∧ (W3.setCell ⟨w.heap.size, 0, none⟩ (.bool t)).heap[w.heap.size + 4]? = some (.deferred (some [])) := fun W3 q rest h t =>
  ⟨⟨Below.put (h.below.setCell (p := ⟨w.heap.size, 0, none⟩) (by simp) _) _ (by omega), h.dr⟩, (World.cell?_of_block (World.putObj_heap_other (by show w.heap.size ≠ _; omega))).trans (zb6 (zra h.b0 _)).1, (zbp _ (by omega)).trans h.b4⟩
 rcases hO with ⟨ht, rest, h⟩ | ⟨ht, rest, q, q1, q2, h⟩
 ·refine ⟨r, h.b5, by rw [hr]; simp, ?_⟩
  rw [show r.pending = none by rw [hr]]
  have hp : NmAt w rest { r with state := .exhausted, pending := none } (W2.putObj (w.heap.size + 4 + 1) (.loop { r with state := .exhausted, pending := none })) := h.put _
  generalize W2.putObj (w.heap.size + 4 + 1) _ = W3 at hp ⊢
  obtain ⟨e1, e2⟩ := zb6 hp.b0
  obtain ⟨f1, f2, f3⟩ := hend W3 _ rest hp true
  clear hp h hr hs0 hend
  gi_wp2
  refine ⟨by simp, .inl ⟨_, _, rfl, run_takeDeferred f3, ?_⟩⟩
  exact ⟨_, by simp [results, Tryz.f380, go_sem, f2]; rfl, by rw [ht], f1⟩
 ·refine ⟨q, h.b5, by rw [q1]; simp, ?_⟩
  rw [q2]
  have hp : NmAt w rest { q with state := .exhausted, pending := some .ret } (W2.putObj (w.heap.size + 4 + 1) (.loop { q with state := .exhausted, pending := some .ret })) := h.put _
  generalize W2.putObj (w.heap.size + 4 + 1) _ = W3 at hp ⊢
  have f1 : Below w.heap.size w (W3.putObj (w.heap.size + 4) (.deferred none)) ∧ w.drawn ≤ (W3.putObj (w.heap.size + 4) (.deferred none)).drawn := ⟨Below.put hp.below (.deferred none) (l := w.heap.size + 4) (by omega), hp.dr⟩
  have f2 : (W3.putObj (w.heap.size + 4) (.deferred none)).cell? ⟨w.heap.size, 0, none⟩ = some (.bool false) := (World.cell?_of_block (World.putObj_heap_other (by show w.heap.size ≠ _; omega))).trans (zb6 hp.b0).1
  have f3 := hp.b4
  clear hp h hr hs0 hend
  gi_wp2
  refine ⟨by simp, .inl ⟨_, _, rfl, run_takeDeferred f3, ?_⟩⟩
  exact ⟨_, by simp [results, Tryz.f380, go_sem, f2]; rfl, by rw [ht], f1⟩
theorem qmk (s : Str) (hl : (bs s).length ≤ 40) : Ct Tryz.prog 380 [str s] [] [] (bool (zb8 [] (bs s))) [] := Ct.grow (xs := [.string s]) (fun w => qmm s hl w)
end Go.Proofs.YtmhfcgpmmghakaaGreatDoor
end
namespace Go.Proofs.YtmhfcgpmmghakaaGreatDoor
open Go.AI Go.G Tryz
attribute [simp] ntmps348 results348
theorem qee (s : Str) : Ct prog 348 [str s] [] [] (bool (zni s)) [] := by
 refine Ct.B func348 mixed 99 400 ?_
 simp
 have hsz := zay s
 refine sGI (fun h1 => ?_) (fun h1 => ?_) <;> simp only [h1] <;> simp [hsz]
 ·have hz : (bs s).length ≤ 40 := by have := of_decide_eq_true h1; omega
  refine sGI (fun h2 => ?_) (fun h2 => ?_) <;> simp only [h2] <;> simp
  ·have e : bs s = [42] := by rw [of_decide_eq_true h2]; rfl
   exact fin0 (by simp [zni, e]) rfl
  have e : ¬ bs s = [42] := by
   intro e; exact of_decide_eq_false h2 (zpm e)
  refine CI.p (zuz s ⟨#[42, 46]⟩) call381 99 ?_
  simp
  have e2 : bs (zu0 s ⟨#[42, 46]⟩) = if zpz (bs s) then (bs s).drop 2 else bs s := by
   unfold zu0 zpz
   rw [show bs ⟨#[42, 46]⟩ = [42, 46] from rfl]
   simp only [List.length_cons, List.length_nil]
   split
   ·rw [zeb, hsz, List.take_length]
   ·rfl
  refine CI.p (qmk (zu0 s ⟨#[42, 46]⟩) (by rw [e2]; split; rw [List.length_drop]; omega; exact hz)) call380 99 ?_
  simp
  rw [e2]
  exact fin0 (by simp [← qhy, qm9, hz, e]) rfl
 ·have hz : ¬ ((bs s).length ≤ 40) := by have := of_decide_eq_false h1; omega
  exact fin0 (by simp [zni, hz]) rfl
set_option maxRecDepth 20000
attribute [simp] ntmps374 results374 ntmps335 results335 ntmps375 results375 ntmps339 results339 ntmps230 results230 ntmps207 results207 ntmps280 results280 ntmps203 results203 ntmps282 results282 ntmps336 results336 ntmps284 results284 ntmps338 results338 ntmps337 results337 ntmps285 results285 ntmps376 results376 ntmps377 results377 ntmps343 results343 ntmps341 results341 ntmps340 results340 ntmps286 results286 ntmps342 results342 ntmps378 results378 ntmps344 results344 ntmps287 results287
theorem zz1 (l : List Weight) (kf : D) (p : Weight → Bool) (hf : ∀ x ∈ l, FnOk prog (.d kf) [st (wC x)] (bool (p x))) (hl : l.length ≤ 9223372036854775807) : Ct prog 374 [lst (l.map wC), .d kf] [] [] (int (idxF p l)) [] := by
 refine Ct.B func374 mixed 99 400 ?_
 simp
 refine LoopI.inv mixed rfl (ι := {k : Nat // k ≤ (l).length ∧ (l.take k).all (fun x => !p x) = true}) (fun k => [(0, lst (l.map wC)), (1, .d kf), (7, int l.length), (8, int k.1)]) (fun k => []) 64 (fun k => (l).length - k.1) ⟨0, by omega, by simp⟩ [] (by constructor <;> simp) ?_
 rintro ⟨k, hk1, hi⟩ B hB
 refine CI.run 99 400 rfl ?_
 simp
 refine sBI (fun h => ?_) (fun h => ?_)
 ·have hk : k < (l).length := by simpa using h
  obtain ⟨r, hx, hr, hm, ht, hd⟩ := inL hk
  have hw := wr (k := k) (by omega)
  simp only [h]
  simp [hr, hw]
  refine CI.ff (hf r hm) rfl rfl rfl 99 ?_
  simp
  refine sBI (fun hp => ?_) (fun hp => ?_) <;> simp only [hp] <;> simp
  ·exact fin0 (by simp [zek hi hr hp]) rfl
  ·refine hB _ ⟨k + 1, by omega, by simp [ht, hi, hp]⟩ [] ?_ (by simp; omega)
   constructor <;> simp [hw, ht, hp]
 ·have hkl : k = (l).length := by simp at h; omega
  subst hkl
  simp only [h]
  simp [List.take_length, List.drop_length]
  rw [List.take_length] at hi
  exact fin0 (by simp [zb1 (fun x hx => by have := List.all_eq_true.1 hi x hx; simpa using this)]) rfl
theorem zkt (l : List Weight) (kf : D) (p : Weight → Bool) (hf : ∀ x ∈ l, FnOk prog (.d kf) [st (wC x)] (bool (p x))) (hl : l.length ≤ 9223372036854775807) : Ct prog 335 [lst (l.map wC), .d kf] [] [] (bool (l.any p)) [] := by
 refine Ct.B func335 mixed 99 400 ?_
 simp
 refine CI.p (zz1 l kf p hf hl) call374 99 ?_
 simp
 rw [zev]
 exact fin0 (by simp) rfl
theorem qht (l : List Rule) (kf : D) (p : Rule → Bool) (hf : ∀ x ∈ l, FnOk prog (.d kf) [st (zaz x)] (bool (p x))) (hl : l.length ≤ 9223372036854775807) : Ct prog 375 [lst (l.map zaz), .d kf] [] [] (int (idxF p l)) [] := by
 refine Ct.B func375 mixed 99 400 ?_
 simp
 refine LoopI.inv mixed rfl (ι := {k : Nat // k ≤ (l).length ∧ (l.take k).all (fun x => !p x) = true}) (fun k => [(0, lst (l.map zaz)), (1, .d kf), (7, int l.length), (8, int k.1)]) (fun k => []) 64 (fun k => (l).length - k.1) ⟨0, by omega, by simp⟩ [] (by constructor <;> simp) ?_
 rintro ⟨k, hk1, hi⟩ B hB
 refine CI.run 99 400 rfl ?_
 simp
 refine sBI (fun h => ?_) (fun h => ?_)
 ·have hk : k < (l).length := by simpa using h
  obtain ⟨r, hx, hr, hm, ht, hd⟩ := inL hk
  have hw := wr (k := k) (by omega)
  simp only [h]
  simp [hr, hw]
  refine CI.ff (hf r hm) rfl rfl rfl 99 ?_
  simp
  refine sBI (fun hp => ?_) (fun hp => ?_) <;> simp only [hp] <;> simp
  ·exact fin0 (by simp [zek hi hr hp]) rfl
  ·refine hB _ ⟨k + 1, by omega, by simp [ht, hi, hp]⟩ [] ?_ (by simp; omega)
   constructor <;> simp [hw, ht, hp]
 ·have hkl : k = (l).length := by simp at h; omega
  subst hkl
  simp only [h]
  simp [List.take_length, List.drop_length]
  rw [List.take_length] at hi
  exact fin0 (by simp [zb1 (fun x hx => by have := List.all_eq_true.1 hi x hx; simpa using this)]) rfl
theorem zrg (l : List Rule) (kf : D) (p : Rule → Bool) (hf : ∀ x ∈ l, FnOk prog (.d kf) [st (zaz x)] (bool (p x))) (hl : l.length ≤ 9223372036854775807) : Ct prog 339 [lst (l.map zaz), .d kf] [] [] (bool (l.any p)) [] := by
 refine Ct.B func339 mixed 99 400 ?_
 simp
 refine CI.p (qht l kf p hf hl) call375 99 ?_
 simp
 rw [zev]
 exact fin0 (by simp) rfl
theorem zqv (l : List Res) (kf : D) (p : Res → Bool) (hf : ∀ x ∈ l, FnOk prog (.d kf) [st (resC x)] (bool (p x))) (hl : l.length ≤ 9223372036854775807) : Ct prog 230 [lst (l.map resC), .d kf] [] [] (int (idxF p l)) [] := by
 refine Ct.B func230 mixed 99 400 ?_
 simp
 refine LoopI.inv mixed rfl (ι := {k : Nat // k ≤ (l).length ∧ (l.take k).all (fun x => !p x) = true}) (fun k => [(0, lst (l.map resC)), (1, .d kf), (7, int l.length), (8, int k.1)]) (fun k => []) 64 (fun k => (l).length - k.1) ⟨0, by omega, by simp⟩ [] (by constructor <;> simp) ?_
 rintro ⟨k, hk1, hi⟩ B hB
 refine CI.run 99 400 rfl ?_
 simp
 refine sBI (fun h => ?_) (fun h => ?_)
 ·have hk : k < (l).length := by simpa using h
  obtain ⟨r, hx, hr, hm, ht, hd⟩ := inL hk
  have hw := wr (k := k) (by omega)
  simp only [h]
  simp [hr, hw]
  refine CI.ff (hf r hm) rfl rfl rfl 99 ?_
  simp
  refine sBI (fun hp => ?_) (fun hp => ?_) <;> simp only [hp] <;> simp
  ·exact fin0 (by simp [zek hi hr hp]) rfl
  ·refine hB _ ⟨k + 1, by omega, by simp [ht, hi, hp]⟩ [] ?_ (by simp; omega)
   constructor <;> simp [hw, ht, hp]
 ·have hkl : k = (l).length := by simp at h; omega
  subst hkl
  simp only [h]
  simp [List.take_length, List.drop_length]
  rw [List.take_length] at hi
  exact fin0 (by simp [zb1 (fun x hx => by have := List.all_eq_true.1 hi x hx; simpa using this)]) rfl
theorem qfj (l : List Res) (kf : D) (p : Res → Bool) (hf : ∀ x ∈ l, FnOk prog (.d kf) [st (resC x)] (bool (p x))) (hl : l.length ≤ 9223372036854775807) : Ct prog 207 [lst (l.map resC), .d kf] [] [] (bool (l.any p)) [] := by
 refine Ct.B func207 mixed 99 400 ?_
 simp
 refine CI.p (zqv l kf p hf hl) call230 99 ?_
 simp
 rw [zev]
 exact fin0 (by simp) rfl
theorem qm5 (l : List Key) (kf : D) (p : Key → Bool) (hf : ∀ x ∈ l, FnOk prog (.d kf) [st (keyC x)] (bool (p x))) (hl : l.length ≤ 9223372036854775807) : Ct prog 280 [lst (l.map keyC), .d kf] [] [] (int (idxF p l)) [] := by
 refine Ct.B func280 mixed 99 400 ?_
 simp
 refine LoopI.inv mixed rfl (ι := {k : Nat // k ≤ (l).length ∧ (l.take k).all (fun x => !p x) = true}) (fun k => [(0, lst (l.map keyC)), (1, .d kf), (7, int l.length), (8, int k.1)]) (fun k => []) 64 (fun k => (l).length - k.1) ⟨0, by omega, by simp⟩ [] (by constructor <;> simp) ?_
 rintro ⟨k, hk1, hi⟩ B hB
 refine CI.run 99 400 rfl ?_
 simp
 refine sBI (fun h => ?_) (fun h => ?_)
 ·have hk : k < (l).length := by simpa using h
  obtain ⟨r, hx, hr, hm, ht, hd⟩ := inL hk
  have hw := wr (k := k) (by omega)
  simp only [h]
  simp [hr, hw]
  refine CI.ff (hf r hm) rfl rfl rfl 99 ?_
  simp
  refine sBI (fun hp => ?_) (fun hp => ?_) <;> simp only [hp] <;> simp
  ·exact fin0 (by simp [zek hi hr hp]) rfl
  ·refine hB _ ⟨k + 1, by omega, by simp [ht, hi, hp]⟩ [] ?_ (by simp; omega)
   constructor <;> simp [hw, ht, hp]
 ·have hkl : k = (l).length := by simp at h; omega
  subst hkl
  simp only [h]
  simp [List.take_length, List.drop_length]
  rw [List.take_length] at hi
  exact fin0 (by simp [zb1 (fun x hx => by have := List.all_eq_true.1 hi x hx; simpa using this)]) rfl
theorem zrh (l : List Key) (kf : D) (p : Key → Bool) (hf : ∀ x ∈ l, FnOk prog (.d kf) [st (keyC x)] (bool (p x))) (hl : l.length ≤ 9223372036854775807) : Ct prog 203 [lst (l.map keyC), .d kf] [] [] (bool (l.any p)) [] := by
 refine Ct.B func203 mixed 99 400 ?_
 simp
 refine CI.p (qm5 l kf p hf hl) call280 99 ?_
 simp
 rw [zev]
 exact fin0 (by simp) rfl
theorem zro (n m : Int) : Ct prog 282 [int n, int m] [] [] (bool (rngB n m)) [] := by
 refine Ct.B func282 mixed 99 400 ?_
 simp
 repeat' first
  | (refine sGI (fun h => ?_) (fun h => ?_) <;> simp only [h] <;> simp [h])
  | (refine sBI (fun h => ?_) (fun h => ?_) <;> simp only [h] <;> simp [h])
  | (refine ⟨(show zaq _ _ from by decide +kernel), ?_⟩)
  | fail
 all_goals exact fin0 (by simp [*, rngB]) rfl
theorem qoz (w : Weight) : Ct prog 336 [st (wC w)] [] [] (bool (!rngB w.w 100)) [] := by
 refine Ct.B func336 mixed 99 400 ?_
 simp
 refine CI.p (zro w.w 100) call282 99 ?_
 simp
 exact fin0 (by simp) rfl
theorem qk4 (r : Res) : Ct prog 284 [st (resC r)] [] [] (bool (zcg r)) [] := by
 refine Ct.B func284 mixed 99 400 ?_
 simp
 refine CI.p (zro r.ver 2147483647) call282 99 ?_
 simp
 refine sGI (fun h1 => ?_) (fun h1 => ?_) <;> simp only [h1] <;> simp <;> (try simp only [nT, nF, dT, dF] at h1)
 ·first | exact fin0 (by simp [zcg, h1]) rfl | exact zac (by simp [zcg, h1])
 refine CI.p (zro r.port 65535) call282 99 ?_
 simp
 refine sGI (fun h2 => ?_) (fun h2 => ?_) <;> simp only [h2] <;> simp <;> (try simp only [nT, nF, dT, dF] at h2)
 ·first | exact fin0 (by simp [zcg, h2]) rfl | exact zac (by simp [zcg, h2])
 refine sGI (fun h3 => ?_) (fun h3 => ?_) <;> simp only [h3] <;> simp <;> (try simp only [nT, nF, dT, dF] at h3)
 ·have hz : ¬ r.rules.length ≤ 8 := by omega
  exact fin0 (by simp [zcg, hz]) rfl
 refine sBI (fun h4 => ?_) (fun h4 => ?_) <;> simp only [h4] <;> simp <;> (try simp only [nT, nF, dT, dF] at h4)
 ·have hz : ¬ r.hosts.length ≤ 8 := by omega
  exact fin0 (by simp [zcg, hz]) rfl
 have hz3 : r.rules.length ≤ 8 := by omega
 have hz4 : r.hosts.length ≤ 8 := by omega
 refine LoopI.inv mixed rfl (ι := {k : Nat // k ≤ (r.hosts).length ∧ (r.hosts.take k).all (fun h => rngB h 2147483647) = true}) (fun k => [(1, .ptr 64 0), (30, lst (r.hosts.map intC)), (31, int r.hosts.length), (32, int k.1)]) (fun k => [(64, .cells ((resC r).map .d) 109)]) 65 (fun k => (r.hosts).length - k.1) ⟨0, by omega, by simp⟩ [] (by constructor <;> simp) ?_
 rintro ⟨k, hk1, hi⟩ B hB
 refine CI.run 99 400 rfl ?_
 simp
 refine sBI (fun h => ?_) (fun h => ?_)
 ·have hk : k < (r.hosts).length := by simpa using h
  obtain ⟨y, hx, hr, hm, ht, hd⟩ := inL hk
  have hw := wr (k := k) (by omega)
  simp only [h]
  simp [hr, hw]
  refine CI.p (zro y 2147483647) call282 99 ?_
  simp
  refine sBI (fun h5 => ?_) (fun h5 => ?_) <;> simp only [h5] <;> simp <;> (try simp only [nT, nF, dT, dF] at h5)
  ·have e : r.hosts.all (fun h => rngB h 2147483647) = false := by
    rw [List.all_eq_false]; exact ⟨y, hm, by simp [h5]⟩
   exact fin0 (by simp [zcg, e]) rfl
  ·refine hB _ ⟨k + 1, by omega, by simp [ht, hi, h5]⟩ [] ?_ (by simp; omega)
   constructor <;> simp [hw, ht, h5]
 ·have hkl : k = (r.hosts).length := by simp at h; omega
  subst hkl
  simp only [h]
  simp [List.take_length, List.drop_length]
  rw [List.take_length] at hi
  have hh := hi
  refine LoopI.inv mixed rfl (ι := {k : Nat // k ≤ (r.rules).length ∧ (r.rules.take k).all zf4 = true}) (fun k => [(1, .ptr 64 0), (41, lst (r.rules.map zaz)), (42, int r.rules.length), (43, int k.1)]) (fun k => [(64, .cells ((resC r).map .d) 109)]) 65 (fun k => (r.rules).length - k.1) ⟨0, by omega, by simp⟩ [] (by constructor <;> simp) ?_
  rintro ⟨k, hk1, hi⟩ B hB
  refine CI.run 99 400 rfl ?_
  simp
  refine sBI (fun h => ?_) (fun h => ?_)
  ·have hk : k < (r.rules).length := by simpa using h
   obtain ⟨x, hx, hr, hm, ht, hd⟩ := inL hk
   have hw := wr (k := k) (by omega)
   simp only [h]
   simp [hr, hw]
   refine sGI (fun h6 => ?_) (fun h6 => ?_) <;> simp only [h6] <;> simp <;> (try simp only [nT, nF, dT, dF] at h6)
   ·have hz : ¬ x.split.length ≤ 4 := by omega
    have e : r.rules.all zf4 = false := by
     rw [List.all_eq_false]; exact ⟨x, hm, by simp [zf4, hz]⟩
    exact fin0 (by simp [zcg, e]) rfl
   have hz : x.split.length ≤ 4 := by omega
   refine CI.p (zkt x.split (fnD 336) (fun w => !rngB w.w 100) (fun w _ => FnOk.of (qoz w) call336 rfl rfl) (by omega)) call335 99 ?_
   simp
   refine sBI (fun h7 => ?_) (fun h7 => ?_) <;> simp only [h7] <;> simp <;> (try simp only [nT, nF, dT, dF] at h7)
   ·have e : r.rules.all zf4 = false := by
     rw [List.all_eq_false]; refine ⟨x, hm, ?_⟩
     simp [zf4, hz]; simpa using h7
    exact fin0 (by simp [zcg, e]) rfl
   ·have e : zf4 x = true := by
     simp [zf4, hz]; simpa using h7
    refine hB _ ⟨k + 1, by omega, by simp [ht, hi, e]⟩ [] ?_ (by simp; omega)
    constructor <;> simp [hw, ht, e]
  ·have hkl : k = (r.rules).length := by simp at h; omega
   subst hkl
   simp only [h]
   simp [List.take_length, List.drop_length]
   rw [List.take_length] at hi
   first | exact fin0 (by simp [zcg, hi, hh, h1, h2, hz3, hz4]) rfl | exact zac (by simp [zcg, hi, hh, h1, h2, hz3, hz4])
theorem qqd (k : Int) : Ct prog 338 [int k] [] [] (.agg [bool (mayP k), bool (mayT k), bool (mayR k), bool (mayH k)]) [] := by
 refine Ct.B func338 mixed 99 400 ?_
 simp
 repeat' first
  | (refine sGI (fun h => ?_) (fun h => ?_) <;> simp only [h] <;> simp [h])
  | (refine sBI (fun h => ?_) (fun h => ?_) <;> simp only [h] <;> simp [h])
  | (refine ⟨(show zaq _ _ from by decide +kernel), ?_⟩)
  | fail
 all_goals exact fin0 (by simp [*, mayP, mayT, mayR, mayH]) rfl
theorem qso (a b c d x y z t : Bool) : Ct prog 337 [.agg [bool a, bool b, bool c, bool d], .agg [bool x, bool y, bool z, bool t]] [] [] (.agg [bool (a && x), bool (b && y), bool (c && z), bool (d && t)]) [] := by
 refine Ct.B func337 mixed 99 400 ?_
 simp
 cases a <;> cases b <;> cases c <;> cases d <;> (simp [ntmps127, results127]) <;> exact fin0 (by simp) rfl
theorem qgc (r : Res) : Ct prog 285 [st (resC r)] [] [] (bool (ze0 r)) [] := by
 refine Ct.B func285 mixed 99 400 ?_
 simp
 refine CI.p (qqd r.kind) call338 99 ?_
 simp
 refine CI.p (qso (!decide (r.port = 0)) (!decide (r.to = ⟨#[]⟩)) (decide (0 < r.rules.length)) (decide (0 < r.hosts.length)) (mayP r.kind) (mayT r.kind) (mayR r.kind) (mayH r.kind)) call337 99 ?_
 simp
 refine ⟨by decide +kernel, ?_⟩
 have e1 : decide (r.rules.length = 0) = !decide (0 < r.rules.length) := by cases r.rules <;> simp
 have e2 : decide (r.hosts.length = 0) = !decide (0 < r.hosts.length) := by cases r.hosts <;> simp
 have e3 : decide (bs r.to = []) = decide (r.to = ⟨#[]⟩) := by
  rw [Bool.eq_iff_iff, decide_eq_true_eq, decide_eq_true_eq, zwt]; rfl
 have e : ze0 r = ((decide (r.port = 0) || mayP r.kind) && ((decide (r.to = ⟨#[]⟩) || mayT r.kind) && ((!decide (0 < r.rules.length) || mayR r.kind) && (!decide (0 < r.hosts.length) || mayH r.kind)))) := by
  rw [ze0, e1, e2, e3, Bool.and_assoc, Bool.and_assoc]
 rw [e]
 exact fin0 (by simp) rfl
theorem qru (w : Weight) : Ct prog 376 [st (wC w)] [] [] (bool (!zc5 w.cluster)) [] := by
 refine Ct.B func376 mixed 99 400 ?_
 simp
 refine CI.p (zea w.cluster) call283 99 ?_
 simp
 exact fin0 (by simp) rfl
theorem qj2 (w : Weight) : Ct prog 377 [st (wC w)] [] [] (bool (decide (0 < w.w))) [] := by
 refine Ct.B func377 mixed 99 400 ?_
 simp
 exact fin0 (by simp) rfl
theorem qfv (x : Rule) (hl : x.split.length ≤ 4) : Ct prog 343 [st (zaz x)] [] [] (bool (zmd x)) [] := by
 refine Ct.B func343 mixed 99 400 ?_
 simp
 refine CI.p (zkt x.split (fnD 377) (fun w => decide (0 < w.w)) (fun w _ => FnOk.of (qj2 w) call377 rfl rfl) (by omega)) call335 99 ?_
 simp
 exact fin0 (by simp [zmd]) rfl
theorem qo6 (x : Rule) (hl : x.split.length ≤ 4) : Ct prog 341 [st (zaz x)] [] [] (bool (zp7 x)) [] := by
 refine Ct.B func341 mixed 99 400 ?_
 simp
 refine CI.p (qee x.host) call348 99 ?_
 simp
 refine sGI (fun h1 => ?_) (fun h1 => ?_) <;> simp only [h1] <;> simp
 ·refine CI.p (qc0 x.pre) call352 99 ?_
  simp
  refine sGI (fun h2 => ?_) (fun h2 => ?_) <;> simp only [h2] <;> simp
  ·refine CI.p (zkt x.split (fnD 376) (fun w => !zc5 w.cluster) (fun w _ => FnOk.of (qru w) call376 rfl rfl) (by omega)) call335 99 ?_
   simp
   exact fin0 (by simp [zp7, h1, h2, List.all_eq_not_any_not]) rfl
  ·exact fin0 (by simp [zp7, h1, h2]) rfl
 ·exact fin0 (by simp [zp7, h1]) rfl
theorem qjq (x : Rule) (hl : x.split.length ≤ 4) : Ct prog 340 [st (zaz x)] [] [] (bool (!zp7 x)) [] := by
 refine Ct.B func340 mixed 99 400 ?_
 simp
 refine CI.p (qo6 x hl) call341 99 ?_
 simp
 exact fin0 (by simp) rfl
theorem qmn (r : Res) (hl : r.rules.length ≤ 8 ∧ ∀ x ∈ r.rules, x.split.length ≤ 4) : Ct prog 286 [st (resC r)] [] [] (bool (zgz r)) [] := by
 refine Ct.B func286 mixed 99 400 ?_
 simp
 refine CI.p (qqd r.kind) call338 99 ?_
 simp
 refine sGI (fun h1 => ?_) (fun h1 => ?_) <;> simp only [h1] <;> simp <;> (try simp only [nT, nF, dT, dF] at h1)
 ·refine CI.p (zea r.to) call283 99 ?_
  simp
  refine sBI (fun h2 => ?_) (fun h2 => ?_) <;> simp only [h2] <;> simp <;> (try simp only [nT, nF, dT, dF] at h2)
  ·first | exact fin0 (by simp [zgz, h1, h2]) rfl | exact zac (by simp [zgz, h1, h2])
  refine CI.p (zrg r.rules (fnD 340) (fun x => !zp7 x) (fun x hx => FnOk.of (qjq x (hl.2 x hx)) call340 rfl rfl) (by omega)) call339 99 ?_
  simp
  first | exact fin0 (by simp [zgz, h1, h2, List.all_eq_not_any_not]) rfl | exact zac (by simp [zgz, h1, h2, List.all_eq_not_any_not])
 ·refine CI.p (zrg r.rules (fnD 340) (fun x => !zp7 x) (fun x hx => FnOk.of (qjq x (hl.2 x hx)) call340 rfl rfl) (by omega)) call339 99 ?_
  simp
  exact fin0 (by simp [zgz, h1, List.all_eq_not_any_not]) rfl
theorem qk6 (x y : Rule) : Ct prog 342 [st (zaz y), .d (.pro (zaz x))] [] [] (bool (zsd x y)) [] := by
 refine Ct.B func342 mixed 99 400 ?_
 simp
 refine sGI (fun h1 => ?_) (fun h1 => ?_) <;> simp only [h1] <;> simp
 ·exact fin0 (by simp [zsd, h1]) rfl
 ·exact fin0 (by simp [zsd, h1]) rfl
theorem qm6 (l : List Int) (v : Int) (hl : l.length ≤ 9223372036854775807) : Ct prog 378 [lst (l.map intC), int v] [] [] (int (idxF (fun x => decide (v = x)) l)) [] := by
 refine Ct.B func378 mixed 99 400 ?_
 simp
 refine LoopI.inv mixed rfl (ι := {k : Nat // k ≤ (l).length ∧ (l.take k).all (fun x => !decide (v = x)) = true}) (fun k => [(0, lst (l.map intC)), (1, int v), (7, int l.length), (8, int k.1)]) (fun k => []) 64 (fun k => (l).length - k.1) ⟨0, by omega, by simp⟩ [] (by constructor <;> simp) ?_
 rintro ⟨k, hk1, hi⟩ B hB
 refine CI.run 99 400 rfl ?_
 simp
 refine sBI (fun h => ?_) (fun h => ?_)
 ·have hk : k < (l).length := by simpa using h
  obtain ⟨r, hx, hr, hm, ht, hd⟩ := inL hk
  have hw := wr (k := k) (by omega)
  simp only [h]
  simp [hr, hw]
  refine sBI (fun hp => ?_) (fun hp => ?_) <;> simp only [hp] <;> simp
  ·exact fin0 (by simp [zek (p := fun x => decide (v = x)) hi hr (by simp [hp])]) rfl
  ·refine hB _ ⟨k + 1, by omega, by simp [ht, hi, hp]⟩ [] ?_ (by simp; omega)
   constructor <;> simp [hw, ht, hp]
 ·have hkl : k = (l).length := by simp at h; omega
  subst hkl
  simp only [h]
  simp [List.take_length, List.drop_length]
  rw [List.take_length] at hi
  exact fin0 (by simp [zb1 (p := fun x => decide (v = x)) (fun x hx => by have := List.all_eq_true.1 hi x hx; simpa using this)]) rfl
theorem qnc (l : List Int) (v : Int) (hl : l.length ≤ 9223372036854775807) : Ct prog 344 [lst (l.map intC), int v] [] [] (bool (l.any fun x => decide (v = x))) [] := by
 refine Ct.B func344 mixed 99 400 ?_
 simp
 refine CI.p (qm6 l v hl) call378 99 ?_
 simp
 rw [zev]
 exact fin0 (by simp) rfl
theorem qgb (r : Res) (hl : r.rules.length ≤ 8 ∧ r.hosts.length ≤ 8 ∧ ∀ x ∈ r.rules, x.split.length ≤ 4) : Ct prog 287 [st (resC r)] [] [] (bool (zih r)) [] := by
 refine Ct.B func287 mixed 99 400 ?_
 simp
 obtain ⟨hl1, hl2, hl3⟩ := hl
 refine LoopI.inv mixed rfl (ι := {k : Nat // k ≤ (r.rules).length ∧ ((r.rules.take k).all zmd = true ∧ zfo zsd (r.rules.take k) (r.rules.drop k) = zfo zsd [] r.rules)}) (fun k => [(1, .ptr 64 0), (9, lst (r.rules.map zaz)), (10, int r.rules.length), (11, int k.1)]) (fun k => [(64, .cells ((resC r).map .d) 109)]) 65 (fun k => (r.rules).length - k.1) ⟨0, by omega, by simp⟩ [] (by constructor <;> simp) ?_
 rintro ⟨k, hk1, hi⟩ B hB
 refine CI.run 5 400 rfl ?_
 simp
 refine sBI (fun h => ?_) (fun h => ?_)
 ·have hk : k < (r.rules).length := by simpa using h
  obtain ⟨x, hx, hr, hm, ht, hd⟩ := inL hk
  have hw := wr (k := k) (by omega)
  simp only [h]
  simp [hr, hw]
  refine CI.s (tm := [(1, .ptr 64 0), (9, lst (r.rules.map zaz)), (10, int r.rules.length), (11, int k), (3, int k), (4, .d (.pro (zaz x))), (5, .d (.fn (.func 342) [] [.pro (zaz x)]))]) (mm := [(64, .cells ((resC r).map .d) 109)]) (nx := 65) [] [321] (by constructor <;> simp) ?_
  obtain ⟨hi1, hi2⟩ := hi
  rw [hd, zfo] at hi2
  refine CI.run 99 400 rfl ?_
  simp
  refine CI.p (qfv x (hl3 x hm)) call343 99 ?_
  simp
  refine sGI (fun h1 => ?_) (fun h1 => ?_) <;> simp only [h1] <;> simp <;> (try simp only [nT, nF, dT, dF] at h1)
  ·have e : r.rules.all zmd = false := by
    rw [List.all_eq_false]; exact ⟨x, hm, by simp [h1]⟩
   exact fin0 (by simp [zih, e]) rfl
  refine ⟨by omega, ?_⟩
  refine CI.p (zrg (r.rules.take k) (.fn (.func 342) [] [.pro (zaz x)]) (zsd x) (fun y _ => FnOk.clo (qk6 x y) call342 rfl rfl) (by simp; omega)) call339 99 ?_
  simp
  refine sBI (fun h2 => ?_) (fun h2 => ?_) <;> simp only [h2] <;> simp <;> (try simp only [nT, nF, dT, dF] at h2)
  ·have e : zfo zsd [] r.rules = false := by rw [← hi2, h2]; rfl
   exact fin0 (by simp [zih, e]) rfl
  ·refine hB _ ⟨k + 1, by omega, by simp [ht, hi1, h1], by rw [ht, ← hi2, h2]; rfl⟩ [] ?_ (by simp; omega)
   constructor <;> simp [hw]
 ·have hkl : k = (r.rules).length := by simp at h; omega
  subst hkl
  simp only [h]
  simp [List.take_length, List.drop_length]
  rw [List.take_length, List.drop_length] at hi
  obtain ⟨hi1, hi2⟩ := hi
  simp only [zfo] at hi2
  refine LoopI.inv mixed rfl (ι := {k : Nat // k ≤ (r.hosts).length ∧ (zfo (fun a b : Int => decide (a = b)) (r.hosts.take k) (r.hosts.drop k) = zfo (fun a b => decide (a = b)) [] r.hosts)}) (fun k => [(1, .ptr 64 0), (30, lst (r.hosts.map intC)), (31, int r.hosts.length), (32, int k.1)]) (fun k => [(64, .cells ((resC r).map .d) 109)]) 65 (fun k => (r.hosts).length - k.1) ⟨0, by omega, by simp⟩ [] (by constructor <;> simp) ?_
  rintro ⟨k, hk1, hi⟩ B hB
  refine CI.run 99 400 rfl ?_
  simp
  refine sBI (fun h => ?_) (fun h => ?_)
  ·have hk : k < (r.hosts).length := by simpa using h
   obtain ⟨y, hx, hr, hm, ht, hd⟩ := inL hk
   have hw := wr (k := k) (by omega)
   simp only [h]
   simp [hr, hw]
   rw [hd, zfo] at hi
   refine ⟨by omega, ?_⟩
   refine CI.p (qnc (r.hosts.take k) y (by simp; omega)) call344 99 ?_
   simp
   refine sBI (fun h2 => ?_) (fun h2 => ?_) <;> simp only [h2] <;> simp <;> (try simp only [nT, nF, dT, dF] at h2)
   ·have e : zfo (fun a b : Int => decide (a = b)) [] r.hosts = false := by rw [← hi, h2]; rfl
    exact fin0 (by simp [zih, e]) rfl
   ·refine hB _ ⟨k + 1, by omega, by rw [ht, ← hi, h2]; rfl⟩ [] ?_ (by simp; omega)
    constructor <;> simp [hw]
  ·have hkl : k = (r.hosts).length := by simp at h; omega
   subst hkl
   simp only [h]
   simp [List.take_length, List.drop_length]
   rw [List.take_length, List.drop_length] at hi
   simp only [zfo] at hi
   exact fin0 (by simp [zih, hi1, ← hi2, ← hi]) rfl
end Go.Proofs.YtmhfcgpmmghakaaGreatDoor
namespace Go.Proofs.YtmhfcgpmmghakaaGreatDoor
open Go.AI Go.G Tryz
set_option maxRecDepth 20000
attribute [simp] ntmps206 results206
theorem zk0 {r : Res} (h : zcg r = true) : r.rules.length ≤ 8 ∧ r.hosts.length ≤ 8 ∧ ∀ x ∈ r.rules, x.split.length ≤ 4 := by
 simp only [zcg, Bool.and_eq_true, decide_eq_true_eq, List.all_eq_true, zf4] at h
 exact ⟨h.1.1.1.2, h.1.1.2, fun x hx => (h.2 x hx).1⟩
theorem zk3 (r : Res) : Ct prog 206 [st (resC r)] [] [] (int (zaw r)) [] := by
 refine Ct.B func206 mixed 99 400 ?_
 simp
 refine CI.p (zro r.kind 3) call282 99 ?_
 simp
 refine sBI (fun h1 => ?_) (fun h1 => ?_) <;> simp only [h1] <;> simp <;> (try simp only [nT, nF, dT, dF] at h1)
 ·first | exact fin0 (by simp [zaw, h1]) rfl | exact zac (by simp [zaw, h1])
 refine CI.p (zea r.name) call283 99 ?_
 simp
 refine sBI (fun h2 => ?_) (fun h2 => ?_) <;> simp only [h2] <;> simp <;> (try simp only [nT, nF, dT, dF] at h2)
 ·first | exact fin0 (by simp [zaw, h1, h2]) rfl | exact zac (by simp [zaw, h1, h2])
 refine CI.p (qk4 r) call284 99 ?_
 simp
 refine sBI (fun h3 => ?_) (fun h3 => ?_) <;> simp only [h3] <;> simp <;> (try simp only [nT, nF, dT, dF] at h3)
 ·first | exact fin0 (by simp [zaw, h1, h2, h3]) rfl | exact zac (by simp [zaw, h1, h2, h3])
 have hb := zk0 h3
 refine CI.p (qgc r) call285 99 ?_
 simp
 refine sBI (fun h4 => ?_) (fun h4 => ?_) <;> simp only [h4] <;> simp <;> (try simp only [nT, nF, dT, dF] at h4)
 ·exact fin0 (by simp [zaw, h1, h2, h3, h4]) rfl
 refine CI.p (qmn r ⟨hb.1, hb.2.2⟩) call286 99 ?_
 simp
 refine sBI (fun h5 => ?_) (fun h5 => ?_) <;> simp only [h5] <;> simp <;> (try simp only [nT, nF, dT, dF] at h5)
 ·exact fin0 (by simp [zaw, h1, h2, h3, h4, h5]) rfl
 refine CI.p (qgb r hb) call287 99 ?_
 simp
 refine sBI (fun h6 => ?_) (fun h6 => ?_) <;> simp only [h6] <;> simp <;> (try simp only [nT, nF, dT, dF] at h6)
 ·exact fin0 (by simp [zaw, h1, h2, h3, h4, h5, h6]) rfl
 ·exact fin0 (by simp [zaw, h1, h2, h3, h4, h5, h6]) rfl
theorem rng_yes {n m : Int} : rngB n m = true ↔ 0 ≤ n ∧ n ≤ m := by simp [rngB]
end Go.Proofs.YtmhfcgpmmghakaaGreatDoor
