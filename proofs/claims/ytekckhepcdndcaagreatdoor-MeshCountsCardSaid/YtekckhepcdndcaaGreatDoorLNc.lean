/-
  The row of MeshCounts.
-/
import Derived.Test.YtekckhepcdndcaaGreatDoorWz
import Derived.Test.YtekckhepcdndcaaGreatDoorWC
import Derived.Lay
import Derived.LaidOnce
import Derived.SevenTiedAt
import Derived.Test.YtekckhepcdndcaaGreatDoorTie
import Derived.Test.YtekckhepcdndcaaGreatDoorCards
import Derived.ProofKit
import Derived.LaidMore
set_option linter.unusedSimpArgs false
set_option linter.unusedVariables false
namespace Go.Proofs.YtekckhepcdndcaaGreatDoor
open Go.ChangeShapes Go.WideShapes Go.ChangeAt Go.RowKit Go.AI Go.G
set_option maxRecDepth 20000
theorem zpf {vs:List AV}(h:zxf Tryz.prog 20 [23,24] vs):CtJ errG Tryz.prog 5 vs [] [] (bool true) []:=by
 obtain⟨d0,b0,h0,g0,rfl⟩:=h;obtain⟨d1,b1,h1,g1,rfl⟩:=g0;obtain rfl:=g1;obtain⟨x0,y0,rfl⟩:=zyr h0;obtain⟨x1,y1,rfl⟩:=zpm h1;have:=zvq x0 x1 y1;simp only[zzb,zp0];exact this
theorem zqf {H:Type}{enc:TypeId×Value→H}{W:World}{base:Nat}{args:Array Value}{ds:List (DataW H)}{ps:List MemPlace}(hg:W.cell? ⟨0,0,none⟩=some errV)(hA:DataW.TrodAll enc Tryz.prog W 0 (fun _=>true) true [23,24] args.toList ds ps)
  (hval:∀(j:Nat) t v,Tryz.f5.params[j]? =some t→args[j]? =some v→Value.okWide Tryz.prog W .any base t v):
  Calls Tryz.prog 5 args W fun e W'=>e=.returned (.bool true)∧Below W.heap.size W W':=by
 obtain⟨vs,h1,h2⟩:=zko (n:=20) (base:=base) hA (by intro t ht;simp at ht;rcases ht with rfl|rfl<;>kernel_rfl) (fun j t v h3 h4=>hval j t v (by rw[show Tryz.f5.params=#[23,24] by kernel_rfl];simpa using h3) (by simpa using h4));exact ziv hg (zpf h1) h2
set_option maxHeartbeats 8000000 in
set_option maxRecDepth 100000 in
theorem zmi (os:Os)(started:os.Started)(H:Type)(enc:TypeId×Value→H):
  ReturnsInHanded {} Tryz.checked os 5 .any (fun w args=>(Rows.meshCountsSpec.pre enc Tryz.prog Tryz.f5 [] false w args∧laidMetH Tryz.prog Rows.meshCountsRow.laid w)∧sizedMet enc Tryz.prog Tryz.f5 (OpenSpec.ofChange Rows.meshCountsSpec) false w args)
   (Rows.meshCountsSpec.post enc Tryz.prog Tryz.f5 false true false false):=by
 refine returnsInHanded_of_change_and (C:=Tryz.checked) (X:=fun w _=>laidMetH Tryz.prog Rows.meshCountsRow.laid w) (fun _ _ _ hh h=>h.of_heap hh) ownT started (by as_aux_lemma=>kernel_rfl) Tryz.func5
  (ChangeSpec.witness_shaped (enc:=enc) (C:=Tryz.checked) (os:=os) (X:=fun w _=>laidMetH Tryz.prog Rows.meshCountsRow.laid w) false ((errW os).layVars Tryz.prog (Rows.meshCountsRow.laid.filter fun x=>x.2.handleName?.isNone)) #[.agg #[.int .i64 0,.int .i64 0,.int .i64 0,.int .i64 0],.slice none 0 0] 12 (World.layVars_os _ _ _)
    (World.shaped_of_ZipB (by as_aux_lemma=>kernel_rfl) (by as_aux_lemma=>kernel_rfl)) (by as_aux_lemma=>kernel_rfl) (by as_aux_lemma=>kernel_rfl) (by as_aux_lemma=>kernel_rfl)
    (laidMetH_of_parts (zik _ (by kernel_rfl) (by kernel_rfl)) (by kernel_rfl))) ?_
 intro W base args ds gs before hval0 hW _ _ hL _;obtain⟨p,q,hA,_⟩:=id hW;refine(zqf (zkh (by unfold Rows.meshCountsRow;simp) hL) hA hval0).mono fun e W' ⟨he,hb⟩=>?_;subst he;exact⟨_,rfl,zo6 zs9 (by decide+kernel) hW rfl (fun ds h=>by
  match ds,h with
  |[d0,d1],_=>rfl) (by as_aux_lemma=>kernel_rfl) (tb:=4) (by as_aux_lemma=>kernel_rfl) hb⟩
set_option maxHeartbeats 8000000 in
theorem zqe :Rows.MeshCountsSaid:=
 OpenClaim.holds_of_wide 5 Tryz.f5 rfl rfl rfl rfl rfl rfl rfl ⟨rfl,rfl,rfl,rfl,rfl⟩ rfl rfl rfl rfl rfl (by as_aux_lemma=>kernel_rfl) Tryz.func5 (by unfold joinedFacts;(repeat' (with_reducible refine Bool.and_eq_true_iff.2 ⟨?_,?_⟩));all_goals(as_aux_lemma=>kernel_rfl))
  (of_decide_eq_true (by as_aux_lemma=>kernel_rfl)) (by unfold Func.isWrapper;first| (rw[if_pos (by decide+kernel)];kernel_rfl)| (rw[if_neg (by decide+kernel)];exact⟨rfl,rfl⟩))
  (fun os started H enc _=>zmi os started H enc)
end Go.Proofs.YtekckhepcdndcaaGreatDoor
