/-
  TopAnswers: the law's row.
-/
import Derived.Test.YtegplpagkajolaaGreatDoorWz
import Derived.Test.YtegplpagkajolaaGreatDoorLAx
import Derived.Lay
import Derived.LaidOnce
import Derived.SevenTiedAt
import Derived.Test.YtegplpagkajolaaGreatDoorTie
import Derived.Test.YtegplpagkajolaaGreatDoorCards
import Derived.ProofKit
import Derived.LaidMore
set_option linter.unusedSimpArgs false
set_option linter.unusedVariables false
set_option maxRecDepth 100000
set_option maxHeartbeats 8000000
namespace Go.Proofs.YtegplpagkajolaaGreatDoor
open Go.ChangeShapes Go.WideShapes Go.ChangeAt Go.RowKit Go.AI Go.G
theorem Wj {vs:List AV}(h:KB Tryz.prog 20 [23,24] vs):cO eY Tryz.prog 3 vs [] [] (bool true) []:=by
 obtain⟨d0,b0,h0,g0,rfl⟩:=h;obtain⟨d1,b1,h1,g1,rfl⟩:=g0;obtain rfl:=g1;obtain⟨x0,y0,rfl⟩:=RU h0;obtain⟨x1,y1,rfl⟩:=RT h1;have:=Wg x0 x1 y1;simp only[TN,TM];exact this
theorem Wk {H:Type}{enc:TypeId×Value->H}{W:World}{base:Nat}{args:Array Value}{ds:List (DataW H)}{ps:List MemPlace}(hg:W.cell? ⟨1,0,none⟩=some A5)(hA:DataW.TrodAll enc Tryz.prog W 0 (fun _=>true) true [23,24] args.toList ds ps)
  (hval:∀(j:Nat) t v,Tryz.f3.params[j]? =some t->args[j]? =some v->Value.okWide Tryz.prog W .any base t v):
  Calls Tryz.prog 3 args W fun e W'=>e=.returned (.bool true)/\Below W.heap.size W W':=by
 obtain⟨vs,h1,h2⟩:=K7 (n:=20) (base:=base) hA (by intro t ht;simp at ht;rcases ht with rfl|rfl<;>kernel_rfl) (fun j t v h3 h4=>hval j t v (by rw[show Tryz.f3.params=#[23,24] by kernel_rfl];simpa using h3) (by simpa using h4));exact S2 hg (Wj h1) h2
set_option maxHeartbeats 8000000 in
set_option maxRecDepth 100000 in
theorem Wi (os:Os)(started:os.Started)(H:Type)(enc:TypeId×Value->H):
  ReturnsInHanded {} Tryz.checked os 3 .any (fun w args=>(Rows.topAnswersSpec.pre enc Tryz.prog Tryz.f3 [] false w args/\laidMetH Tryz.prog Rows.topAnswersRow.laid w)/\sizedMet enc Tryz.prog Tryz.f3 (OpenSpec.ofChange Rows.topAnswersSpec) false w args)
   (Rows.topAnswersSpec.post enc Tryz.prog Tryz.f3 false true false false):=by
 refine returnsInHanded_of_change_and (C:=Tryz.checked) (X:=fun w _=>laidMetH Tryz.prog Rows.topAnswersRow.laid w) (fun _ _ _ hh h=>h.of_heap hh) P7 started (by as_aux_lemma=>kernel_rfl) Tryz.func3
  (ChangeSpec.witness_shaped (enc:=enc) (C:=Tryz.checked) (os:=os) (X:=fun w _=>laidMetH Tryz.prog Rows.topAnswersRow.laid w) false ((A4 os).layVars Tryz.prog (Rows.topAnswersRow.laid.filter fun x=>x.2.handleName?.isNone)) #[.agg #[.int .i64 0,.int .i64 0,.int .i64 0,.int .i64 0],.slice none 0 0] 12 (World.layVars_os _ _ _)
    (World.shaped_of_ZipB (by as_aux_lemma=>kernel_rfl) (by as_aux_lemma=>kernel_rfl)) (by as_aux_lemma=>kernel_rfl) (by as_aux_lemma=>kernel_rfl) (by as_aux_lemma=>kernel_rfl)
    (laidMetH_of_parts (RJ _ (by kernel_rfl) (by kernel_rfl)) (by kernel_rfl))) ?_
 intro W base args ds gs before hval0 hW _ _ hL _;obtain⟨p,q,hA,_⟩:=id hW;refine(Wk (SI (by unfold Rows.topAnswersRow;simp) hL) hA hval0).mono fun e W' ⟨he,hb⟩=>?_;subst he;exact⟨_,rfl,PS RI (by decide+kernel) hW rfl (fun ds h=>by
  match ds,h with
  |[d0,d1],_=>rfl) (by as_aux_lemma=>kernel_rfl) (tb:=4) (by as_aux_lemma=>kernel_rfl) hb⟩
set_option maxHeartbeats 8000000 in
theorem Wh :Rows.TopAnswersSaid:=
 OpenClaim.holds_of_wide 3 Tryz.f3 rfl rfl rfl rfl rfl rfl rfl ⟨rfl,rfl,rfl,rfl,rfl⟩ rfl rfl rfl rfl rfl (by as_aux_lemma=>kernel_rfl) Tryz.func3 (by unfold joinedFacts;(repeat' (with_reducible refine Bool.and_eq_true_iff.2 ⟨?_,?_⟩));all_goals(as_aux_lemma=>kernel_rfl))
  (xD (by as_aux_lemma=>kernel_rfl)) (by unfold Func.isWrapper;first| (rw[aU (by decide+kernel)];kernel_rfl)| (rw[aH (by decide+kernel)];exact⟨rfl,rfl⟩))
  (fun os started H enc _=>Wi os started H enc)
theorem GW {P:Program}(h:(P.funcs.toList.all fun f=>!f.goes)=true)(c:OpenClaim)(hs:c.start=.entering):false=c.goesBy P:=by
 have key:∀f:Func,f∈P.funcs.toList->f.goes=false:=fun f hf=>by
  have:=eF.1 h f hf;simpa using this
 have any:∀g:Nat,(P.funcs[g]?).any Func.goes=false:=fun g=>by
  cases e:P.funcs[g]? with
  |none=>rfl
  |some x=>exact key x (Array.mem_toList_iff.2 (Array.mem_of_getElem? e))
 have all:P.funcs.any Func.goes=false:=by
  rw[<-Array.any_toList,BZ];intro x hx;simp[key x hx]
 have go:∀f,P.goes f=false:=fun f=>by
  unfold Program.goes;rw[all,Bool.and_false,Bool.or_false,BZ];intro g _;simp[any g]
 unfold OpenClaim.goesBy Program.goesAt Program.goesFrom;rw[hs];cases P.funcNamed c.func with
 |none=>rfl
 |some f=>simp[go f]
theorem GA :(Tryz.prog.funcs.toList.all fun f=>!f.goes)=true:=by kernel_rfl
end Go.Proofs.YtegplpagkajolaaGreatDoor
