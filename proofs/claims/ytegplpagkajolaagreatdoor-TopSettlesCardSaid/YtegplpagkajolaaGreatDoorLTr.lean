/-
  TopSettles: the law's row.
-/
import Derived.Test.YtegplpagkajolaaGreatDoorWz
import Derived.Test.YtegplpagkajolaaGreatDoorLTx
import Derived.Lay
import Derived.LaidOnce
import Derived.SevenTiedAt
import Derived.Test.YtegplpagkajolaaGreatDoorTie
import Derived.Test.YtegplpagkajolaaGreatDoorCards
import Derived.ProofKit
import Derived.LaidMore
set_option linter.unusedSimpArgs false
set_option linter.unusedVariables false
set_option maxRecDepth 100000
set_option maxHeartbeats 8000000
namespace Go.Proofs.YtegplpagkajolaaGreatDoor
open Go.ChangeShapes Go.WideShapes Go.ChangeAt Go.RowKit Go.AI Go.G
theorem Wc {vs:List AV}(h:KB Tryz.prog 20 [23,24,44,46] vs):cO eY Tryz.prog 4 vs [] [] (bool true) []:=by
 obtain⟨d0,b0,h0,g0,rfl⟩:=h;obtain⟨d1,b1,h1,g1,rfl⟩:=g0;obtain⟨d2,b2,h2,g2,rfl⟩:=g1;obtain⟨d3,b3,h3,g3,rfl⟩:=g2;obtain rfl:=g3;obtain⟨x0,y0,rfl⟩:=RU h0;obtain⟨x1,y1,rfl⟩:=RT h1;obtain⟨x2,y2,rfl⟩:=Nw h2;obtain⟨x3,y3,rfl⟩:=Ny h3;have:=Vy x0 x1 x2 x3 y1 y2;simp only[zkz,TN,TM,zkx];exact this
theorem Wd {H:Type}{enc:TypeId×Value->H}{W:World}{base:Nat}{args:Array Value}{ds:List (DataW H)}{ps:List MemPlace}(hg:W.cell? ⟨1,0,none⟩=some A5)(hA:DataW.TrodAll enc Tryz.prog W 0 (fun _=>true) true [23,24,44,46] args.toList ds ps)
  (hval:∀(j:Nat) t v,Tryz.f4.params[j]? =some t->args[j]? =some v->Value.okWide Tryz.prog W .any base t v):
  Calls Tryz.prog 4 args W fun e W'=>e=.returned (.bool true)/\Below W.heap.size W W':=by
 obtain⟨vs,h1,h2⟩:=K7 (n:=20) (base:=base) hA (by intro t ht;simp at ht;rcases ht with rfl|rfl|rfl|rfl<;>kernel_rfl) (fun j t v h3 h4=>hval j t v (by rw[show Tryz.f4.params=#[23,24,44,46] by kernel_rfl];simpa using h3) (by simpa using h4));exact S2 hg (Wc h1) h2
set_option maxHeartbeats 8000000 in
set_option maxRecDepth 100000 in
theorem Wa (os:Os)(started:os.Started)(H:Type)(enc:TypeId×Value->H):
  ReturnsInHanded {} Tryz.checked os 4 .any (fun w args=>(Rows.topSettlesSpec.pre enc Tryz.prog Tryz.f4 [] false w args/\laidMetH Tryz.prog Rows.topSettlesRow.laid w)/\sizedMet enc Tryz.prog Tryz.f4 (OpenSpec.ofChange Rows.topSettlesSpec) false w args)
   (Rows.topSettlesSpec.post enc Tryz.prog Tryz.f4 false true false false):=by
 refine returnsInHanded_of_change_and (C:=Tryz.checked) (X:=fun w _=>laidMetH Tryz.prog Rows.topSettlesRow.laid w) (fun _ _ _ hh h=>h.of_heap hh) P7 started (by as_aux_lemma=>kernel_rfl) Tryz.func4
  (ChangeSpec.witness_shaped (enc:=enc) (C:=Tryz.checked) (os:=os) (X:=fun w _=>laidMetH Tryz.prog Rows.topSettlesRow.laid w) false ((A4 os).layVars Tryz.prog (Rows.topSettlesRow.laid.filter fun x=>x.2.handleName?.isNone)) #[.agg #[.int .i64 0,.int .i64 0,.int .i64 0,.int .i64 0],.slice none 0 0,.slice none 0 0,.agg #[.int .i64 0,.string .empty,.string .empty,.int .i64 0,.int .i64 0]] 12 (World.layVars_os _ _ _)
    (World.shaped_of_ZipB (by as_aux_lemma=>kernel_rfl) (by as_aux_lemma=>kernel_rfl)) (by as_aux_lemma=>kernel_rfl) (by as_aux_lemma=>kernel_rfl) (by as_aux_lemma=>kernel_rfl)
    (laidMetH_of_parts (RJ _ (by kernel_rfl) (by kernel_rfl)) (by kernel_rfl))) ?_
 intro W base args ds gs before hval0 hW _ _ hL _;obtain⟨p,q,hA,_⟩:=id hW;refine(Wd (SI (by unfold Rows.topSettlesRow;simp) hL) hA hval0).mono fun e W' ⟨he,hb⟩=>?_;subst he;exact⟨_,rfl,PS RI (by decide+kernel) hW rfl (fun ds h=>by
  match ds,h with
  |[d0,d1,d2,d3],_=>rfl) (by as_aux_lemma=>kernel_rfl) (tb:=4) (by as_aux_lemma=>kernel_rfl) hb⟩
set_option maxHeartbeats 8000000 in
theorem Vz :Rows.TopSettlesSaid:=
 OpenClaim.holds_of_wide 4 Tryz.f4 rfl rfl rfl rfl rfl rfl rfl ⟨rfl,rfl,rfl,rfl,rfl⟩ rfl rfl rfl rfl rfl (by as_aux_lemma=>kernel_rfl) Tryz.func4 (by unfold joinedFacts;(repeat' (with_reducible refine Bool.and_eq_true_iff.2 ⟨?_,?_⟩));all_goals(as_aux_lemma=>kernel_rfl))
  (xD (by as_aux_lemma=>kernel_rfl)) (by unfold Func.isWrapper;first| (rw[aU (by decide+kernel)];kernel_rfl)| (rw[aH (by decide+kernel)];exact⟨rfl,rfl⟩))
  (fun os started H enc _=>Wa os started H enc)
theorem GW {P:Program}(h:(P.funcs.toList.all fun f=>!f.goes)=true)(c:OpenClaim)(hs:c.start=.entering):false=c.goesBy P:=by
 have key:∀f:Func,f∈P.funcs.toList->f.goes=false:=fun f hf=>by
  have:=eF.1 h f hf;simpa using this
 have any:∀g:Nat,(P.funcs[g]?).any Func.goes=false:=fun g=>by
  cases e:P.funcs[g]? with
  |none=>rfl
  |some x=>exact key x (Array.mem_toList_iff.2 (Array.mem_of_getElem? e))
 have all:P.funcs.any Func.goes=false:=by
  rw[<-Array.any_toList,BZ];intro x hx;simp[key x hx]
 have go:∀f,P.goes f=false:=fun f=>by
  unfold Program.goes;rw[all,Bool.and_false,Bool.or_false,BZ];intro g _;simp[any g]
 unfold OpenClaim.goesBy Program.goesAt Program.goesFrom;rw[hs];cases P.funcNamed c.func with
 |none=>rfl
 |some f=>simp[go f]
theorem GA :(Tryz.prog.funcs.toList.all fun f=>!f.goes)=true:=by kernel_rfl
end Go.Proofs.YtegplpagkajolaaGreatDoor
