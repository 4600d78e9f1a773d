/-
  ServerIs: the law's row.
-/
import Derived.Test.YtelooagbkmpdpaaGreatDoorWz
import Derived.Test.YtelooagbkmpdpaaGreatDoorWi
import Derived.LaidOnce
import Derived.SevenTiedAt
import Derived.Test.YtelooagbkmpdpaaGreatDoorTie
import Derived.Test.YtelooagbkmpdpaaGreatDoorCards
import Derived.LaidMore
set_option linter.unusedSimpArgs false
set_option linter.unusedVariables false
set_option maxRecDepth 100000
set_option maxHeartbeats 8000000
namespace Go.Proofs.YtelooagbkmpdpaaGreatDoor
open Go.ChangeShapes Go.WideShapes Go.ChangeAt Go.RowKit Go.AI Go.G
theorem SF {vs:List AV}(h:GD Tryz.prog 20 [35,38,31] vs):gV sE Tryz.prog 3 vs [] [] (bool true) []:=by
 obtain⟨d0,b0,h0,g0,rfl⟩:=h;obtain⟨d1,b1,h1,g1,rfl⟩:=g0;obtain⟨d2,b2,h2,g2,rfl⟩:=g1;obtain rfl:=g2;obtain⟨x0,y0,rfl⟩:=YU h0;obtain⟨x1,y1,rfl⟩:=YT h1;obtain⟨x2,y2,rfl⟩:=LV h2;have:=SC x0 x1 x2 y0 y1 y2;simp only[Gi,Gh,Gg];exact this
theorem SG {H:Type}{enc:TypeId×Value->H}{W:World}{base:Nat}{args:Array Value}{ds:List (DataW H)}{ps:List MemPlace}(hg:W.cell? ⟨0,0,none⟩=some tP)(hA:DataW.TrodAll enc Tryz.prog W 0 (λ_=>true) true [35,38,31] args.toList ds ps)
  (hval:∀(j:Nat) t v,Tryz.f3.params[j]? =some t->args[j]? =some v->Value.okWide Tryz.prog W .any base t v):
  Calls Tryz.prog 3 args W λe W'=>e=.returned (.bool true)/\Below W.heap.size W W':=by
 obtain⟨vs,h1,h2⟩:=G1 (n:=20) (base:=base) hA (by intro t ht;simp at ht;rcases ht with rfl|rfl|rfl<;>kernel_rfl) (λj t v h3 h4=>hval j t v (by rw[show Tryz.f3.params=#[35,38,31] by kernel_rfl];simpa using h3) (by simpa using h4));exact Dk hg (SF h1) h2
set_option maxHeartbeats 8000000 in
set_option maxRecDepth 100000 in
theorem SE (os:Os)(started:os.Started)(H:Type)(enc:TypeId×Value->H):
  ReturnsInHanded {} Tryz.checked os 3 .any (λw args=>(Rows.serverIsSpec.pre enc Tryz.prog Tryz.f3 [] false w args/\laidMetH Tryz.prog Rows.serverIsRow.laid w)/\sizedMet enc Tryz.prog Tryz.f3 (OpenSpec.ofChange Rows.serverIsSpec) false w args)
   (Rows.serverIsSpec.post enc Tryz.prog Tryz.f3 false true false false):=by
 refine returnsInHanded_of_change_and (C:=Tryz.checked) (X:=λw _=>laidMetH Tryz.prog Rows.serverIsRow.laid w) (λ_ _ _ hh h=>h.of_heap hh) U7 started (by as_aux_lemma=>kernel_rfl) Tryz.func3
  (ChangeSpec.witness_shaped (enc:=enc) (C:=Tryz.checked) (os:=os) (X:=λw _=>laidMetH Tryz.prog Rows.serverIsRow.laid w) false ((tN os).layVars Tryz.prog (Rows.serverIsRow.laid.filter λx=>x.2.handleName?.isNone)) #[.agg #[.int .i64 0,.bool false,.int .i64 0,.int .i64 0,.int .i64 0,.int .i64 0,.bool false,.bool false,.bool false,.bool false,.int .i64 0,.slice none 0 0,.slice none 0 0,.int .i64 0,.int .i64 0,.int .i64 0,.int .i64 0,.int .i64 0,.int .i64 0,.slice none 0 0,.slice none 0 0,.int .i64 0,.slice none 0 0,.slice none 0 0,.bool false,.int .i64 0,.int .i64 0],.agg #[.int .i64 0,.slice none 0 0],.agg #[.int .i64 0,.int .i64 0,.int .i64 0,.int .i64 0,.int .i64 0,.slice none 0 0,.slice none 0 0,.int .i64 0,.slice none 0 0,.slice none 0 0]] 12 (World.layVars_os _ _ _)
    (World.shaped_of_ZipB (by as_aux_lemma=>kernel_rfl) (by as_aux_lemma=>kernel_rfl)) (by as_aux_lemma=>kernel_rfl) (by as_aux_lemma=>kernel_rfl) (by as_aux_lemma=>kernel_rfl)
    (laidMetH_of_parts (YI _ (by kernel_rfl) (by kernel_rfl)) (by kernel_rfl))) ?_
 intro W base args ds gs before hval0 hW _ _ hL _;obtain⟨p,q,hA,_⟩:=id hW;refine(SG (Bk (by unfold Rows.serverIsRow;simp) hL) hA hval0).mono λe W' ⟨he,hb⟩=>?_;subst he;exact⟨_,rfl,UU YH (by decide+kernel) hW rfl (λds h=>by
  match ds,h with
  |[d0,d1,d2],_=>rfl) (by as_aux_lemma=>kernel_rfl) (tb:=4) (by as_aux_lemma=>kernel_rfl) hb⟩
set_option maxHeartbeats 8000000 in
theorem SD :Rows.ServerIsSaid:=
 OpenClaim.holds_of_wide 3 Tryz.f3 rfl rfl rfl rfl rfl rfl rfl ⟨rfl,rfl,rfl,rfl,rfl⟩ rfl rfl rfl rfl rfl (by as_aux_lemma=>kernel_rfl) Tryz.func3 (by unfold joinedFacts;(repeat' (with_reducible refine Bool.and_eq_true_iff.2 ⟨?_,?_⟩));all_goals(as_aux_lemma=>kernel_rfl))
  (jI (by as_aux_lemma=>kernel_rfl)) (by unfold Func.isWrapper;first| (rw[bA (by decide+kernel)];kernel_rfl)| (rw[aR (by decide+kernel)];exact⟨rfl,rfl⟩))
  (λos started H enc _=>SE os started H enc)
theorem ZZ {P:Program}(h:(P.funcs.toList.all λf=>!f.goes)=true)(c:OpenClaim)(hs:c.start=.entering):false=c.goesBy P:=by
 have key:∀f:Func,f∈P.funcs.toList->f.goes=false:=λf hf=>by
  have:=cS.1 h f hf;simpa using this
 have any:∀g:Nat,(P.funcs[g]?).any Func.goes=false:=λg=>by
  cases e:P.funcs[g]? with
  |none=>rfl
  |some x=>exact key x (Array.mem_toList_iff.2 (Array.mem_of_getElem? e))
 have all:P.funcs.any Func.goes=false:=by
  rw[<-Array.any_toList,List.any_eq_false];intro x hx;simp[key x hx]
 have go:∀f,P.goes f=false:=λf=>by
  unfold Program.goes;rw[all,pI,Bool.or_false,List.any_eq_false];intro g _;simp[any g]
 unfold OpenClaim.goesBy Program.goesAt Program.goesFrom;rw[hs];cases P.funcNamed c.func with
 |none=>rfl
 |some f=>simp[go f]
theorem WZ :(Tryz.prog.funcs.toList.all λf=>!f.goes)=true:=by kernel_rfl
end Go.Proofs.YtelooagbkmpdpaaGreatDoor
