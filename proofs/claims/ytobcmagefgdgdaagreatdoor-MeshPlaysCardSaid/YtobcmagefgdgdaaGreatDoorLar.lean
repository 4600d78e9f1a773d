/-
  MeshPlays: the law's row.
-/
import Derived.Test.YtobcmagefgdgdaaGreatDoorWza
import Derived.Test.YtobcmagefgdgdaaGreatDoorRea
import Derived.LaidOnce
import Derived.SevenTiedAt
import Derived.Test.YtobcmagefgdgdaaGreatDoorTi
import Derived.Test.YtobcmagefgdgdaaGreatDoorCards
import Derived.LaidMore
set_option linter.unusedSimpArgs false
set_option linter.unusedVariables false
set_option maxRecDepth 100000
set_option maxHeartbeats 8000000
namespace Go.Proofs.YtobcmagefgdgdaaGreatDoor
open Go.ChangeShapes Go.WideShapes Go.ChangeAt Go.RowKit Go.AI Go.G
theorem zfx {vs:List AV}(h:Ae Tryz.prog 20 [23,26] vs):eL i6 Tryz.prog 4 vs [] [] (bool true) []:=by
 obtain⟨d0,b0,h0,g0,rfl⟩:=h;obtain⟨d1,b1,h1,g1,rfl⟩:=g0;obtain rfl:=g1;obtain⟨x0,y0,rfl⟩:=zgv h0;obtain⟨x1,y1,rfl⟩:=zgt h1;have:=zfu x0 x1 y1;simp only[zla,zk9];exact this
theorem zfy {H:Type}{enc:TypeId×Value->H}{W:World}{base:Nat}{args:Array Value}{ds:List (DataW H)}{ps:List MemPlace}(hg:W.cell? ⟨0,0,none⟩=some FT)(hA:DataW.TrodAll enc Tryz.prog W 0 (λ_=>true) true [23,26] args.toList ds ps)
  (hval:∀(j:Nat) t v,Tryz.f4.params[j]? =some t->args[j]? =some v->Value.okWide Tryz.prog W .any base t v):
  Calls Tryz.prog 4 args W λe W'=>e=.returned (.bool true)/\Below W.heap.size W W':=by
 obtain⟨vs,h1,h2⟩:=Bx (n:=20) (base:=base) hA (by intro t ht;simp at ht;rcases ht with rfl|rfl<;>kernel_rfl) (λj t v h3 h4=>hval j t v (by rw[show Tryz.f4.params=#[23,26] by kernel_rfl];simpa using h3) (by simpa using h4));exact zjx hg (zfx h1) h2
set_option maxHeartbeats 8000000 in
set_option maxRecDepth 100000 in
theorem zfw (os:Os)(started:os.Started)(H:Type)(enc:TypeId×Value->H):
  ReturnsInHanded {} Tryz.checked os 4 .any (λw args=>(Rows.meshPlaysSpec.pre enc Tryz.prog Tryz.f4 [] false w args/\laidMetH Tryz.prog Rows.meshPlaysRow.laid w)/\sizedMet enc Tryz.prog Tryz.f4 (OpenSpec.ofChange Rows.meshPlaysSpec) false w args)
   (Rows.meshPlaysSpec.post enc Tryz.prog Tryz.f4 false true false false):=by
 refine returnsInHanded_of_change_and (C:=Tryz.checked) (X:=λw _=>laidMetH Tryz.prog Rows.meshPlaysRow.laid w) (λ_ _ _ hh h=>h.of_heap hh) zdH started (by as_aux_lemma=>kernel_rfl) Tryz.func4
  (ChangeSpec.witness_shaped (enc:=enc) (C:=Tryz.checked) (os:=os) (X:=λw _=>laidMetH Tryz.prog Rows.meshPlaysRow.laid w) false ((FR os).layVars Tryz.prog (Rows.meshPlaysRow.laid.filter λx=>x.2.handleName?.isNone)) #[.agg #[.int .i64 0,.int .i64 0,.int .i64 0,.int .i64 0],.slice none 0 0] 12 (World.layVars_os _ _ _)
    (World.shaped_of_ZipB (by as_aux_lemma=>kernel_rfl) (by as_aux_lemma=>kernel_rfl)) (by as_aux_lemma=>kernel_rfl) (by as_aux_lemma=>kernel_rfl) (by as_aux_lemma=>kernel_rfl)
    (laidMetH_of_parts (zgc _ (by kernel_rfl) (by kernel_rfl)) (by kernel_rfl))) ?_
 intro W base args ds gs before hval0 hW _ _ hL _;obtain⟨p,q,hA,_⟩:=id hW;refine(zfy (zh5 (by unfold Rows.meshPlaysRow;simp) hL) hA hval0).mono λe W' ⟨he,hb⟩=>?_;subst he;exact⟨_,rfl,zc9 zgb (by decide+kernel) hW rfl (λds h=>by
  match ds,h with
  |[d0,d1],_=>rfl) (by as_aux_lemma=>kernel_rfl) (tb:=4) (by as_aux_lemma=>kernel_rfl) hb⟩
end Go.Proofs.YtobcmagefgdgdaaGreatDoor
