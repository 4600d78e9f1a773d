/-
  LAYER 24: what the law's arguments are, and what is laid.
-/
import Derived.Test.YtjoaclgkjhncjaaGreatDoorWc
import Derived.Test.YtjoaclgkjhncjaaGreatDoorPq
import Derived.Test.YtjoaclgkjhncjaaGreatDoorPl
import Derived.Test.YtjoaclgkjhncjaaGreatDoorPs
import Derived.Test.YtjoaclgkjhncjaaGreatDoorWf
import Derived.LaidHandle
import Derived.LaidSub
import Derived.Lay
import Derived.Test.YtjoaclgkjhncjaaGreatDoorRows
set_option linter.unusedSimpArgs false
set_option linter.unusedVariables false
namespace Go.Proofs.YtjoaclgkjhncjaaGreatDoor
open Go.ChangeShapes Go.WideShapes Go.ChangeAt Go.RowKit Go.AI Go.G
set_option maxRecDepth 20000
theorem quy :shT Tryz.prog 45=.st [3,9,9,3,3]:=by kernel_rfl
theorem qlf :shT Tryz.prog 121=.st [3,3,3,3,43,39,45]:=by kernel_rfl
theorem qqv :shT Tryz.prog 23=.st [3,3,3,3]:=by kernel_rfl
theorem qgh :shT Tryz.prog 24=.sl 121:=by kernel_rfl
section
variable {n : Nat} {ds : List D}
theorem qwe (h:Is Tryz.prog (n+2) 45 ds):∃a:G.Ask,(nB a.host∧nB a.path)∧ds=askC a:=by
 obtain⟨_,_,h1,g1,rfl⟩:=zas (zzy quy h);obtain⟨_,_,h2,g2,rfl⟩:=zas g1;obtain⟨_,_,h3,g3,rfl⟩:=zas g2;obtain⟨_,_,h4,g4,rfl⟩:=zas g3;obtain⟨_,_,h5,g5,rfl⟩:=zas g4;obtain rfl:=zko g5;obtain⟨a,_,rfl⟩:=ze2 zey h1;obtain⟨b,hb,rfl⟩:=zns znd h2;obtain⟨c,hc,rfl⟩:=zns znd h3;obtain⟨d,_,rfl⟩:=ze2 zey h4;obtain⟨e,_,rfl⟩:=ze2 zey h5;exact⟨⟨a,b,c,d,e⟩,⟨qea hb,qea hc⟩,rfl⟩
theorem qmw (h:Is Tryz.prog (n+9) 121 ds):∃s:MStep,OkMA s∧ds=zaf s:=by
 obtain⟨_,_,h1,g1,rfl⟩:=zas (zzy qlf h);obtain⟨_,_,h2,g2,rfl⟩:=zas g1;obtain⟨_,_,h3,g3,rfl⟩:=zas g2;obtain⟨_,_,h4,g4,rfl⟩:=zas g3;obtain⟨_,_,h5,g5,rfl⟩:=zas g4;obtain⟨_,_,h6,g6,rfl⟩:=zas g5;obtain⟨_,_,h7,g7,rfl⟩:=zas g6;obtain rfl:=zko g7;obtain⟨a,_,rfl⟩:=ze2 zey h1;obtain⟨b,_,rfl⟩:=ze2 zey h2;obtain⟨c,_,rfl⟩:=ze2 zey h3;obtain⟨d,_,rfl⟩:=ze2 zey h4;obtain⟨l,hl,rfl⟩:=qsr h5;obtain⟨k,hk,rfl⟩:=qss h6;obtain⟨q,hq,rfl⟩:=qwe h7;exact⟨⟨a,b,c,d,l,k,q⟩,⟨hl,hk.1,hq.1,hq.2⟩,by simp⟩
theorem zue (h:Is Tryz.prog (n+2) 23 ds):∃c:Cfg,True∧ds=cfgC c:=by
 obtain⟨_,_,h1,g1,rfl⟩:=zas (zzy qqv h);obtain⟨_,_,h2,g2,rfl⟩:=zas g1;obtain⟨_,_,h3,g3,rfl⟩:=zas g2;obtain⟨_,_,h4,g4,rfl⟩:=zas g3;obtain rfl:=zko g4;obtain⟨a,_,rfl⟩:=ze2 zey h1;obtain⟨b,_,rfl⟩:=ze2 zey h2;obtain⟨c,_,rfl⟩:=ze2 zey h3;obtain⟨d,_,rfl⟩:=ze2 zey h4;exact⟨⟨a,b,c,d⟩,trivial,rfl⟩
theorem zlu (h:Is Tryz.prog (n+10) 24 ds):∃l:List MStep,(l.length≤9223372036854775807∧∀s∈l,OkMA s)∧ds=[lD (l.map zaf)]:=by
 obtain⟨es,he,h1,rfl⟩:=qd9 qgh h;obtain⟨l,hl,rfl⟩:=zkn (fun c=>qmw) h1;exact⟨l,⟨zsb he,hl⟩,rfl⟩
theorem zu0 :aggT Tryz.prog 23=true:=by kernel_rfl
theorem zmd :aggT Tryz.prog 24=false:=by kernel_rfl
end
end Go.Proofs.YtjoaclgkjhncjaaGreatDoor
namespace Go.Proofs.YtjoaclgkjhncjaaGreatDoor
open Go.ChangeShapes Go.WideShapes Go.ChangeAt Go.RowKit Go.AI Go.G
set_option maxRecDepth 20000
section
variable {n : Nat} {ds : List D}
end
theorem qwv :Tryz.prog.globalNamed "errors.errorType" =some 1:=by kernel_rfl
theorem err_rt :(Tryz.prog.cutTypes.find? (·.1== "internal/reflectlite.rtype")).map (·.2)=some 431:=by kernel_rfl
theorem qs4 :((List.range Tryz.prog.types.size).filter fun t=>Tryz.prog.rowNamed t [101,114,114,111,114])=[259]:=by kernel_rfl
theorem zh2 {laid:List (String×DataW Unit)}(hm:("errors.errorType",Rows.laid_errors_errorType)∈laid){W:World}(h:laidMetH Tryz.prog laid W):W.cell? ⟨1,0,none⟩=some errV:=by
 have h':=(laidMetH_iff.1 h).2;obtain⟨name,u,ty,e1,e2,e3,e4,e5⟩:=h' _ (List.mem_filter.2 ⟨hm,rfl⟩);have en:name=[101,114,114,111,114]:=(Option.some.inj e1).symm;subst en;obtain rfl:=Option.some.inj (err_rt.symm.trans e2);have hm:ty∈(List.range Tryz.prog.types.size).filter fun t=>Tryz.prog.rowNamed t [101,114,114,111,114]:=List.mem_filter.2 ⟨List.mem_range.2 e3,e4⟩;rw[qs4]at hm;obtain rfl:=List.mem_singleton.1 hm;have hh:typeHandle Tryz.prog 259=.pointer (some ⟨4,259,none⟩):=by kernel_rfl
 rw[hh]at e5;simpa using World.var?_cell qwv e5 0
theorem zgs {f:FuncId}{W:World}{vs:List Value}{avs:List AV}(hg:W.cell? ⟨1,0,none⟩=some errV)(h:CtJ errG Tryz.prog f avs [] [] (.d (.v (.bool true))) [])(hr:RVs (fun n=>n<W.heap.size) W avs vs):
  Calls Tryz.prog f vs.toArray W fun e W'=>e=.returned (.bool true)∧Below W.heap.size W W':=by
 have h0:1<W.heap.size:=by
  rcases Nat.lt_or_ge 1 W.heap.size with h|h
  ·exact h
  ·simp[World.cell?,Array.getElem?_eq_none h]at hg
 refine(h noN (fun n=>n<W.heap.size) W vs ⟨h0,hg⟩ (fun _ h=>h) hr.length hr.get ⟨fun b k hb=>by simp[zac]at hb,fun b b' k k' x x' n hb=>by simp[zac]at hb⟩ (fun _ _=>rfl)).mono fun e W' ⟨v,σ',I',he,hp,hv⟩=>?_;cases hv with
 |d hd=>cases hd with
  |v=>exact⟨he,hp.os,hp.tape,hp.output.eq,hp.size,fun k hk=>hp.frame k hk (by rintro⟨b,_,_,hb,_⟩;simp[zac]at hb)⟩
noncomputable def errW (os:Os):World:=
 let w0:=World.holding Tryz.prog os ⟨#[],#[],[]⟩
 {w0 with heap:=w0.heap.modify 1 fun
   |.cells _ t frozen=>.cells #[errV] t frozen
   |o=>o}
theorem zgn {os:Os}{laid:List (String×DataW Unit)}(args:Array Value)(hf:(errW os).layFits Tryz.prog laid []=true)(hi:(errW os).layIfaces Tryz.prog laid ((errW os).layVars Tryz.prog laid)=true):
  laidMet Tryz.prog laid (((errW os).layVars Tryz.prog laid).forCall (fun _ _=>0) ⟨#[],args,[]⟩).memory:=by
 have e1:(laid.filter fun x=>(laid.map (·.1)).contains x.1)=laid:=List.filter_eq_self.2 fun x hx=>List.contains_iff_mem.2 (List.mem_map.2 ⟨x,hx,rfl⟩);have e2:(laid.filter fun x=>!(laid.map (·.1)).contains x.1)=[]:=List.filter_eq_nil_iff.2 fun x hx=>by rw[List.contains_iff_mem.2 (List.mem_map.2 ⟨x,hx,rfl⟩)];simp
 have h:laidMet Tryz.prog laid ((errW os).layVars Tryz.prog laid):=laidMet_layVars (w0:=errW os) (laid.map (·.1)) [] (by rw[e1]) (by rw[e1];exact hf) (by rw[e1];exact hi) (by rw[e2];exact LaidIn.none);exact h.of_heap (by simp[World.memory,World.forCall,Input.heap])
end Go.Proofs.YtjoaclgkjhncjaaGreatDoor
