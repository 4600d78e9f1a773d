/-
  LAYER 24: what the law's arguments are, and what is laid.
-/
import Derived.Test.YtekckhepcdndcaaGreatDoorWc
import Derived.Test.YtekckhepcdndcaaGreatDoorPq
import Derived.Test.YtekckhepcdndcaaGreatDoorPl
import Derived.Test.YtekckhepcdndcaaGreatDoorPs
import Derived.Test.YtekckhepcdndcaaGreatDoorWf
import Derived.LaidHandle
import Derived.LaidSub
import Derived.Lay
import Derived.Test.YtekckhepcdndcaaGreatDoorRows
set_option linter.unusedSimpArgs false
set_option linter.unusedVariables false
namespace Go.Proofs.YtekckhepcdndcaaGreatDoor
open Go.ChangeShapes Go.WideShapes Go.ChangeAt Go.RowKit Go.AI Go.G
set_option maxRecDepth 20000
theorem qtq :shT Tryz.prog 70=.st [3,9,9,3,3]:=by kernel_rfl
theorem qjz :shT Tryz.prog 106=.st [3,3,3,3,45,46,70]:=by kernel_rfl
theorem qpn :shT Tryz.prog 23=.st [3,3,3,3]:=by kernel_rfl
theorem qe3 :shT Tryz.prog 24=.sl 106:=by kernel_rfl
section
variable {n : Nat} {ds : List D}
theorem qu6 (h:Is Tryz.prog (n+2) 70 ds):∃a:G.Ask,(nB a.host∧nB a.path)∧ds=askC a:=by
 obtain⟨_,_,h1,g1,rfl⟩:=zaq (zyq qtq h);obtain⟨_,_,h2,g2,rfl⟩:=zaq g1;obtain⟨_,_,h3,g3,rfl⟩:=zaq g2;obtain⟨_,_,h4,g4,rfl⟩:=zaq g3;obtain⟨_,_,h5,g5,rfl⟩:=zaq g4;obtain rfl:=zka g5;obtain⟨a,_,rfl⟩:=zeu zeq h1;obtain⟨b,hb,rfl⟩:=znc zmy h2;obtain⟨c,hc,rfl⟩:=znc zmy h3;obtain⟨d,_,rfl⟩:=zeu zeq h4;obtain⟨e,_,rfl⟩:=zeu zeq h5;exact⟨⟨a,b,c,d,e⟩,⟨qcw hb,qcw hc⟩,rfl⟩
theorem qlm (h:Is Tryz.prog (n+9) 106 ds):∃s:MStep,OkMA s∧ds=mstepC s:=by
 obtain⟨_,_,h1,g1,rfl⟩:=zaq (zyq qjz h);obtain⟨_,_,h2,g2,rfl⟩:=zaq g1;obtain⟨_,_,h3,g3,rfl⟩:=zaq g2;obtain⟨_,_,h4,g4,rfl⟩:=zaq g3;obtain⟨_,_,h5,g5,rfl⟩:=zaq g4;obtain⟨_,_,h6,g6,rfl⟩:=zaq g5;obtain⟨_,_,h7,g7,rfl⟩:=zaq g6;obtain rfl:=zka g7;obtain⟨a,_,rfl⟩:=zeu zeq h1;obtain⟨b,_,rfl⟩:=zeu zeq h2;obtain⟨c,_,rfl⟩:=zeu zeq h3;obtain⟨d,_,rfl⟩:=zeu zeq h4;obtain⟨l,hl,rfl⟩:=qrk h5;obtain⟨k,hk,rfl⟩:=qrl h6;obtain⟨q,hq,rfl⟩:=qu6 h7;exact⟨⟨a,b,c,d,l,k,q⟩,⟨hl,hk.1,hq.1,hq.2⟩,by simp⟩
theorem zyr (h:Is Tryz.prog (n+2) 23 ds):∃c:Cfg,True∧ds=cfgC c:=by
 obtain⟨_,_,h1,g1,rfl⟩:=zaq (zyq qpn h);obtain⟨_,_,h2,g2,rfl⟩:=zaq g1;obtain⟨_,_,h3,g3,rfl⟩:=zaq g2;obtain⟨_,_,h4,g4,rfl⟩:=zaq g3;obtain rfl:=zka g4;obtain⟨a,_,rfl⟩:=zeu zeq h1;obtain⟨b,_,rfl⟩:=zeu zeq h2;obtain⟨c,_,rfl⟩:=zeu zeq h3;obtain⟨d,_,rfl⟩:=zeu zeq h4;exact⟨⟨a,b,c,d⟩,trivial,rfl⟩
theorem zpm (h:Is Tryz.prog (n+10) 24 ds):∃l:List MStep,(l.length≤9223372036854775807∧∀s∈l,OkMA s)∧ds=[lD (l.map mstepC)]:=by
 obtain⟨es,he,h1,rfl⟩:=qcv qe3 h;obtain⟨l,hl,rfl⟩:=zj9 (fun c=>qlm) h1;exact⟨l,⟨zrh he,hl⟩,rfl⟩
theorem zzb :aggT Tryz.prog 23=true:=by kernel_rfl
theorem zp0 :aggT Tryz.prog 24=false:=by kernel_rfl
end
end Go.Proofs.YtekckhepcdndcaaGreatDoor
namespace Go.Proofs.YtekckhepcdndcaaGreatDoor
open Go.ChangeShapes Go.WideShapes Go.ChangeAt Go.RowKit Go.AI Go.G
set_option maxRecDepth 20000
theorem four20 {α:Type}{l:List α}(h:l.length=4):∃a b c d,l=[a,b,c,d]:=by
 match l,h with
 |[a,b,c,d],_=>exact⟨a,b,c,d,rfl⟩
section
variable {n : Nat} {ds : List D}
end
end Go.Proofs.YtekckhepcdndcaaGreatDoor
namespace Go.Proofs.YtekckhepcdndcaaGreatDoor
open Go.ChangeShapes Go.WideShapes Go.ChangeAt Go.RowKit Go.AI Go.G
set_option maxRecDepth 20000
section
variable {n : Nat} {ds : List D}
end
theorem qvr :Tryz.prog.globalNamed "errors.errorType" =some 0:=by kernel_rfl
theorem err_rt :(Tryz.prog.cutTypes.find? (·.1== "internal/reflectlite.rtype")).map (·.2)=some 400:=by kernel_rfl
theorem qry :((List.range Tryz.prog.types.size).filter fun t=>Tryz.prog.rowNamed t [101,114,114,111,114])=[230]:=by kernel_rfl
theorem zkh {laid:List (String×DataW Unit)}(hm:("errors.errorType",Rows.laid_errors_errorType)∈laid){W:World}(h:laidMetH Tryz.prog laid W):W.cell? ⟨0,0,none⟩=some errV:=by
 have h':=(laidMetH_iff.1 h).2;obtain⟨name,u,ty,e1,e2,e3,e4,e5⟩:=h' _ (List.mem_filter.2 ⟨hm,rfl⟩);have en:name=[101,114,114,111,114]:=(Option.some.inj e1).symm;subst en;obtain rfl:=Option.some.inj (err_rt.symm.trans e2);have hm:ty∈(List.range Tryz.prog.types.size).filter fun t=>Tryz.prog.rowNamed t [101,114,114,111,114]:=List.mem_filter.2 ⟨List.mem_range.2 e3,e4⟩;rw[qry]at hm;obtain rfl:=List.mem_singleton.1 hm;have hh:typeHandle Tryz.prog 230=.pointer (some ⟨4,230,none⟩):=by kernel_rfl
 rw[hh]at e5;simpa using World.var?_cell qvr e5 0
theorem ziv {f:FuncId}{W:World}{vs:List Value}{avs:List AV}(hg:W.cell? ⟨0,0,none⟩=some errV)(h:CtJ errG Tryz.prog f avs [] [] (.d (.v (.bool true))) [])(hr:RVs (fun n=>n<W.heap.size) W avs vs):
  Calls Tryz.prog f vs.toArray W fun e W'=>e=.returned (.bool true)∧Below W.heap.size W W':=by
 have h0:0<W.heap.size:=by
  rcases Nat.eq_zero_or_pos W.heap.size with h0|h
  ·simp[World.cell?,h0]at hg
  ·exact h
 refine(h noN (fun n=>n<W.heap.size) W vs ⟨h0,hg⟩ (fun _ h=>h) hr.length hr.get ⟨fun b k hb=>by simp[zac]at hb,fun b b' k k' x x' n hb=>by simp[zac]at hb⟩ (fun _ _=>rfl)).mono fun e W' ⟨v,σ',I',he,hp,hv⟩=>?_;cases hv with
 |d hd=>cases hd with
  |v=>exact⟨he,hp.os,hp.tape,hp.output.eq,hp.size,fun k hk=>hp.frame k hk (by rintro⟨b,_,_,hb,_⟩;simp[zac]at hb)⟩
noncomputable def errW (os:Os):World:=
 let w0:=World.holding Tryz.prog os ⟨#[],#[],[]⟩
 {w0 with heap:=w0.heap.modify 0 fun
   |.cells _ t frozen=>.cells #[errV] t frozen
   |o=>o}
theorem zik {os:Os}{laid:List (String×DataW Unit)}(args:Array Value)(hf:(errW os).layFits Tryz.prog laid []=true)(hi:(errW os).layIfaces Tryz.prog laid ((errW os).layVars Tryz.prog laid)=true):
  laidMet Tryz.prog laid (((errW os).layVars Tryz.prog laid).forCall (fun _ _=>0) ⟨#[],args,[]⟩).memory:=by
 have e1:(laid.filter fun x=>(laid.map (·.1)).contains x.1)=laid:=List.filter_eq_self.2 fun x hx=>List.contains_iff_mem.2 (List.mem_map.2 ⟨x,hx,rfl⟩);have e2:(laid.filter fun x=>!(laid.map (·.1)).contains x.1)=[]:=List.filter_eq_nil_iff.2 fun x hx=>by rw[List.contains_iff_mem.2 (List.mem_map.2 ⟨x,hx,rfl⟩)];simp
 have h:laidMet Tryz.prog laid ((errW os).layVars Tryz.prog laid):=laidMet_layVars (w0:=errW os) (laid.map (·.1)) [] (by rw[e1]) (by rw[e1];exact hf) (by rw[e1];exact hi) (by rw[e2];exact LaidIn.none);exact h.of_heap (by simp[World.memory,World.forCall,Input.heap])
end Go.Proofs.YtekckhepcdndcaaGreatDoor
