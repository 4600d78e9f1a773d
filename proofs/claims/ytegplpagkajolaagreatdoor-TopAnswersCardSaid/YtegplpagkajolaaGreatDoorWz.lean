/-
  LAYER 24: what the law's arguments are, and what is laid.
-/
import Derived.Test.YtegplpagkajolaaGreatDoorWc
import Derived.Test.YtegplpagkajolaaGreatDoorPq
import Derived.Test.YtegplpagkajolaaGreatDoorPl
import Derived.Test.YtegplpagkajolaaGreatDoorPs
import Derived.Test.YtegplpagkajolaaGreatDoorWf
import Derived.LaidHandle
import Derived.LaidSub
import Derived.Lay
import Derived.Test.YtegplpagkajolaaGreatDoorRows
set_option linter.unusedSimpArgs false
set_option linter.unusedVariables false
set_option maxRecDepth 100000
set_option maxHeartbeats 8000000
namespace Go.Proofs.YtegplpagkajolaaGreatDoor
open Go.ChangeShapes Go.WideShapes Go.ChangeAt Go.RowKit Go.AI Go.G
theorem zaW :kF Tryz.prog 46=.st [3,9,9,3,3]:=by kernel_rfl
theorem zaR :kF Tryz.prog 115=.st [3,3,3,3,44,40,46]:=by kernel_rfl
theorem zaS :kF Tryz.prog 23=.st [3,3,3,3]:=by kernel_rfl
theorem zaQ :kF Tryz.prog 24=.sl 115:=by kernel_rfl
section
variable {n : Nat} {ds : List D}
theorem Ny (h:Is Tryz.prog (n+2) 46 ds):∃a:G.Ask,(nB a.host/\nB a.path)/\ds=sM a:=by
 obtain⟨_,_,h1,g1,rfl⟩:=kZ (GK zaW h);obtain⟨_,_,h2,g2,rfl⟩:=kZ g1;obtain⟨_,_,h3,g3,rfl⟩:=kZ g2;obtain⟨_,_,h4,g4,rfl⟩:=kZ g3;obtain⟨_,_,h5,g5,rfl⟩:=kZ g4;obtain rfl:=GM g5;obtain⟨a,_,rfl⟩:=sF r6 h1;obtain⟨b,hb,rfl⟩:=EW D2 h2;obtain⟨c,hc,rfl⟩:=EW D2 h3;obtain⟨d,_,rfl⟩:=sF r6 h4;obtain⟨e,_,rfl⟩:=sF r6 h5;exact⟨⟨a,b,c,d,e⟩,⟨JC hb,JC hc⟩,rfl⟩
theorem zf1 (h:Is Tryz.prog (n+9) 115 ds):∃s:bJ,J9 s/\ds=cZ s:=by
 obtain⟨_,_,h1,g1,rfl⟩:=kZ (GK zaR h);obtain⟨_,_,h2,g2,rfl⟩:=kZ g1;obtain⟨_,_,h3,g3,rfl⟩:=kZ g2;obtain⟨_,_,h4,g4,rfl⟩:=kZ g3;obtain⟨_,_,h5,g5,rfl⟩:=kZ g4;obtain⟨_,_,h6,g6,rfl⟩:=kZ g5;obtain⟨_,_,h7,g7,rfl⟩:=kZ g6;obtain rfl:=GM g7;obtain⟨a,_,rfl⟩:=sF r6 h1;obtain⟨b,_,rfl⟩:=sF r6 h2;obtain⟨c,_,rfl⟩:=sF r6 h3;obtain⟨d,_,rfl⟩:=sF r6 h4;obtain⟨l,hl,rfl⟩:=Nw h5;obtain⟨k,hk,rfl⟩:=zf2 h6;obtain⟨q,hq,rfl⟩:=Ny h7;exact⟨⟨a,b,c,d,l,k,q⟩,⟨hl,hk.1,hq.1,hq.2⟩,by simp⟩
theorem RU (h:Is Tryz.prog (n+2) 23 ds):∃c:bS,True/\ds=jR c:=by
 obtain⟨_,_,h1,g1,rfl⟩:=kZ (GK zaS h);obtain⟨_,_,h2,g2,rfl⟩:=kZ g1;obtain⟨_,_,h3,g3,rfl⟩:=kZ g2;obtain⟨_,_,h4,g4,rfl⟩:=kZ g3;obtain rfl:=GM g4;obtain⟨a,_,rfl⟩:=sF r6 h1;obtain⟨b,_,rfl⟩:=sF r6 h2;obtain⟨c,_,rfl⟩:=sF r6 h3;obtain⟨d,_,rfl⟩:=sF r6 h4;exact⟨⟨a,b,c,d⟩,trivial,rfl⟩
theorem RT (h:Is Tryz.prog (n+10) 24 ds):∃l:List bJ,(l.length<=9223372036854775807/\∀s∈l,J9 s)/\ds=[lD (l.map cZ)]:=by
 obtain⟨es,he,h1,rfl⟩:=JB zaQ h;obtain⟨l,hl,rfl⟩:=GL (fun c=>zf1) h1;exact⟨l,⟨JD he,hl⟩,rfl⟩
theorem zkz :E6 Tryz.prog 46=true:=by kernel_rfl
theorem TN :E6 Tryz.prog 23=true:=by kernel_rfl
theorem TM :E6 Tryz.prog 24=false:=by kernel_rfl
end
section
variable {n : Nat} {ds : List D}
end
theorem zhs :Tryz.prog.globalNamed "errors.errorType" =some 1:=by kernel_rfl
theorem zhq :(Tryz.prog.cutTypes.find? (·.1== "internal/reflectlite.rtype")).map (·.2)=some 433:=by kernel_rfl
theorem zhr :((List.range Tryz.prog.types.size).filter fun t=>Tryz.prog.rowNamed t [101,114,114,111,114])=[252]:=by kernel_rfl
theorem SI {laid:List (String×DataW Unit)}(hm:("errors.errorType",Rows.laid_errors_errorType)∈laid){W:World}(h:laidMetH Tryz.prog laid W):W.cell? ⟨1,0,none⟩=some A5:=by
 have h':=(laidMetH_iff.1 h).2;obtain⟨name,u,ty,e1,e2,e3,e4,e5⟩:=h' _ (jD.2 ⟨hm,rfl⟩);have en:name=[101,114,114,111,114]:=(lT e1).symm;subst en;obtain rfl:=lT (zhq.symm.trans e2);have hm:ty∈(List.range Tryz.prog.types.size).filter fun t=>Tryz.prog.rowNamed t [101,114,114,111,114]:=jD.2 ⟨KI.2 e3,e4⟩;rw[zhr]at hm;obtain rfl:=fI.1 hm;have hh:typeHandle Tryz.prog 252=.pointer (some ⟨4,252,none⟩):=by kernel_rfl
 rw[hh]at e5;simpa using World.var?_cell zhs e5 0
theorem S2 {f:FuncId}{W:World}{vs:List Value}{avs:List AV}(hg:W.cell? ⟨1,0,none⟩=some A5)(h:cO eY Tryz.prog f avs [] [] (.d (.v (.bool true))) [])(hr:HB (fun n=>n<W.heap.size) W avs vs):
  Calls Tryz.prog f vs.toArray W fun e W'=>e=.returned (.bool true)/\Below W.heap.size W W':=by
 have h0:1<W.heap.size:=by
  rcases vX 1 W.heap.size with h|h
  ·exact h
  ·simp[World.cell?,OB h]at hg
 refine(h CP (fun n=>n<W.heap.size) W vs ⟨h0,hg⟩ (fun _ h=>h) hr.length hr.get ⟨fun b k hb=>by simp[bE]at hb,fun b b' k k' x x' n hb=>by simp[bE]at hb⟩ (fun _ _=>rfl)).mono fun e W' ⟨v,σ',I',he,hp,hv⟩=>?_;cases hv with
 |d hd=>cases hd with
  |v=>exact⟨he,hp.os,hp.tape,hp.output.eq,hp.size,fun k hk=>hp.frame k hk (by rintro⟨b,_,_,hb,_⟩;simp[bE]at hb)⟩
noncomputable def A4 (os:Os):World:=
 let w0:=World.holding Tryz.prog os ⟨#[],#[],[]⟩
 {w0 with heap:=w0.heap.modify 1 fun
   |.cells _ t frozen=>.cells #[A5] t frozen
   |o=>o}
theorem RJ {os:Os}{laid:List (String×DataW Unit)}(args:Array Value)(hf:(A4 os).layFits Tryz.prog laid []=true)(hi:(A4 os).layIfaces Tryz.prog laid ((A4 os).layVars Tryz.prog laid)=true):
  laidMet Tryz.prog laid (((A4 os).layVars Tryz.prog laid).forCall (fun _ _=>0) ⟨#[],args,[]⟩).memory:=by
 have e1:(laid.filter fun x=>(laid.map (·.1)).contains x.1)=laid:=HL.2 fun x hx=>UF.2 (eR.2 ⟨x,hx,rfl⟩);have e2:(laid.filter fun x=>!(laid.map (·.1)).contains x.1)=[]:=KS.2 fun x hx=>by rw[UF.2 (eR.2 ⟨x,hx,rfl⟩)];simp
 have h:laidMet Tryz.prog laid ((A4 os).layVars Tryz.prog laid):=laidMet_layVars (w0:=A4 os) (laid.map (·.1)) [] (by rw[e1]) (by rw[e1];exact hf) (by rw[e1];exact hi) (by rw[e2];exact LaidIn.none);exact h.of_heap (by simp[World.memory,World.forCall,Input.heap])
end Go.Proofs.YtegplpagkajolaaGreatDoor
