/-
  What the law's arguments are.
-/
import Derived.Test.YtelooagbkmpdpaaGreatDoorWf
import Derived.LaidHandle
import Derived.LaidSub
import Derived.Lay
import Derived.Test.YtelooagbkmpdpaaGreatDoorRows
set_option linter.unusedSimpArgs false
set_option linter.unusedVariables false
set_option maxRecDepth 100000
set_option maxHeartbeats 8000000
namespace Go.Proofs.YtelooagbkmpdpaaGreatDoor
open Go.ChangeShapes Go.WideShapes Go.ChangeAt Go.RowKit Go.AI Go.G
theorem R4 :dL Tryz.prog 22=.arr 4 3:=by kernel_rfl
theorem R7 :dL Tryz.prog 23=.arr 4 4:=by kernel_rfl
theorem RY :dL Tryz.prog 25=.st [22,23,3]:=by kernel_rfl
theorem RS :dL Tryz.prog 35=.st [3,4,25,33,28,3]:=by kernel_rfl
theorem MS {α:Type}{l:List α}(h:l.length=4):∃a b c d,l=[a,b,c,d]:=by
 match l,h with
 |[a,b,c,d],_=>exact⟨a,b,c,d,rfl⟩
section
variable {n : Nat} {ds : List D}
theorem Y1 (h:Is Tryz.prog (n+2) 22 ds):∃a b c d:Int,ds=[iD a,iD b,iD c,iD d]:=by
 obtain⟨es,he,h1,rfl⟩:=LW R4 h;obtain⟨a,b,c,d,rfl⟩:=MS he;obtain⟨x,_,e0⟩:=iA iY (h1 a (by simp));obtain⟨y,_,e1⟩:=iA iY (h1 b (by simp));obtain⟨z,_,e2⟩:=iA iY (h1 c (by simp));obtain⟨t,_,e3⟩:=iA iY (h1 d (by simp));subst e0;subst e1;subst e2;subst e3;exact⟨x,y,z,t,rfl⟩
theorem Y3 (h:Is Tryz.prog (n+2) 23 ds):∃a b c d:Bool,ds=[bD a,bD b,bD c,bD d]:=by
 obtain⟨es,he,h1,rfl⟩:=LW R7 h;obtain⟨a,b,c,d,rfl⟩:=MS he;obtain⟨x,e0⟩:=vB uT (h1 a (by simp));obtain⟨y,e1⟩:=vB uT (h1 b (by simp));obtain⟨z,e2⟩:=vB uT (h1 c (by simp));obtain⟨t,e3⟩:=vB uT (h1 d (by simp));subst e0;subst e1;subst e2;subst e3;exact⟨x,y,z,t,rfl⟩
theorem YX (h:Is Tryz.prog (n+3) 25 ds):∃o:Nonce.Ou,ds=kQ o:=by
 obtain⟨_,_,h1,g1,rfl⟩:=dN (pT RY h);obtain⟨_,_,h2,g2,rfl⟩:=dN g1;obtain⟨_,_,h3,g3,rfl⟩:=dN g2;obtain rfl:=pU g3;obtain⟨a,b,c,d,rfl⟩:=Y1 h1;obtain⟨x,y,z,t,rfl⟩:=Y3 h2;obtain⟨m,_,rfl⟩:=iA iY h3;exact⟨⟨a,b,c,d,x,y,z,t,m⟩,rfl⟩
theorem YU (h:Is Tryz.prog (n+10) 35 ds):∃s:bM,gO s/\ds=dB s:=by
 obtain⟨_,_,h1,g1,rfl⟩:=dN (pT RS h);obtain⟨_,_,h2,g2,rfl⟩:=dN g1;obtain⟨_,_,h3,g3,rfl⟩:=dN g2;obtain⟨_,_,h4,g4,rfl⟩:=dN g3;obtain⟨_,_,h5,g5,rfl⟩:=dN g4;obtain⟨_,_,h6,g6,rfl⟩:=dN g5;obtain rfl:=pU g6;obtain⟨a,_,rfl⟩:=iA iY h1;obtain⟨b,rfl⟩:=vB uT h2;obtain⟨o,rfl⟩:=YX h3;obtain⟨v,hv,rfl⟩:=YS h4;obtain⟨e,_,rfl⟩:=iA HL h5;obtain⟨q,_,rfl⟩:=iA iY h6;exact⟨⟨a,b,o,v,e,q⟩,⟨hv⟩,by simp⟩
theorem Gh :vL Tryz.prog 35=true:=by kernel_rfl
end
section
variable {n : Nat} {ds : List D}
end
theorem Bl :Tryz.prog.globalNamed "errors.errorType" =some 0:=by kernel_rfl
theorem Bg :(Tryz.prog.cutTypes.find? (·.1== "internal/reflectlite.rtype")).map (·.2)=some 262:=by kernel_rfl
theorem Bh :((List.range Tryz.prog.types.size).filter λt=>Tryz.prog.rowNamed t [101,114,114,111,114])=[132]:=by kernel_rfl
theorem Bk {laid:List (String×DataW Unit)}(hm:("errors.errorType",Rows.laid_errors_errorType)∈laid){W:World}(h:laidMetH Tryz.prog laid W):W.cell? ⟨0,0,none⟩=some tP:=by
 have h':=(laidMetH_iff.1 h).2;obtain⟨name,u,ty,e1,e2,e3,e4,e5⟩:=h' _ (jK.2 ⟨hm,rfl⟩);have en:name=[101,114,114,111,114]:=(kJ e1).symm;subst en;obtain rfl:=kJ (Bg.symm.trans e2);have hm:ty∈(List.range Tryz.prog.types.size).filter λt=>Tryz.prog.rowNamed t [101,114,114,111,114]:=jK.2 ⟨vV.2 e3,e4⟩;rw[Bh]at hm;obtain rfl:=uJ.1 hm;have hh:typeHandle Tryz.prog 132=.pointer (some ⟨4,132,none⟩):=by kernel_rfl
 rw[hh]at e5;simpa using World.var?_cell Bl e5 0
theorem Dk {f:FuncId}{W:World}{vs:List Value}{avs:List AV}(hg:W.cell? ⟨0,0,none⟩=some tP)(h:gV sE Tryz.prog f avs [] [] (.d (.v (.bool true))) [])(hr:tY (λn=>n<W.heap.size) W avs vs):
  Calls Tryz.prog f vs.toArray W λe W'=>e=.returned (.bool true)/\Below W.heap.size W W':=by
 have h0:0<W.heap.size:=by
  rcases pC 0 W.heap.size with h|h
  ·exact h
  ·simp[World.cell?,CN h]at hg
 refine(h qV (λn=>n<W.heap.size) W vs ⟨h0,hg⟩ (λ_ h=>h) hr.length hr.get ⟨λb k hb=>by simp[aP]at hb,λb b' k k' x x' n hb=>by simp[aP]at hb⟩ (λ_ _=>rfl)).mono λe W' ⟨v,σ',I',he,hp,hv⟩=>?_;cases hv with
 |d hd=>cases hd with
  |v=>exact⟨he,hp.os,hp.tape,hp.output.eq,hp.size,λk hk=>hp.frame k hk (by rintro⟨b,_,_,hb,_⟩;simp[aP]at hb)⟩
noncomputable def tN (os:Os):World:=
 let w0:=World.holding Tryz.prog os ⟨#[],#[],[]⟩
 {w0 with heap:=w0.heap.modify 0 fun
   |.cells _ t frozen=>.cells #[tP] t frozen
   |o=>o}
theorem YI {os:Os}{laid:List (String×DataW Unit)}(args:Array Value)(hf:(tN os).layFits Tryz.prog laid []=true)(hi:(tN os).layIfaces Tryz.prog laid ((tN os).layVars Tryz.prog laid)=true):
  laidMet Tryz.prog laid (((tN os).layVars Tryz.prog laid).forCall (λ_ _=>0) ⟨#[],args,[]⟩).memory:=by
 have e1:(laid.filter λx=>(laid.map (·.1)).contains x.1)=laid:=List.filter_eq_self.2 λx hx=>List.contains_iff_mem.2 (dV.2 ⟨x,hx,rfl⟩);have e2:(laid.filter λx=>!(laid.map (·.1)).contains x.1)=[]:=List.filter_eq_nil_iff.2 λx hx=>by rw[List.contains_iff_mem.2 (dV.2 ⟨x,hx,rfl⟩)];simp
 have h:laidMet Tryz.prog laid ((tN os).layVars Tryz.prog laid):=laidMet_layVars (w0:=tN os) (laid.map (·.1)) [] (by rw[e1]) (by rw[e1];exact hf) (by rw[e1];exact hi) (by rw[e2];exact LaidIn.none);exact h.of_heap (by simp[World.memory,World.forCall,Input.heap])
end Go.Proofs.YtelooagbkmpdpaaGreatDoor
