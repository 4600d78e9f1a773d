/- What the law's arguments are. -/
import Derived.Test.YtobcmagefgdgdaaGreatDoorPq
import Derived.Test.YtobcmagefgdgdaaGreatDoorWf
import Derived.LaidHandle
import Derived.LaidSub
import Derived.Lay
import Derived.Test.YtobcmagefgdgdaaGreatDoorRows
set_option linter.unusedSimpArgs false
set_option linter.unusedVariables false
set_option maxRecDepth 100000
set_option maxHeartbeats 8000000
namespace Go.Proofs.YtobcmagefgdgdaaGreatDoor
open Go.ChangeShapes Go.WideShapes Go.ChangeAt Go.RowKit Go.AI Go.G
theorem zdH :ownKnob Tryz.prog.godebug=none:=by kernel_rfl
theorem zk0 {f:Nat->Bool}{n K:Nat}(hK:0<K)(h:∀k,k<K->((List.range n).filter λt=>t%K==k).all f=true):(List.range n).all f=true:=by
 rw[dP];intro x hx;exact dP.1 (h (x%K) (EH _ hK)) x (mX.2 ⟨hx,by simp⟩)
theorem zgb :laidOutB Tryz.prog=true:=by
 have a:(List.range Tryz.prog.types.size).all (rowFine Tryz.prog)=true:=by
  refine zk0 (K:=8) (by decide) λk hk=>?_;have e:k=0\/k=1\/k=2\/k=3\/k=4\/k=5\/k=6\/k=7:=by omega
  rcases e with rfl|rfl|rfl|rfl|rfl|rfl|rfl|rfl
  ·exact(by as_aux_lemma=>kernel_rfl:((List.range Tryz.prog.types.size).filter λt=>t%8==0).all (rowFine Tryz.prog)=true)
  ·exact(by as_aux_lemma=>kernel_rfl:((List.range Tryz.prog.types.size).filter λt=>t%8==1).all (rowFine Tryz.prog)=true)
  ·exact(by as_aux_lemma=>kernel_rfl:((List.range Tryz.prog.types.size).filter λt=>t%8==2).all (rowFine Tryz.prog)=true)
  ·exact(by as_aux_lemma=>kernel_rfl:((List.range Tryz.prog.types.size).filter λt=>t%8==3).all (rowFine Tryz.prog)=true)
  ·exact(by as_aux_lemma=>kernel_rfl:((List.range Tryz.prog.types.size).filter λt=>t%8==4).all (rowFine Tryz.prog)=true)
  ·exact(by as_aux_lemma=>kernel_rfl:((List.range Tryz.prog.types.size).filter λt=>t%8==5).all (rowFine Tryz.prog)=true)
  ·exact(by as_aux_lemma=>kernel_rfl:((List.range Tryz.prog.types.size).filter λt=>t%8==6).all (rowFine Tryz.prog)=true)
  ·exact(by as_aux_lemma=>kernel_rfl:((List.range Tryz.prog.types.size).filter λt=>t%8==7).all (rowFine Tryz.prog)=true)
 have b:Tryz.prog.globals.all (λg=>decide (g.type<Tryz.prog.types.size))=true:=by as_aux_lemma=>kernel_rfl
 have c:Tryz.prog.funcs.all (λf=>f.params.all λt=>decide (t<Tryz.prog.types.size))=true:=by as_aux_lemma=>kernel_rfl
 unfold laidOutB;rw[a,b,c];rfl
theorem rV :jY Tryz.prog 3=.int .i64:=by kernel_rfl
variable {n : Nat} {ds : List D}
end Go.Proofs.YtobcmagefgdgdaaGreatDoor
namespace Go.Proofs.YtobcmagefgdgdaaGreatDoor
open Go.ChangeShapes Go.WideShapes Go.ChangeAt Go.RowKit Go.AI Go.G
theorem zaE :jY Tryz.prog 23=.st [3,3,3,3]:=by kernel_rfl
section
variable {n : Nat} {ds : List D}
theorem zgv (h:Is Tryz.prog (n+2) 23 ds):∃c:bT,True/\ds=tF c:=by
 obtain⟨_,_,h1,g1,rfl⟩:=kO (FE zaE h);obtain⟨_,_,h2,g2,rfl⟩:=kO g1;obtain⟨_,_,h3,g3,rfl⟩:=kO g2;obtain⟨_,_,h4,g4,rfl⟩:=kO g3;obtain rfl:=FH g4;obtain⟨a,_,rfl⟩:=sC rV h1;obtain⟨b,_,rfl⟩:=sC rV h2;obtain⟨c,_,rfl⟩:=sC rV h3;obtain⟨d,_,rfl⟩:=sC rV h4;exact⟨⟨a,b,c,d⟩,trivial,rfl⟩
theorem zla :L6 Tryz.prog 23=true:=by kernel_rfl
end
theorem zni :jY Tryz.prog 5=.int .u8:=by kernel_rfl
theorem znh :jY Tryz.prog 24=.sl 5:=by kernel_rfl
theorem znG {n:Nat}{ds:List D}(h:Is Tryz.prog (n+1) 5 ds):∃c:UInt8,True/\ds=aV c:=by
 obtain⟨x,hx,rfl⟩:=sC zni h;have hx:0<=x/\x<256:=by(simp only[Lit.wf,bL,dA]at hx;have a:IntKind.u8.min=0:=rfl;have b:IntKind.u8.max=255:=rfl;omega)
 refine⟨UInt8.ofNat x.toNat,trivial,?_⟩;have:(UInt8.ofNat x.toNat).toNat=x.toNat:=by simp;omega
 simp only[aV,this];rw[Int.toNat_of_nonneg hx.1]
theorem znF {n:Nat}{ds:List D}(h:Is Tryz.prog (n+2) 24 ds):∃b:List UInt8,True/\ds=[lD (b.map aV)]:=by
 obtain⟨es,he,h1,rfl⟩:=IE znh h;obtain⟨l,hl,rfl⟩:=FF (λc=>znG) h1;exact⟨l,trivial,rfl⟩
theorem znO :L6 Tryz.prog 24=false:=by kernel_rfl
section
variable {n : Nat} {ds : List D}
end
theorem zh6 :Tryz.prog.globalNamed "errors.errorType" =some 0:=by kernel_rfl
theorem zh3 :(Tryz.prog.cutTypes.find? (·.1== "internal/reflectlite.rtype")).map (·.2)=some 586:=by kernel_rfl
theorem zh4 :((List.range Tryz.prog.types.size).filter λt=>Tryz.prog.rowNamed t [101,114,114,111,114])=[354]:=by kernel_rfl
theorem zh5 {laid:List (String×DataW Unit)}(hm:("errors.errorType",Rows.laid_errors_errorType)∈laid){W:World}(h:laidMetH Tryz.prog laid W):W.cell? ⟨0,0,none⟩=some FT:=by
 have h':=(laidMetH_iff.1 h).2;obtain⟨name,u,ty,e1,e2,e3,e4,e5⟩:=h' _ (mX.2 ⟨hm,rfl⟩);have en:name=[101,114,114,111,114]:=(mW e1).symm;subst en;obtain rfl:=mW (zh3.symm.trans e2);have hm:ty∈(List.range Tryz.prog.types.size).filter λt=>Tryz.prog.rowNamed t [101,114,114,111,114]:=mX.2 ⟨JM.2 e3,e4⟩;rw[zh4]at hm;obtain rfl:=yA.1 hm;have hh:typeHandle Tryz.prog 354=.pointer (some ⟨4,354,none⟩):=by kernel_rfl
 rw[hh]at e5;simpa using World.var?_cell zh6 e5 0
theorem zjx {f:FuncId}{W:World}{vs:List Value}{avs:List AV}(hg:W.cell? ⟨0,0,none⟩=some FT)(h:eL i6 Tryz.prog f avs [] [] (.d (.v (.bool true))) [])(hr:F4 (λn=>n<W.heap.size) W avs vs):
  Calls Tryz.prog f vs.toArray W λe W'=>e=.returned (.bool true)/\Below W.heap.size W W':=by
 have h0:0<W.heap.size:=by
  rcases y9 0 W.heap.size with h|h
  ·exact h
  ·simp[World.cell?,T0 h]at hg
 refine(h BH (λn=>n<W.heap.size) W vs ⟨h0,hg⟩ (λ_ h=>h) hr.length hr.get ⟨λb k hb=>by simp[bB]at hb,λb b' k k' x x' n hb=>by simp[bB]at hb⟩ (λ_ _=>rfl)).mono λe W' ⟨v,σ',I',he,hp,hv⟩=>?_;cases hv with
 |d hd=>cases hd with
  |v=>exact⟨he,hp.os,hp.tape,hp.output.eq,hp.size,λk hk=>hp.frame k hk (by rintro⟨b,_,_,hb,_⟩;simp[bB]at hb)⟩
noncomputable def FR (os:Os):World:=
 let w0:=World.holding Tryz.prog os ⟨#[],#[],[]⟩
 {w0 with heap:=w0.heap.modify 0 fun
   |.cells _ t frozen=>.cells #[FT] t frozen
   |o=>o}
theorem zgc {os:Os}{laid:List (String×DataW Unit)}(args:Array Value)(hf:(FR os).layFits Tryz.prog laid []=true)(hi:(FR os).layIfaces Tryz.prog laid ((FR os).layVars Tryz.prog laid)=true):
  laidMet Tryz.prog laid (((FR os).layVars Tryz.prog laid).forCall (λ_ _=>0) ⟨#[],args,[]⟩).memory:=by
 have e1:(laid.filter λx=>(laid.map (·.1)).contains x.1)=laid:=JS.2 λx hx=>TT.2 (fU.2 ⟨x,hx,rfl⟩);have e2:(laid.filter λx=>!(laid.map (·.1)).contains x.1)=[]:=List.filter_eq_nil_iff.2 λx hx=>by rw[TT.2 (fU.2 ⟨x,hx,rfl⟩)];simp
 have h:laidMet Tryz.prog laid ((FR os).layVars Tryz.prog laid):=laidMet_layVars (w0:=FR os) (laid.map (·.1)) [] (by rw[e1]) (by rw[e1];exact hf) (by rw[e1];exact hi) (by rw[e2];exact LaidIn.none);exact h.of_heap (by simp[World.memory,World.forCall,Input.heap])
end Go.Proofs.YtobcmagefgdgdaaGreatDoor
