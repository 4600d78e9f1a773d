/- What the law's arguments are. -/
import Derived.Test.YtobcmagefgdgdaaGreatDoorPq
import Derived.Test.YtobcmagefgdgdaaGreatDoorWf
import Derived.LaidHandle
import Derived.LaidSub
import Derived.Lay
import Derived.Test.YtobcmagefgdgdaaGreatDoorRows
set_option linter.unusedSimpArgs false
set_option linter.unusedVariables false
set_option maxRecDepth 100000
set_option maxHeartbeats 8000000
namespace Go.Proofs.YtobcmagefgdgdaaGreatDoor
open Go.ChangeShapes Go.WideShapes Go.ChangeAt Go.RowKit Go.AI Go.G
theorem zdH :ownKnob Tryz.prog.godebug=none:=by kernel_rfl
theorem zk0 {f:Nat->Bool}{n K:Nat}(hK:0<K)(h:∀k,k<K->((List.range n).filter λt=>t%K==k).all f=true):(List.range n).all f=true:=by
 rw[dP];intro x hx;exact dP.1 (h (x%K) (EH _ hK)) x (mX.2 ⟨hx,by simp⟩)
theorem zgb :laidOutB Tryz.prog=true:=by
 have a:(List.range Tryz.prog.types.size).all (rowFine Tryz.prog)=true:=by
  refine zk0 (K:=8) (by decide) λk hk=>?_;have e:k=0\/k=1\/k=2\/k=3\/k=4\/k=5\/k=6\/k=7:=by omega
  rcases e with rfl|rfl|rfl|rfl|rfl|rfl|rfl|rfl
  ·exact(by as_aux_lemma=>kernel_rfl:((List.range Tryz.prog.types.size).filter λt=>t%8==0).all (rowFine Tryz.prog)=true)
  ·exact(by as_aux_lemma=>kernel_rfl:((List.range Tryz.prog.types.size).filter λt=>t%8==1).all (rowFine Tryz.prog)=true)
  ·exact(by as_aux_lemma=>kernel_rfl:((List.range Tryz.prog.types.size).filter λt=>t%8==2).all (rowFine Tryz.prog)=true)
  ·exact(by as_aux_lemma=>kernel_rfl:((List.range Tryz.prog.types.size).filter λt=>t%8==3).all (rowFine Tryz.prog)=true)
  ·exact(by as_aux_lemma=>kernel_rfl:((List.range Tryz.prog.types.size).filter λt=>t%8==4).all (rowFine Tryz.prog)=true)
  ·exact(by as_aux_lemma=>kernel_rfl:((List.range Tryz.prog.types.size).filter λt=>t%8==5).all (rowFine Tryz.prog)=true)
  ·exact(by as_aux_lemma=>kernel_rfl:((List.range Tryz.prog.types.size).filter λt=>t%8==6).all (rowFine Tryz.prog)=true)
  ·exact(by as_aux_lemma=>kernel_rfl:((List.range Tryz.prog.types.size).filter λt=>t%8==7).all (rowFine Tryz.prog)=true)
 have b:Tryz.prog.globals.all (λg=>decide (g.type<Tryz.prog.types.size))=true:=by as_aux_lemma=>kernel_rfl
 have c:Tryz.prog.funcs.all (λf=>f.params.all λt=>decide (t<Tryz.prog.types.size))=true:=by as_aux_lemma=>kernel_rfl
 unfold laidOutB;rw[a,b,c];rfl
theorem rV :jY Tryz.prog 3=.int .i64:=by kernel_rfl
theorem CY :jY Tryz.prog 9=.str:=by kernel_rfl
theorem zaH :jY Tryz.prog 54=.sl 3:=by kernel_rfl
theorem zaG :jY Tryz.prog 184=.st [3,9]:=by kernel_rfl
theorem zaF :jY Tryz.prog 55=.sl 184:=by kernel_rfl
theorem zax :jY Tryz.prog 176=.st [9,3]:=by kernel_rfl
theorem zaw :jY Tryz.prog 177=.sl 176:=by kernel_rfl
theorem zaz :jY Tryz.prog 179=.st [9,9,177]:=by kernel_rfl
theorem zay :jY Tryz.prog 172=.sl 179:=by kernel_rfl
theorem zaB :jY Tryz.prog 174=.st [3,9,3,3,9,172,54]:=by kernel_rfl
theorem zaA :jY Tryz.prog 65=.sl 174:=by kernel_rfl
variable {n : Nat} {ds : List D}
theorem IF {s:ByteArray}(h:s.size<=maxLen):nB s:=by
 have:=iA s;have e:maxLen=9223372036854775807:=rfl;unfold G.nB;omega
theorem IG {α:Type}{l:List α}{f:α->List D}(h:(l.map f).length<=maxLen):l.length<=9223372036854775807:=by
 have e:maxLen=9223372036854775807:=rfl;rw[zD]at h;omega
theorem zgx (h:Is Tryz.prog (n+2) 184 ds):∃k:Key,nB k.name/\ds=aQ k:=by
 obtain⟨_,_,h1,g1,rfl⟩:=kO (FE zaG h);obtain⟨_,_,h2,g2,rfl⟩:=kO g1;obtain rfl:=FH g2;obtain⟨a,_,rfl⟩:=sC rV h1;obtain⟨b,hb,rfl⟩:=DO CY h2;exact⟨⟨a,b⟩,IF hb,rfl⟩
theorem zgp (h:Is Tryz.prog (n+2) 176 ds):∃k:Weight,nB k.fT/\ds=wC k:=by
 obtain⟨_,_,h1,g1,rfl⟩:=kO (FE zax h);obtain⟨_,_,h2,g2,rfl⟩:=kO g1;obtain rfl:=FH g2;obtain⟨a,ha,rfl⟩:=DO CY h1;obtain⟨b,_,rfl⟩:=sC rV h2;exact⟨⟨a,b⟩,IF ha,rfl⟩
theorem zgq (h:Is Tryz.prog (n+4) 179 ds):∃x:cH,x.split.length<=9223372036854775807/\ds=dJ x:=by
 obtain⟨_,_,h1,g1,rfl⟩:=kO (FE zaz h);obtain⟨_,_,h2,g2,rfl⟩:=kO g1;obtain⟨_,_,h3,g3,rfl⟩:=kO g2;obtain rfl:=FH g3;obtain⟨a,ha,rfl⟩:=DO CY h1;obtain⟨b,hb,rfl⟩:=DO CY h2;obtain⟨es,he,h4,rfl⟩:=IE zaw h3;obtain⟨l,_,rfl⟩:=FF (λc=>zgp) h4;exact⟨⟨a,b,l⟩,IG he,rfl⟩
theorem zgy (h:Is Tryz.prog (n+1) 3 ds):∃x:Int,True/\ds=kP x:=by
 obtain⟨a,_,rfl⟩:=sC rV h;exact⟨a,trivial,rfl⟩
theorem zgs (h:Is Tryz.prog (n+6) 174 ds):∃r:aC,y2 r/\ds=aF r:=by
 obtain⟨_,_,h1,g1,rfl⟩:=kO (FE zaB h);obtain⟨_,_,h2,g2,rfl⟩:=kO g1;obtain⟨_,_,h3,g3,rfl⟩:=kO g2;obtain⟨_,_,h4,g4,rfl⟩:=kO g3;obtain⟨_,_,h5,g5,rfl⟩:=kO g4;obtain⟨_,_,h6,g6,rfl⟩:=kO g5;obtain⟨_,_,h7,g7,rfl⟩:=kO g6;obtain rfl:=FH g7;obtain⟨a,_,rfl⟩:=sC rV h1;obtain⟨b,hb,rfl⟩:=DO CY h2;obtain⟨c,_,rfl⟩:=sC rV h3;obtain⟨d,_,rfl⟩:=sC rV h4;obtain⟨e,he,rfl⟩:=DO CY h5;obtain⟨es,hes,h8,rfl⟩:=IE zay h6;obtain⟨l,hl,rfl⟩:=FF (λc=>zgq) h8;obtain⟨fs,hfs,h9,rfl⟩:=IE zaH h7;obtain⟨m,_,rfl⟩:=FF (λc=>zgy) h9;exact⟨⟨a,b,c,d,e,l,m⟩,⟨IF hb,IF he,IG hes,hl,IG hfs⟩,rfl⟩
theorem zgr (h:Is Tryz.prog (n+7) 65 ds):∃l:List aC,cL l/\ds=[lD (l.map aF)]:=by
 obtain⟨es,he,h1,rfl⟩:=IE zaA h;obtain⟨l,hl,rfl⟩:=FF (λc=>zgs) h1;exact⟨l,⟨IG he,hl⟩,rfl⟩
theorem zgw (h:Is Tryz.prog (n+3) 55 ds):∃l:List Key,(l.length<=9223372036854775807/\∀k∈l,nB k.name)/\ds=[lD (l.map aQ)]:=by
 obtain⟨es,he,h1,rfl⟩:=IE zaF h;obtain⟨l,hl,rfl⟩:=FF (λc=>zgx) h1;exact⟨l,⟨IG he,hl⟩,rfl⟩
end Go.Proofs.YtobcmagefgdgdaaGreatDoor
namespace Go.Proofs.YtobcmagefgdgdaaGreatDoor
open Go.ChangeShapes Go.WideShapes Go.ChangeAt Go.RowKit Go.AI Go.G
theorem zaI :jY Tryz.prog 67=.st [3,9,9,3,3]:=by kernel_rfl
theorem zaD :jY Tryz.prog 76=.st [3,3,3,3,65,55,67]:=by kernel_rfl
theorem zaE :jY Tryz.prog 23=.st [3,3,3,3]:=by kernel_rfl
theorem zaC :jY Tryz.prog 26=.sl 76:=by kernel_rfl
section
variable {n : Nat} {ds : List D}
theorem zgz (h:Is Tryz.prog (n+2) 67 ds):∃a:G.Ask,(nB a.host/\nB a.path)/\ds=IY a:=by
 obtain⟨_,_,h1,g1,rfl⟩:=kO (FE zaI h);obtain⟨_,_,h2,g2,rfl⟩:=kO g1;obtain⟨_,_,h3,g3,rfl⟩:=kO g2;obtain⟨_,_,h4,g4,rfl⟩:=kO g3;obtain⟨_,_,h5,g5,rfl⟩:=kO g4;obtain rfl:=FH g5;obtain⟨a,_,rfl⟩:=sC rV h1;obtain⟨b,hb,rfl⟩:=DO CY h2;obtain⟨c,hc,rfl⟩:=DO CY h3;obtain⟨d,_,rfl⟩:=sC rV h4;obtain⟨e,_,rfl⟩:=sC rV h5;exact⟨⟨a,b,c,d,e⟩,⟨IF hb,IF hc⟩,rfl⟩
theorem zgu (h:Is Tryz.prog (n+9) 76 ds):∃s:cB,Ab s/\ds=eD s:=by
 obtain⟨_,_,h1,g1,rfl⟩:=kO (FE zaD h);obtain⟨_,_,h2,g2,rfl⟩:=kO g1;obtain⟨_,_,h3,g3,rfl⟩:=kO g2;obtain⟨_,_,h4,g4,rfl⟩:=kO g3;obtain⟨_,_,h5,g5,rfl⟩:=kO g4;obtain⟨_,_,h6,g6,rfl⟩:=kO g5;obtain⟨_,_,h7,g7,rfl⟩:=kO g6;obtain rfl:=FH g7;obtain⟨a,_,rfl⟩:=sC rV h1;obtain⟨b,_,rfl⟩:=sC rV h2;obtain⟨c,_,rfl⟩:=sC rV h3;obtain⟨d,_,rfl⟩:=sC rV h4;obtain⟨l,hl,rfl⟩:=zgr h5;obtain⟨k,hk,rfl⟩:=zgw h6;obtain⟨q,hq,rfl⟩:=zgz h7;exact⟨⟨a,b,c,d,l,k,q⟩,⟨hl,hk.1,hq.1,hq.2⟩,by simp⟩
theorem zgv (h:Is Tryz.prog (n+2) 23 ds):∃c:bT,True/\ds=tF c:=by
 obtain⟨_,_,h1,g1,rfl⟩:=kO (FE zaE h);obtain⟨_,_,h2,g2,rfl⟩:=kO g1;obtain⟨_,_,h3,g3,rfl⟩:=kO g2;obtain⟨_,_,h4,g4,rfl⟩:=kO g3;obtain rfl:=FH g4;obtain⟨a,_,rfl⟩:=sC rV h1;obtain⟨b,_,rfl⟩:=sC rV h2;obtain⟨c,_,rfl⟩:=sC rV h3;obtain⟨d,_,rfl⟩:=sC rV h4;exact⟨⟨a,b,c,d⟩,trivial,rfl⟩
theorem zgt (h:Is Tryz.prog (n+10) 26 ds):∃l:List cB,(l.length<=9223372036854775807/\∀s∈l,Ab s)/\ds=[lD (l.map eD)]:=by
 obtain⟨es,he,h1,rfl⟩:=IE zaC h;obtain⟨l,hl,rfl⟩:=FF (λc=>zgu) h1;exact⟨l,⟨IG he,hl⟩,rfl⟩
theorem zla :L6 Tryz.prog 23=true:=by kernel_rfl
theorem zk9 :L6 Tryz.prog 26=false:=by kernel_rfl
end
section
variable {n : Nat} {ds : List D}
end
theorem zh6 :Tryz.prog.globalNamed "errors.errorType" =some 0:=by kernel_rfl
theorem zh3 :(Tryz.prog.cutTypes.find? (·.1== "internal/reflectlite.rtype")).map (·.2)=some 586:=by kernel_rfl
theorem zh4 :((List.range Tryz.prog.types.size).filter λt=>Tryz.prog.rowNamed t [101,114,114,111,114])=[354]:=by kernel_rfl
theorem zh5 {laid:List (String×DataW Unit)}(hm:("errors.errorType",Rows.laid_errors_errorType)∈laid){W:World}(h:laidMetH Tryz.prog laid W):W.cell? ⟨0,0,none⟩=some FT:=by
 have h':=(laidMetH_iff.1 h).2;obtain⟨name,u,ty,e1,e2,e3,e4,e5⟩:=h' _ (mX.2 ⟨hm,rfl⟩);have en:name=[101,114,114,111,114]:=(mW e1).symm;subst en;obtain rfl:=mW (zh3.symm.trans e2);have hm:ty∈(List.range Tryz.prog.types.size).filter λt=>Tryz.prog.rowNamed t [101,114,114,111,114]:=mX.2 ⟨JM.2 e3,e4⟩;rw[zh4]at hm;obtain rfl:=yA.1 hm;have hh:typeHandle Tryz.prog 354=.pointer (some ⟨4,354,none⟩):=by kernel_rfl
 rw[hh]at e5;simpa using World.var?_cell zh6 e5 0
theorem zjx {f:FuncId}{W:World}{vs:List Value}{avs:List AV}(hg:W.cell? ⟨0,0,none⟩=some FT)(h:eL i6 Tryz.prog f avs [] [] (.d (.v (.bool true))) [])(hr:F4 (λn=>n<W.heap.size) W avs vs):
  Calls Tryz.prog f vs.toArray W λe W'=>e=.returned (.bool true)/\Below W.heap.size W W':=by
 have h0:0<W.heap.size:=by
  rcases y9 0 W.heap.size with h|h
  ·exact h
  ·simp[World.cell?,T0 h]at hg
 refine(h BH (λn=>n<W.heap.size) W vs ⟨h0,hg⟩ (λ_ h=>h) hr.length hr.get ⟨λb k hb=>by simp[bB]at hb,λb b' k k' x x' n hb=>by simp[bB]at hb⟩ (λ_ _=>rfl)).mono λe W' ⟨v,σ',I',he,hp,hv⟩=>?_;cases hv with
 |d hd=>cases hd with
  |v=>exact⟨he,hp.os,hp.tape,hp.output.eq,hp.size,λk hk=>hp.frame k hk (by rintro⟨b,_,_,hb,_⟩;simp[bB]at hb)⟩
noncomputable def FR (os:Os):World:=
 let w0:=World.holding Tryz.prog os ⟨#[],#[],[]⟩
 {w0 with heap:=w0.heap.modify 0 fun
   |.cells _ t frozen=>.cells #[FT] t frozen
   |o=>o}
theorem zgc {os:Os}{laid:List (String×DataW Unit)}(args:Array Value)(hf:(FR os).layFits Tryz.prog laid []=true)(hi:(FR os).layIfaces Tryz.prog laid ((FR os).layVars Tryz.prog laid)=true):
  laidMet Tryz.prog laid (((FR os).layVars Tryz.prog laid).forCall (λ_ _=>0) ⟨#[],args,[]⟩).memory:=by
 have e1:(laid.filter λx=>(laid.map (·.1)).contains x.1)=laid:=JS.2 λx hx=>TT.2 (fU.2 ⟨x,hx,rfl⟩);have e2:(laid.filter λx=>!(laid.map (·.1)).contains x.1)=[]:=List.filter_eq_nil_iff.2 λx hx=>by rw[TT.2 (fU.2 ⟨x,hx,rfl⟩)];simp
 have h:laidMet Tryz.prog laid ((FR os).layVars Tryz.prog laid):=laidMet_layVars (w0:=FR os) (laid.map (·.1)) [] (by rw[e1]) (by rw[e1];exact hf) (by rw[e1];exact hi) (by rw[e2];exact LaidIn.none);exact h.of_heap (by simp[World.memory,World.forCall,Input.heap])
end Go.Proofs.YtobcmagefgdgdaaGreatDoor
