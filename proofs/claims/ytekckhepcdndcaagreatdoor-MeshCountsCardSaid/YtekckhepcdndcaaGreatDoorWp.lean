/-
  LAYER 24: the walks of a mesh of one to four sides, read.
-/
import Derived.Test.YtekckhepcdndcaaGreatDoorWo
import Derived.Test.YtekckhepcdndcaaGreatDoorWn
set_option linter.unusedSimpArgs false
set_option linter.unusedVariables false
namespace Go.Proofs.YtekckhepcdndcaaGreatDoor
open Go.AI Go.G
set_option maxRecDepth 20000
set_option maxHeartbeats 8000000
attribute [simp] Tryz.ntmps12 Tryz.results12 Tryz.ntmps15 Tryz.results15
theorem qwm (c:Cfg)(p:Store)(lost:Int)(ks:List (List D))(k_ w:Int)(i:Nat)(n:G.Node)(h4:ks.length≤4)(hi:ks[i]? =some (zb5 n))(hk:k_=i)(hw:w=0∨w=1):Ct Tryz.prog 12 [.ptr 0 0,int k_,int w] (BC c p lost ks) [] (.tup [st (flkC (wayN n w)),bool true]) []:=by
 have hl:i<ks.length:=(List.getElem?_eq_some_iff.1 hi).1;have h1:1≤ks.length:=by omega
 have e:i=0∨i=1∨i=2∨i=3:=by omega
 rcases four h1 h4 with⟨a,x⟩|⟨a,b,x⟩|⟨a,b,d,x⟩|⟨a,b,d,f,x⟩<;>subst x<;>rcases e with x|x|x|x<;>subst x
 all_goals first
  | (exfalso;simp at hl;done)
  |skip
 all_goals
  simp only[List.getElem?_cons_zero,List.getElem?_cons_succ,Option.some.injEq]at hi;subst hi;rcases hw with rfl|rfl
 all_goals
  refine Ct.B Tryz.func12 mixed 9999 400 ?_;simp;refine CI.cc [0,1,2,3,4,5] (zpe c p lost _ k_ _ hk hl h4) Tryz.call31 9999 ?_;simp;first| (refine⟨[],?_,?_,?_,?_,?_,?_,?_⟩<;>simp[nmF,inB,wayN];done)| (refine⟨by decide+kernel,?_⟩;refine⟨[],?_,?_,?_,?_,?_,?_,?_⟩<;>simp[nmF,inB,wayN])
theorem qnd (c:Cfg)(p:Store)(lost:Int)(ks:List (List D))(k_:Int)(i:Nat)(n:G.Node)(h4:ks.length≤4)(hi:ks[i]? =some (zb5 n))(hk:k_=i):Ct Tryz.prog 15 [.ptr 0 0,int k_] (BC c p lost ks) [] (.tup [st (zfj n.sess),bool true]) []:=by
 have hl:i<ks.length:=(List.getElem?_eq_some_iff.1 hi).1;have h1:1≤ks.length:=by omega
 have e:i=0∨i=1∨i=2∨i=3:=by omega
 rcases four h1 h4 with⟨a,x⟩|⟨a,b,x⟩|⟨a,b,d,x⟩|⟨a,b,d,f,x⟩<;>subst x<;>rcases e with x|x|x|x<;>subst x
 all_goals first
  | (exfalso;simp at hl;done)
  |skip
 all_goals
  simp only[List.getElem?_cons_zero,List.getElem?_cons_succ,Option.some.injEq]at hi;subst hi;refine Ct.B Tryz.func15 mixed 9999 400 ?_;simp;refine CI.cc [0,1,2,3,4,5] (zpe c p lost _ k_ _ hk hl h4) Tryz.call31 9999 ?_;simp;first| (refine⟨[],?_,?_,?_,?_,?_,?_,?_⟩<;>simp[nmF,inB];done)| (refine⟨by decide+kernel,?_⟩;refine⟨[],?_,?_,?_,?_,?_,?_,?_⟩<;>simp[nmF,inB])
end Go.Proofs.YtekckhepcdndcaaGreatDoor
namespace Go.Proofs.YtekckhepcdndcaaGreatDoor
open Go.AI Go.G
set_option maxRecDepth 20000
set_option maxHeartbeats 8000000
attribute [simp] Tryz.ntmps21 Tryz.results21
theorem qtn (c:Cfg)(p:Store)(lost:Int)(ks:List (List D))(k_:Int)(i:Nat)(n:G.Node)(h4:ks.length≤4)(hi:ks[i]? =some (zb5 n))(hk:k_=i):Ct Tryz.prog 21 [.ptr 0 0,int k_] (BC c p lost ks) [] (.tup [st (zdc n.side),bool true]) []:=by
 have hl:i<ks.length:=(List.getElem?_eq_some_iff.1 hi).1;have h1:1≤ks.length:=by omega
 have e:i=0∨i=1∨i=2∨i=3:=by omega
 rcases four h1 h4 with⟨a,x⟩|⟨a,b,x⟩|⟨a,b,d,x⟩|⟨a,b,d,f,x⟩<;>subst x<;>rcases e with x|x|x|x<;>subst x
 all_goals first
  | (exfalso;simp at hl;done)
  |skip
 all_goals
  simp only[List.getElem?_cons_zero,List.getElem?_cons_succ,Option.some.injEq]at hi;subst hi;refine Ct.B Tryz.func21 mixed 9999 400 ?_;simp;refine CI.cc [0,1,2,3,4,5] (zpe c p lost _ k_ _ hk hl h4) Tryz.call31 9999 ?_;simp;first| (refine⟨[],?_,?_,?_,?_,?_,?_,?_⟩<;>simp[nmF,inB];done)| (refine⟨by decide+kernel,?_⟩;refine⟨[],?_,?_,?_,?_,?_,?_,?_⟩<;>simp[nmF,inB])
end Go.Proofs.YtekckhepcdndcaaGreatDoor
