/-
  ServerIs, walked
-/
import Derived.Test.YtelooagbkmpdpaaGreatDoorWh
import Derived.Test.YtelooagbkmpdpaaGreatDoorRa
set_option linter.unusedSimpArgs false
set_option linter.unusedVariables false
set_option maxRecDepth 100000
set_option maxHeartbeats 8000000
namespace Go.Proofs.YtelooagbkmpdpaaGreatDoor
open Go.AI Go.G
attribute [simp] Tryz.ntmps3 Tryz.results3
theorem SC (s:bM)(p:aZ)(f:G.Frame)(hs:gO s)(hp:iS p)(hf:eD f):gV sE Tryz.prog 3 [st (dB s),st (dI p),st (bU f)] [] [] (bool true) []:=by
 refine gV.B BE Tryz.func3 ?_;simp;refine CI.j [] Ek ?_;simp;refine CI.p (Ay s p hs hp) ?_;simp;refine aM (λh1=>?_) (λh1=>?_)<;>simp only[h1]<;>simp
 ·first|exact aA (by simp) rfl|exact aB (by simp)
 refine CI.p (M6 f hf) ?_;simp;refine aE (λh2=>?_) (λh2=>?_)<;>simp only[h2]<;>simp
 ·first|exact aA (by simp) rfl|exact aB (by simp)
 have h1':n9 10 p=true/\oY s.v=true:=by simpa using h1
 have h2':mT f=true:=by simpa using h2
 have b1:=Av h1'.2;have b2:=M7 h2';have b3:=Aw h1'.1;have b4:=b3.2;have c1:=b1.push.aI;have c2:=b1.aI;have c3:=b2.aI;have hn:=WV b3.1;have hc:=L9 s p f hs (by omega) hf hp (by omega);have hr:=ZO s p f hs.v.held hs.v.push (by omega) hf hp (by omega);obtain⟨q1,q2⟩:=ZR f hs hp c1;have hP:=JB s p hs (by omega) (by omega) (by omega);have hQ:=UL s p hs (by omega) (by omega) (by omega);obtain⟨q3,q4,q5,q6⟩:=UM hs (WM hp) c1;obtain⟨q7,q8⟩:=TO hs c1;rcases hq1:handle s p f with⟨t,e⟩
 rcases hq2:nD s p with⟨u,l,g⟩
 rw[hq1]at hc hr q1 q2;rw[hq2]at hP hQ q3 q4 q5 q6;dsimp only at hc hr hP hQ q1 q2 q3 q4 q5 q6;refine CI.p (SA s (by omega)) ?_;simp;refine CI.p (C3 p) ?_;simp;refine CI.p (MR f (by omega)) ?_;simp;refine CI.p hc ?_;simp;refine⟨by decide+kernel,?_⟩;refine CI.p hr ?_;simp;refine CI.p (C3 p) ?_;simp;refine CI.p hP ?_;simp;refine⟨by decide+kernel,?_⟩;refine CI.p hQ ?_;simp;refine CI.p (E3 t (by omega)) ?_;simp;refine CI.p (DE t t q1) ?_;simp;refine CI.p (E3 u (by omega)) ?_;simp;refine CI.p (DE u u q3) ?_;simp;refine CI.p (LD l (by omega) (λf hf=>cD (q6 f hf).2 (by omega))) ?_;simp;refine CI.p (MP l l (by omega) (λf hf=>(q6 f hf).1)) ?_;simp;refine CI.p (HY s hs (by omega)) ?_;simp;refine CI.p (HU s hs.v.held hs.v.push (by omega)) ?_;simp;refine CI.p (IJ s hs (by omega)) ?_;simp;refine CI.p (LD (kZ s) (by omega) (λf hf=>cD (q8 f hf).2 (by omega))) ?_;simp;refine CI.p (TN s hs (by omega)) ?_;simp;refine CI.p (MP (kZ s) (kZ s) (by omega) (λf hf=>(q8 f hf).1)) ?_;simp;refine CI.p (C3 p) ?_;simp;refine CI.p (R8 s p hs (by omega) (by omega)) ?_;simp;refine CI.p (R9 s p hs (by omega) (by omega)) ?_;simp;refine CI.p (D1 f.cA f.eY) ?_;simp;refine CI.p (E3 (hX f.cA f.eY) (by simp[hX,j7,cV])) ?_;simp;refine CI.p (KH f.cA f.eY) ?_;simp;refine CI.p (DE (hX f.cA f.eY) (hX f.cA f.eY) ⟨yP⟩) ?_;simp;first|exact aA (by simp) rfl|exact aB (by simp)
end Go.Proofs.YtelooagbkmpdpaaGreatDoor
