/-
  LAYER 24: the walks of what is not made, of the law's example, and of the law.
-/
import Derived.Test.YtmhfcgpmmghakaaGreatDoorWm
import Derived.Test.YtmhfcgpmmghakaaGreatDoorPq
import Derived.Test.YtmhfcgpmmghakaaGreatDoorWb
import Derived.Test.YtmhfcgpmmghakaaGreatDoorPl
import Derived.Test.YtmhfcgpmmghakaaGreatDoorWc
import Derived.Test.YtmhfcgpmmghakaaGreatDoorPs
import Derived.Test.YtmhfcgpmmghakaaGreatDoorWf
import Derived.LaidHandle
import Derived.LaidSub
import Derived.Lay
import Derived.Test.YtmhfcgpmmghakaaGreatDoorRows
set_option linter.unusedSimpArgs false
set_option linter.unusedVariables false
namespace Go.Proofs.YtmhfcgpmmghakaaGreatDoor
open Go.AI Go.G
set_option maxRecDepth 20000
abbrev zh6 : D := .pro [iD 0, iD 0, iD 0, iD 0, iD 0, .v (.slice none 0 0), .v (.slice none 0 0), iD 0]
abbrev zh8 : D := .v (.pointer none)
attribute [simp] Tryz.ntmps12 Tryz.results12
theorem zl0 : Ct Tryz.prog 12 [.d zh8] [] [] (int 0) [] := by
 refine Ct.B Tryz.func12 mixed 9999 400 ?_
 simp
 first | exact fin0 (by simp) rfl | exact zac (by simp)
attribute [simp] Tryz.ntmps22 Tryz.results22
theorem zqi (i : Int) : Ct Tryz.prog 22 [.d zh8, int i] [] [] (.d (.v (.pointer none))) [] := by
 refine Ct.B Tryz.func22 mixed 9999 400 ?_
 simp
 by_cases h1 : i < 0
 ·simp [h1]
  first | exact fin0 (by simp) rfl | exact zac (by simp)
 ·have h2 : 0 ≤ i := by omega
  simp [h1]
  refine CI.p zl0 Tryz.call12 9999 ?_
  simp
  simp [h2]
  first | exact fin0 (by simp) rfl | exact zac (by simp)
attribute [simp] Tryz.ntmps7 Tryz.results7
theorem qkv (s : MStep) : Ct Tryz.prog 7 [.d zh8, st (zbv s)] [] [] (st (zen (outE 15))) [] := by
 refine Ct.B Tryz.func7 mixed 9999 400 ?_
 simp
 refine CI.p zl0 Tryz.call12 9999 ?_
 simp
 first | exact fin0 (by simp [outE, zAns]) rfl | exact zac (by simp [outE, zAns])
attribute [simp] Tryz.ntmps8 Tryz.results8
theorem qk8 (i : Int) : Ct Tryz.prog 8 [.d zh8, int i] [] [] (.tup [st (zcc zoh), bool false]) [] := by
 refine Ct.B Tryz.func8 mixed 9999 400 ?_
 simp
 refine CI.p (zqi i) Tryz.call22 9999 ?_
 simp
 first | exact fin0 (by simp [zoh]) rfl | exact zac (by simp [zoh])
attribute [simp] Tryz.ntmps9 Tryz.results9
theorem qlf (i : Int) : Ct Tryz.prog 9 [.d zh8, int i] [] [] (.tup [st (zed zoi), bool false]) [] := by
 refine Ct.B Tryz.func9 mixed 9999 400 ?_
 simp
 refine CI.p (zqi i) Tryz.call22 9999 ?_
 simp
 first | exact fin0 (by simp [zoi, zView, zFrame]) rfl | exact zac (by simp [zoi, zView, zFrame])
attribute [simp] Tryz.ntmps10 Tryz.results10
theorem qoq (i : Int) : Ct Tryz.prog 10 [.d zh8, int i, int 0] [] [] (.tup [st (flkC ⟨0, []⟩), bool false]) [] := by
 refine Ct.B Tryz.func10 mixed 9999 400 ?_
 simp
 refine CI.p (zqi i) Tryz.call22 9999 ?_
 simp
 first | exact fin0 (by simp) rfl | exact zac (by simp)
attribute [simp] Tryz.ntmps11 Tryz.results11
theorem ql1 (i : Int) : Ct Tryz.prog 11 [.d zh8, int i] [] [] (.tup [st (zn9 zPool), bool false]) [] := by
 refine Ct.B Tryz.func11 mixed 9999 400 ?_
 simp
 refine CI.p (zqi i) Tryz.call22 9999 ?_
 simp
 first | exact fin0 (by simp [zPool]) rfl | exact zac (by simp [zPool])
attribute [simp] Tryz.ntmps13 Tryz.results13
theorem qmt : Ct Tryz.prog 13 [.d zh8] [] [] (int 0) [] := by
 refine Ct.B Tryz.func13 mixed 9999 400 ?_
 simp
 first | exact fin0 (by simp) rfl | exact zac (by simp)
attribute [simp] Tryz.ntmps14 Tryz.results14
theorem zzb : Ct Tryz.prog 14 [.d zh8] [] [] (bool false) [] := by
 refine Ct.B Tryz.func14 mixed 9999 400 ?_
 simp
 refine CI.p zl0 Tryz.call12 9999 ?_
 simp
 first | exact fin0 (by simp) rfl | exact zac (by simp)
attribute [simp] Tryz.ntmps15 Tryz.results15
theorem qf2 : Ct Tryz.prog 15 [.d zh8] [] [] (st [iD 0, lD []]) [] := by
 refine Ct.B Tryz.func15 mixed 9999 400 ?_
 simp
 first | exact fin0 (by simp) rfl | exact zac (by simp)
theorem zlz : Ct Tryz.prog 12 [.d zh6] [] [] (int 0) [] := by
 refine Ct.B Tryz.func12 mixed 9999 400 ?_
 simp
 first | exact fin0 (by simp) rfl | exact zac (by simp)
theorem zqh (i : Int) : Ct Tryz.prog 22 [.d zh6, int i] [] [] (.d (.v (.pointer none))) [] := by
 refine Ct.B Tryz.func22 mixed 9999 400 ?_
 simp
 by_cases h1 : i < 0
 ·simp [h1]
  first | exact fin0 (by simp) rfl | exact zac (by simp)
 ·have h2 : 0 ≤ i := by omega
  simp [h1]
  refine CI.p zlz Tryz.call12 9999 ?_
  simp
  simp [h2]
  first | exact fin0 (by simp) rfl | exact zac (by simp)
theorem qkq (s : MStep) : Ct Tryz.prog 7 [.d zh6, st (zbv s)] [] [] (st (zen (outE 15))) [] := by
 refine Ct.B Tryz.func7 mixed 9999 400 ?_
 simp
 refine CI.p zlz Tryz.call12 9999 ?_
 simp
 first | exact fin0 (by simp [outE, zAns]) rfl | exact zac (by simp [outE, zAns])
theorem qk7 (i : Int) : Ct Tryz.prog 8 [.d zh6, int i] [] [] (.tup [st (zcc zoh), bool false]) [] := by
 refine Ct.B Tryz.func8 mixed 9999 400 ?_
 simp
 refine CI.p (zqh i) Tryz.call22 9999 ?_
 simp
 first | exact fin0 (by simp [zoh]) rfl | exact zac (by simp [zoh])
theorem qle (i : Int) : Ct Tryz.prog 9 [.d zh6, int i] [] [] (.tup [st (zed zoi), bool false]) [] := by
 refine Ct.B Tryz.func9 mixed 9999 400 ?_
 simp
 refine CI.p (zqh i) Tryz.call22 9999 ?_
 simp
 first | exact fin0 (by simp [zoi, zView, zFrame]) rfl | exact zac (by simp [zoi, zView, zFrame])
theorem qop (i : Int) : Ct Tryz.prog 10 [.d zh6, int i, int 0] [] [] (.tup [st (flkC ⟨0, []⟩), bool false]) [] := by
 refine Ct.B Tryz.func10 mixed 9999 400 ?_
 simp
 refine CI.p (zqh i) Tryz.call22 9999 ?_
 simp
 first | exact fin0 (by simp) rfl | exact zac (by simp)
theorem ql0 (i : Int) : Ct Tryz.prog 11 [.d zh6, int i] [] [] (.tup [st (zn9 zPool), bool false]) [] := by
 refine Ct.B Tryz.func11 mixed 9999 400 ?_
 simp
 refine CI.p (zqh i) Tryz.call22 9999 ?_
 simp
 first | exact fin0 (by simp [zPool]) rfl | exact zac (by simp [zPool])
theorem qms : Ct Tryz.prog 13 [.d zh6] [] [] (int 0) [] := by
 refine Ct.B Tryz.func13 mixed 9999 400 ?_
 simp
 first | exact fin0 (by simp) rfl | exact zac (by simp)
theorem zza : Ct Tryz.prog 14 [.d zh6] [] [] (bool false) [] := by
 refine Ct.B Tryz.func14 mixed 9999 400 ?_
 simp
 refine CI.p zlz Tryz.call12 9999 ?_
 simp
 first | exact fin0 (by simp) rfl | exact zac (by simp)
theorem qf1 : Ct Tryz.prog 15 [.d zh6] [] [] (st [iD 0, lD []]) [] := by
 refine Ct.B Tryz.func15 mixed 9999 400 ?_
 simp
 first | exact fin0 (by simp) rfl | exact zac (by simp)
attribute [simp] Tryz.ntmps17 Tryz.results17
theorem qk5 : Ct Tryz.prog 17 [] [] [] (lst (smallL.map resC)) [] := by
 refine Ct.B Tryz.func17 mixed 9999 400 ?_
 simp
 refine CI.opG [256] 9999 400 rfl rfl (by first | exact .inl rfl | exact .inr ⟨_, _, rfl, by simp⟩ | exact .inr ⟨_, _, rfl, by simp [*]⟩) (by simp) ?_
 simp [zod, gvB]
 refine CI.opG [384, 576] 9999 400 rfl rfl (by first | exact .inl rfl | exact .inr ⟨_, _, rfl, by simp⟩ | exact .inr ⟨_, _, rfl, by simp [*]⟩) (by simp) ?_
 simp [zod, gvB]
 first | exact fin0 (by simp [smallL]) rfl | exact zac (by simp [smallL])
attribute [simp] Tryz.ntmps19 Tryz.results19
theorem qni (s : MStep) (ha : OkRs s.adds) : Ct Tryz.prog 19 [lst [zbv s]] [] [] (bool (zjx s)) [] := by
 refine Ct.B Tryz.func19 mixed 9999 400 ?_
 simp
 have ea := zay s.a.host
 have eb := zay s.a.path
 refine LoopI.unroll mixed (Plain.retC _ _ _ _ _) rfl ?_
 refine CI.run 9999 400 rfl ?_
 simp
 refine CI.p (qsh s.adds ha) Tryz.call29 9999 ?_
 simp
 cases h1 : fewL s.adds with
 | false =>
   simp [h1]
   first | exact fin0 (by simp [zjx, h1]) rfl | exact zac (by simp [zjx, h1])
 | true =>
   by_cases h2 : s.gone.length ≤ 80
   ·have h2' : ¬ (80 : Int) < s.gone.length := by omega
    by_cases h3 : (bs s.a.host).length ≤ 100
    ·have h3' : ¬ (100 : Int) < (bs s.a.host).length := by omega
     by_cases h4 : (bs s.a.path).length ≤ 100
     ·have h4' : ¬ (100 : Int) < (bs s.a.path).length := by omega
      simp [h1, h2', ea, eb, h3', h4']
      refine LoopI.unroll mixed (Plain.retC _ _ _ _ _) rfl ?_
      refine CI.run 9999 400 rfl ?_
      simp
      first | exact fin0 (by simp [zjx, h1, h2, h3, h4]) rfl | exact zac (by simp [zjx, h1, h2, h3, h4])
     ·have h4' : (100 : Int) < (bs s.a.path).length := by omega
      simp [h1, h2', ea, eb, h3', h4']
      first | exact fin0 (by simp [zjx, h1, h2, h3, h4]) rfl | exact zac (by simp [zjx, h1, h2, h3, h4])
    ·have h3' : (100 : Int) < (bs s.a.host).length := by omega
     simp [h1, h2', ea, eb, h3']
     first | exact fin0 (by simp [zjx, h1, h2, h3]) rfl | exact zac (by simp [zjx, h1, h2, h3])
   ·have h2' : (80 : Int) < s.gone.length := by omega
    simp [h1, h2']
    first | exact fin0 (by simp [zjx, h1, h2]) rfl | exact zac (by simp [zjx, h1, h2])
attribute [simp] Tryz.ntmps5 Tryz.results5
theorem qnh (s : MStep) (ha : OkRs s.adds) : Ct Tryz.prog 5 [lst [zbv s]] [] [] (bool (zjx s)) [] := by
 refine Ct.B Tryz.func5 mixed 9999 400 ?_
 simp
 refine CI.p (qni s ha) Tryz.call19 9999 ?_
 simp
 cases h1 : zjx s with
 | false =>
   simp [h1]
   first | exact fin0 (by simp [h1]) rfl | exact zac (by simp [h1])
 | true =>
   simp [h1]
   first | exact fin0 (by simp [h1]) rfl | exact zac (by simp [h1])
attribute [simp] Tryz.ntmps6 Tryz.results6
theorem qf3 (s : MStep) : Ct Tryz.prog 6 [lst [zbv s]] [] [] (lst [zbv s]) [] := by
 refine Ct.B Tryz.func6 mixed 9999 400 ?_
 simp
 refine LoopI.unroll mixed (Plain.retC _ _ _ _ _) rfl ?_
 refine CI.run 9999 400 rfl ?_
 simp
 refine ⟨by decide +kernel, ?_⟩
 refine LoopI.unroll mixed (Plain.retC _ _ _ _ _) rfl ?_
 refine CI.run 9999 400 rfl ?_
 simp
 first | exact fin0 (by simp) rfl | exact zac (by simp)
end Go.Proofs.YtmhfcgpmmghakaaGreatDoor
namespace Go.Proofs.YtmhfcgpmmghakaaGreatDoor
open Go.AI Go.G
set_option maxRecDepth 20000
set_option maxHeartbeats 4000000
abbrev BN (M : G.Mesh) : List (Nat × Blk) := [(64, .cells [int M.c.sides, int M.c.cap, int M.c.limit, int M.c.max, int M.p.cap, lst (M.p.hist.map rsC), .own 65, int M.lost] 39), (65, .grp [66] 96), qmg 66 (nth M 0)]
theorem qp9 : Ct Tryz.prog 16 [st (cfgC ⟨1, 9, 9, 99⟩)] [] [] (.ptr 64 0) (BN aM0) := qp8
theorem s5a : CtJ errG Tryz.prog 7 [.ptr 0 0, st [iD 5, iD 0, iD 0, iD 0, lD [], lD [], iD 0, sD ⟨#[]⟩, sD ⟨#[]⟩, iD 0, iD 0]] [] (B1 aM0) (st (zen (zc7 aM0 sRen).2)) (B1 aM1) := qky aM0 sRen 0 len0 okA0 (by omega) rfl rfl
theorem s0a : CtJ errG Tryz.prog 7 [.ptr 0 0, st [iD 0, iD 0, iD 0, iD 0, lD (smallL.map resC), lD [], iD 0, sD ⟨#[]⟩, sD ⟨#[]⟩, iD 0, iD 0]] [] (B1 aM1) (st (zen aO2)) (B1 aM2) := qkz aM1 sUpd 12 len1 okA1 (by omega) qji rfl
theorem s7a : CtJ errG Tryz.prog 7 [.ptr 0 0, st [iD 7, iD 0, iD 0, iD 0, lD [], lD [], iD 80, sD ⟨#[104]⟩, sD ⟨#[47]⟩, iD 0, iD 0]] [] (B1 aM3) (st (zen aO4)) (B1 aM4) := qkx aM3 sBeg 10000 len3 okA3 (by omega) rfl rfl
theorem s8a (k : Nat) (hk : k ≤ 10) : CtJ errG Tryz.prog 7 [.ptr 0 0, st [iD 8, iD 0, iD 0, iD 0, lD [], lD [], iD 0, sD ⟨#[]⟩, sD ⟨#[]⟩, iD 0, iD 0]] [] (B1 (aG k)) (st (zen (aO (k + 1)))) (B1 (aG (k + 1))) := qkw (aG k) sGo _ (lenG k) (okG k) (by omega) rfl rfl
theorem b8a : CtJ errG Tryz.prog 18 [.ptr 0 0, int 8] [] (B1 aM2) (.tup []) (B1 aM3) := qiq aM2 8 24 len2 okA2 (by omega) (by omega)
attribute [simp] Tryz.ntmps4 Tryz.results4
theorem qoa : CtJ errG Tryz.prog 4 [] [] [] (bool true) [] := by
 refine CtJ.B errK Tryz.func4 mixed 9999 400 ?_
 simp
 refine CI.cc [] qp9 Tryz.call16 9999 ?_
 simp
 refine CI.j [192,193,194] s5a Tryz.call7 9999 ?_
 simp
 refine CI.p qk5 Tryz.call17 9999 ?_
 simp
 refine CI.j [192,193,194] s0a Tryz.call7 9999 ?_
 simp
 refine CI.j [192,193,194] b8a Tryz.call18 9999 ?_
 simp
 refine CI.j [192,193,194] s7a Tryz.call7 9999 ?_
 simp
 rw [show aM4 = aG 0 from rfl]
 refine LoopI.rounds 6 ?_
 refine RoundsI.step mixed rfl ?_
 refine CI.run 9999 400 rfl ?_
 simp
 refine CI.j [192,193,194] (s8a 0 (by omega)) Tryz.call7 9999 ?_
 simp
 refine RoundsI.step mixed rfl ?_
 refine CI.run 9999 400 rfl ?_
 simp
 refine CI.j [192,193,194] (s8a 1 (by omega)) Tryz.call7 9999 ?_
 simp
 refine RoundsI.step mixed rfl ?_
 refine CI.run 9999 400 rfl ?_
 simp
 refine CI.j [192,193,194] (s8a 2 (by omega)) Tryz.call7 9999 ?_
 simp
 refine RoundsI.step mixed rfl ?_
 refine CI.run 9999 400 rfl ?_
 simp
 refine CI.j [192,193,194] (s8a 3 (by omega)) Tryz.call7 9999 ?_
 simp
 refine RoundsI.step mixed rfl ?_
 refine CI.run 9999 400 rfl ?_
 simp
 refine CI.j [192,193,194] (s8a 4 (by omega)) Tryz.call7 9999 ?_
 simp
 have a1 : (aO 5).n = 1 := aw5.1
 have a2 : (aO 5).ans.what = 3 := by rw [aw5.2]
 have a3 : (aO 5).ans.cluster = ⟨#[99]⟩ := by rw [aw5.2]
 have a4 : (aO 5).ans.host = 7 := by rw [aw5.2]
 refine RoundsI.step mixed rfl ?_
 refine CI.run 9999 400 rfl ?_
 simp [qsr, qsq, a1, a2, a3, a4]
 refine CI.cc [192,193,194] (zzc (aG 5) _ (lenG 5) (okG 5)) Tryz.call14 9999 ?_
 simp
 first | exact fin0 (by simp [aw6]) rfl | exact zac (by simp [aw6])
end Go.Proofs.YtmhfcgpmmghakaaGreatDoor
namespace Go.Proofs.YtmhfcgpmmghakaaGreatDoor
open Go.AI Go.G
set_option maxRecDepth 20000
set_option maxHeartbeats 4000000
attribute [simp] Tryz.ntmps3 Tryz.results3
theorem zzu (s : MStep) (i : Int) (hs : OkMA s) : CtJ errG Tryz.prog 3 [st (zbv s), int i] [] [] (bool true) [] := by
 refine CtJ.B errK Tryz.func3 mixed 9999 400 ?_
 simp
 refine CI.j [] qoa Tryz.call4 9999 ?_
 simp
 refine CI.g [384] [] (qnh s hs.adds) Tryz.call5 9999 ?_
 simp
 cases h1 : zjx s with
 | false =>
   simp [h1]
   first | exact fin0 (by simp) rfl | exact zac (by simp)
 | true =>
   simp [h1]
   refine CI.opG [768] 9999 400 rfl rfl (by first | exact .inl rfl | exact .inr ⟨_, _, rfl, by simp⟩ | exact .inr ⟨_, _, rfl, by simp [*]⟩) (by simp) ?_
   simp [zod, gvB]
   refine CI.g [1024] [] (qf3 s) Tryz.call6 9999 ?_
   simp
   refine LoopI.rounds 3 ?_
   refine RoundsI.step mixed rfl ?_
   refine CI.run 9999 400 rfl ?_
   simp
   refine CI.p (qkv s) Tryz.call7 9999 ?_
   simp
   refine ⟨by decide +kernel, ?_⟩
   refine CI.p (qk8 i) Tryz.call8 9999 ?_
   simp
   refine CI.p (qlf i) Tryz.call9 9999 ?_
   simp
   refine CI.p (qoq i) Tryz.call10 9999 ?_
   simp
   refine CI.p (ql1 i) Tryz.call11 9999 ?_
   simp
   simp [outE]
   refine CI.p zl0 Tryz.call12 9999 ?_
   simp
   refine CI.p qmt Tryz.call13 9999 ?_
   simp
   refine CI.p zzb Tryz.call14 9999 ?_
   simp
   refine CI.p qf2 Tryz.call15 9999 ?_
   simp
   refine RoundsI.step mixed rfl ?_
   refine CI.run 9999 400 rfl ?_
   simp
   refine CI.p (qkq s) Tryz.call7 9999 ?_
   simp
   refine ⟨by decide +kernel, ?_⟩
   refine CI.p (qk7 i) Tryz.call8 9999 ?_
   simp
   refine CI.p (qle i) Tryz.call9 9999 ?_
   simp
   refine CI.p (qop i) Tryz.call10 9999 ?_
   simp
   refine CI.p (ql0 i) Tryz.call11 9999 ?_
   simp
   simp [outE]
   refine CI.p zlz Tryz.call12 9999 ?_
   simp
   refine CI.p qms Tryz.call13 9999 ?_
   simp
   refine CI.p zza Tryz.call14 9999 ?_
   simp
   refine CI.p qf1 Tryz.call15 9999 ?_
   simp
   refine RoundsI.step mixed rfl ?_
   refine CI.run 9999 400 rfl ?_
   simp
   first | exact fin0 (by simp) rfl | exact zac (by simp)
end Go.Proofs.YtmhfcgpmmghakaaGreatDoor
namespace Go.Proofs.YtmhfcgpmmghakaaGreatDoor
open Go.ChangeShapes Go.WideShapes Go.ChangeAt Go.RowKit Go.AI Go.G
set_option maxRecDepth 20000
theorem qo2 : shT Tryz.prog 25 = .st [3, 9, 9, 3, 3] := by kernel_rfl
theorem qge : shT Tryz.prog 27 = .st [3, 3, 3, 3, 22, 23, 25] := by kernel_rfl
section
variable {n : Nat} {ds : List D}
theorem qqk (h : Is Tryz.prog (n + 2) 25 ds) : ∃ a : G.Ask, (nB a.host ∧ nB a.path) ∧ ds = askC a := by
 obtain ⟨_, _, h1, g1, rfl⟩ := zao (zzz qo2 h)
 obtain ⟨_, _, h2, g2, rfl⟩ := zao g1
 obtain ⟨_, _, h3, g3, rfl⟩ := zao g2
 obtain ⟨_, _, h4, g4, rfl⟩ := zao g3
 obtain ⟨_, _, h5, g5, rfl⟩ := zao g4
 obtain rfl := zko g5
 obtain ⟨a, _, rfl⟩ := zfh ze6 h1
 obtain ⟨b, hb, rfl⟩ := zle zk1 h2
 obtain ⟨c, hc, rfl⟩ := zle zk1 h3
 obtain ⟨d, _, rfl⟩ := zfh ze6 h4
 obtain ⟨e, _, rfl⟩ := zfh ze6 h5
 exact ⟨⟨a, b, c, d, e⟩, ⟨zz0 hb, zz0 hc⟩, rfl⟩
theorem qhr (h : Is Tryz.prog (n + 9) 27 ds) : ∃ s : MStep, OkMA s ∧ ds = zbv s := by
 obtain ⟨_, _, h1, g1, rfl⟩ := zao (zzz qge h)
 obtain ⟨_, _, h2, g2, rfl⟩ := zao g1
 obtain ⟨_, _, h3, g3, rfl⟩ := zao g2
 obtain ⟨_, _, h4, g4, rfl⟩ := zao g3
 obtain ⟨_, _, h5, g5, rfl⟩ := zao g4
 obtain ⟨_, _, h6, g6, rfl⟩ := zao g5
 obtain ⟨_, _, h7, g7, rfl⟩ := zao g6
 obtain rfl := zko g7
 obtain ⟨a, _, rfl⟩ := zfh ze6 h1
 obtain ⟨b, _, rfl⟩ := zfh ze6 h2
 obtain ⟨c, _, rfl⟩ := zfh ze6 h3
 obtain ⟨d, _, rfl⟩ := zfh ze6 h4
 obtain ⟨l, hl, rfl⟩ := qm3 h5
 obtain ⟨k, hk, rfl⟩ := qm4 h6
 obtain ⟨q, hq, rfl⟩ := qqk h7
 exact ⟨⟨a, b, c, d, l, k, q⟩, ⟨hl, hk.1, hq.1, hq.2⟩, by simp⟩
theorem qi2 : aggT Tryz.prog 27 = true := by kernel_rfl
end
end Go.Proofs.YtmhfcgpmmghakaaGreatDoor
namespace Go.Proofs.YtmhfcgpmmghakaaGreatDoor
open Go.ChangeShapes Go.WideShapes Go.ChangeAt Go.RowKit Go.AI Go.G
set_option maxRecDepth 20000
section
variable {n : Nat} {ds : List D}
end
theorem qq0 : Tryz.prog.globalNamed "errors.errorType" = some 0 := by kernel_rfl
theorem err_rt : (Tryz.prog.cutTypes.find? (·.1 == "internal/reflectlite.rtype")).map (·.2) = some 359 := by kernel_rfl
theorem qnj : ((List.range Tryz.prog.types.size).filter fun t => Tryz.prog.rowNamed t [101, 114, 114, 111, 114]) = [169] := by kernel_rfl
theorem zv7 {laid : List (String × DataW Unit)} (hm : ("errors.errorType", Rows.laid_errors_errorType) ∈ laid) {W : World} (h : laidMetH Tryz.prog laid W) : W.cell? ⟨0, 0, none⟩ = some errV := by
 have h' := (laidMetH_iff.1 h).2
 obtain ⟨name, u, ty, e1, e2, e3, e4, e5⟩ := h' _ (List.mem_filter.2 ⟨hm, rfl⟩)
 have en : name = [101, 114, 114, 111, 114] := (Option.some.inj e1).symm
 subst en
 obtain rfl := Option.some.inj (err_rt.symm.trans e2)
 have hm : ty ∈ (List.range Tryz.prog.types.size).filter fun t => Tryz.prog.rowNamed t [101, 114, 114, 111, 114] := List.mem_filter.2 ⟨List.mem_range.2 e3, e4⟩
 rw [qnj] at hm
 obtain rfl := List.mem_singleton.1 hm
 have hh : typeHandle Tryz.prog 169 = .pointer (some ⟨4, 169, none⟩) := by kernel_rfl
 rw [hh] at e5
 simpa using World.var?_cell qq0 e5 0
theorem zui {f : FuncId} {W : World} {vs : List Value} {avs : List AV} (hg : W.cell? ⟨0, 0, none⟩ = some errV) (h : CtJ errG Tryz.prog f avs [] [] (.d (.v (.bool true))) []) (hr : RVs (fun n => n < W.heap.size) W avs vs) :
  Calls Tryz.prog f vs.toArray W fun e W' => e = .returned (.bool true) ∧ Below W.heap.size W W' := by
 have h0 : 0 < W.heap.size := by
  rcases Nat.eq_zero_or_pos W.heap.size with h0 | h
  ·simp [World.cell?, h0] at hg
  ·exact h
 refine (h noN (fun n => n < W.heap.size) W vs ⟨h0, hg⟩ (fun _ h => h) hr.length hr.get ⟨fun b k hb => by simp [zab] at hb, fun b b' k k' x x' n hb => by simp [zab] at hb⟩ (fun _ _ => rfl)).mono fun e W' ⟨v, σ', I', he, hp, hv⟩ => ?_
 cases hv with
 | d hd => cases hd with
   | v => exact ⟨he, hp.os, hp.tape, hp.output.eq, hp.size, fun k hk => hp.frame k hk (by rintro ⟨b, _, _, hb, _⟩; simp [zab] at hb)⟩
noncomputable def errW (os : Os) : World :=
 let w0 := World.holding Tryz.prog os ⟨#[], #[], []⟩
 { w0 with heap := w0.heap.modify 0 fun
    | .cells _ t frozen => .cells #[errV] t frozen
    | o => o }
theorem ztq {os : Os} {laid : List (String × DataW Unit)} (args : Array Value) (hf : (errW os).layFits Tryz.prog laid [] = true) (hi : (errW os).layIfaces Tryz.prog laid ((errW os).layVars Tryz.prog laid) = true) :
  laidMet Tryz.prog laid (((errW os).layVars Tryz.prog laid).forCall (fun _ _ => 0) ⟨#[], args, []⟩).memory := by
 have e1 : (laid.filter fun x => (laid.map (·.1)).contains x.1) = laid := List.filter_eq_self.2 fun x hx => List.contains_iff_mem.2 (List.mem_map.2 ⟨x, hx, rfl⟩)
 have e2 : (laid.filter fun x => !(laid.map (·.1)).contains x.1) = [] := List.filter_eq_nil_iff.2 fun x hx => by rw [List.contains_iff_mem.2 (List.mem_map.2 ⟨x, hx, rfl⟩)]; simp
 have h : laidMet Tryz.prog laid ((errW os).layVars Tryz.prog laid) := laidMet_layVars (w0 := errW os) (laid.map (·.1)) [] (by rw [e1]) (by rw [e1]; exact hf) (by rw [e1]; exact hi) (by rw [e2]; exact LaidIn.none)
 exact h.of_heap (by simp [World.memory, World.forCall, Input.heap])
end Go.Proofs.YtmhfcgpmmghakaaGreatDoor
