/-
  The evaluator computes what the plain functions say.
-/
import Derived.Test.YtnegfdebjikfiaaGreatRbs
import Derived.Test.YtnegfdebjikfiaaGreatSuTb
import Derived.Test.YtnegfdebjikfiaaGreatEC01
import Derived.Test.YtnegfdebjikfiaaGreatND03
import Derived.Test.YtnegfdebjikfiaaGreatND08
import Derived.Test.YtnegfdebjikfiaaGreatND11
import Derived.Test.YtnegfdebjikfiaaGreatRcs
import Derived.Test.YtnegfdebjikfiaaGreatND13
import Derived.Test.YtnegfdebjikfiaaGreatRsm
import Derived.Test.YtnegfdebjikfiaaGreatNC23
import Derived.Test.YtnegfdebjikfiaaGreatND18
import Derived.Test.YtnegfdebjikfiaaGreatND21
import Derived.Test.YtnegfdebjikfiaaGreatSuP0
import Derived.ChangeSame
import Derived.ChangeOld
import Derived.DataReads
import Derived.Test.YtnegfdebjikfiaaGreatSuE
import Derived.RowKit
import Derived.Test.YtnegfdebjikfiaaGreatFlyM
set_option maxRecDepth 10000
section
namespace Su
open Go Go.Proofs Fly
set_option maxRecDepth 100000
theorem bOf_eq (fu : Nat) (l : (List Int)) : shFn tb pr_D01 (shN tb pr_D01 fu 9) fu 160 ((d1 (cQ 2 1)).enc (l)) ((d1 (cQ 4 1))).dec = bOf fu l := by kernel_rfl
noncomputable def bOf_p : PrimD := prim (d1 (cQ 2 1)) (d1 (cQ 4 1)) (bOf_s)
theorem bOf_c : Ok1 Tryz.prog tb btsOK.sound 160 bOf_p := prim_ok k_ok pr_D01_ok (by kernel_rfl) fun a y hg h => by
  obtain ⟨n, hn⟩ := bOf_ok a y hg h
  exact ⟨n, 9, n, (bOf_eq n a).trans hn⟩
theorem bAdd_eq (fu : Nat) (a : (List Bool)) (b : (List Bool)) : shFn tb pr_D01 (shN tb pr_D01 fu 9) fu 133 ((dc (cQ 4 1) (d1 (cQ 4 1))).enc (a, b)) ((d1 (cQ 4 1))).dec = bAdd fu a b := by kernel_rfl
noncomputable def bAdd_p : PrimD := prim (dc (cQ 4 1) (d1 (cQ 4 1))) (d1 (cQ 4 1)) (bAdd_s)
theorem bAdd_c : Ok1 Tryz.prog tb btsOK.sound 133 bAdd_p := prim_ok k_ok pr_D01_ok (by kernel_rfl) fun a y hg h => by
  obtain ⟨n, hn⟩ := bAdd_ok a y hg h
  exact ⟨n, 9, n, (bAdd_eq n a.1 a.2).trans hn⟩
theorem bCmp_eq (fu : Nat) (a : (List Bool)) (b : (List Bool)) : shFn tb pr_D01 (shN tb pr_D01 fu 9) fu 134 ((dc (cQ 4 1) (d1 (cQ 4 1))).enc (a, b)) ((d1 (cI .i64))).dec = bCmp fu a b := by kernel_rfl
noncomputable def bCmp_p : PrimD := prim (dc (cQ 4 1) (d1 (cQ 4 1))) (d1 (cI .i64)) (bCmp_s)
theorem bCmp_c : Ok1 Tryz.prog tb btsOK.sound 134 bCmp_p := prim_ok k_ok pr_D01_ok (by kernel_rfl) fun a y hg h => by
  obtain ⟨n, hn⟩ := bCmp_ok a y hg h
  exact ⟨n, 9, n, (bCmp_eq n a.1 a.2).trans hn⟩
theorem bSub_eq (fu : Nat) (a : (List Bool)) (b : (List Bool)) (n : Int) : shFn tb pr_D01 (shN tb pr_D01 fu 9) fu 135 ((dc (cQ 4 1) (dc (cQ 4 1) (d1 (cI .i64)))).enc (a, b, n)) ((dc (cQ 4 1) (d1 cB))).dec = bSub fu a b n := by kernel_rfl
noncomputable def bSub_p : PrimD := prim (dc (cQ 4 1) (dc (cQ 4 1) (d1 (cI .i64)))) (dc (cQ 4 1) (d1 cB)) (bSub_s)
theorem bSub_c : Ok1 Tryz.prog tb btsOK.sound 135 bSub_p := prim_ok k_ok pr_D01_ok (by kernel_rfl) fun a y hg h => by
  obtain ⟨n, hn⟩ := bSub_ok a y hg h
  exact ⟨n, 9, n, (bSub_eq n a.1 a.2.1 a.2.2).trans hn⟩
noncomputable def pr_D02 : Prims := extL [(160, bOf_p), (133, bAdd_p), (134, bCmp_p), (135, bSub_p)] pr_D01
theorem pr_D02_ok : PrimOK Tryz.prog tb btsOK.sound pr_D02 := extL_ok pr_D01_ok (ok_cons bOf_c (ok_cons bAdd_c (ok_cons bCmp_c (ok_cons bSub_c ok_nil))))
end Su
end
section
namespace Su
open Go Go.Proofs Fly
set_option maxRecDepth 100000
theorem bMul_eq (fu : Nat) (a : (List Bool)) (b : (List Bool)) : shFn tb pr_D02 (shN tb pr_D02 fu 9) fu 140 ((dc (cQ 4 1) (d1 (cQ 4 1))).enc (a, b)) ((d1 (cQ 4 1))).dec = bMul fu a b := by kernel_rfl
noncomputable def bMul_p : PrimD := prim (dc (cQ 4 1) (d1 (cQ 4 1))) (d1 (cQ 4 1)) (bMul_s)
theorem bMul_c : Ok1 Tryz.prog tb btsOK.sound 140 bMul_p := prim_ok k_ok pr_D02_ok (by kernel_rfl) fun a y hg h => by
  obtain ⟨n, hn⟩ := bMul_ok a y hg h
  exact ⟨n, 9, n, (bMul_eq n a.1 a.2).trans hn⟩
theorem qParts_eq (fu : Nat)  (f : Int) : shFn tb pr_D02 (shN tb pr_D02 fu 9) fu 108 ((d1 (cI .u64)).enc (f)) ((dc cB (dc (cI .i64) (d1 (cI .u64))))).dec = qParts f := by kernel_rfl
noncomputable def qParts_p : PrimD := prim (d1 (cI .u64)) (dc cB (dc (cI .i64) (d1 (cI .u64)))) (qParts_s)
theorem qParts_c : Ok1 Tryz.prog tb btsOK.sound 108 qParts_p := prim_ok k_ok pr_D02_ok (by kernel_rfl) fun a y hg h => ⟨0, 9, 0, (qParts_eq 0 a).trans (qParts_ok a y hg h)⟩
theorem qMake_eq (fu : Nat)  (neg : Bool) (exp : Int) (fr : Int) : shFn tb pr_D02 (shN tb pr_D02 fu 9) fu 162 ((dc cB (dc (cI .i64) (d1 (cI .u64)))).enc (neg, exp, fr)) ((d1 (cI .u64))).dec = qMake neg exp fr := by kernel_rfl
noncomputable def qMake_p : PrimD := prim (dc cB (dc (cI .i64) (d1 (cI .u64)))) (d1 (cI .u64)) (qMake_s)
theorem qMake_c : Ok1 Tryz.prog tb btsOK.sound 162 qMake_p := prim_ok k_ok pr_D02_ok (by kernel_rfl) fun a y hg h => ⟨0, 9, 0, (qMake_eq 0 a.1 a.2.1 a.2.2).trans (qMake_ok a y hg h)⟩
theorem qClass_eq (fu : Nat)  (f : Int) : shFn tb pr_D02 (shN tb pr_D02 fu 9) fu 61 ((d1 (cI .u64)).enc (f)) ((d1 (cI .u8))).dec = qClass f := by kernel_rfl
noncomputable def qClass_p : PrimD := prim (d1 (cI .u64)) (d1 (cI .u8)) (qClass_s)
theorem qClass_c : Ok1 Tryz.prog tb btsOK.sound 61 qClass_p := prim_ok k_ok pr_D02_ok (by kernel_rfl) fun a y hg h => ⟨0, 9, 0, (qClass_eq 0 a).trans (qClass_ok a y hg h)⟩
noncomputable def pr_D03 : Prims := extL [(140, bMul_p), (108, qParts_p), (162, qMake_p), (61, qClass_p)] pr_D02
theorem pr_D03_ok : PrimOK Tryz.prog tb btsOK.sound pr_D03 := extL_ok pr_D02_ok (ok_cons bMul_c (ok_cons qParts_c (ok_cons qMake_c (ok_cons qClass_c ok_nil))))
end Su
end
section
namespace Su
open Go Go.Proofs Fly
set_option maxRecDepth 100000
theorem qSplit_eq (fu : Nat)  (f : Int) : shFn tb pr_D03 (shN tb pr_D03 fu 9) fu 130 ((d1 (cI .u64)).enc (f)) ((dc (cI .u64) (d1 (cI .i64)))).dec = qSplit f := by kernel_rfl
noncomputable def qSplit_p : PrimD := prim (d1 (cI .u64)) (dc (cI .u64) (d1 (cI .i64))) (qSplit_s)
theorem qSplit_c : Ok1 Tryz.prog tb btsOK.sound 130 qSplit_p := prim_ok k_ok pr_D03_ok (by kernel_rfl) fun a y hg h => ⟨0, 9, 0, (qSplit_eq 0 a).trans (qSplit_ok a y hg h)⟩
theorem qFin_eq (fu : Nat)  (f : Int) : shFn tb pr_D03 (shN tb pr_D03 fu 9) fu 46 ((d1 (cI .u64)).enc (f)) ((d1 cB)).dec = qFin f := by kernel_rfl
noncomputable def qFin_p : PrimD := prim (d1 (cI .u64)) (d1 cB) (qFin_s)
theorem qFin_c : Ok1 Tryz.prog tb btsOK.sound 46 qFin_p := prim_ok k_ok pr_D03_ok (by kernel_rfl) fun a y hg h => ⟨0, 9, 0, (qFin_eq 0 a).trans (qFin_ok a y hg h)⟩
theorem qKey_eq (fu : Nat)  (f : Int) : shFn tb pr_D03 (shN tb pr_D03 fu 9) fu 103 ((d1 (cI .u64)).enc (f)) ((d1 (cI .i64))).dec = qKey f := by kernel_rfl
noncomputable def qKey_p : PrimD := prim (d1 (cI .u64)) (d1 (cI .i64)) (qKey_s)
theorem qKey_c : Ok1 Tryz.prog tb btsOK.sound 103 qKey_p := prim_ok k_ok pr_D03_ok (by kernel_rfl) fun a y hg h => ⟨0, 9, 0, (qKey_eq 0 a).trans (qKey_ok a y hg h)⟩
theorem qOf_eq (fu : Nat)  (k : Int) (neg : Bool) : shFn tb pr_D03 (shN tb pr_D03 fu 9) fu 163 ((dc (cI .i64) (d1 cB)).enc (k, neg)) ((d1 (cI .u64))).dec = qOf k neg := by kernel_rfl
noncomputable def qOf_p : PrimD := prim (dc (cI .i64) (d1 cB)) (d1 (cI .u64)) (qOf_s)
theorem qOf_c : Ok1 Tryz.prog tb btsOK.sound 163 qOf_p := prim_ok k_ok pr_D03_ok (by kernel_rfl) fun a y hg h => ⟨0, 9, 0, (qOf_eq 0 a.1 a.2).trans (qOf_ok a y hg h)⟩
theorem uNeg_eq (fu : Nat)  (f : Int) : shFn tb pr_D03 (shN tb pr_D03 fu 9) fu 129 ((d1 (cI .u64)).enc (f)) ((d1 cB)).dec = uNeg f := by kernel_rfl
noncomputable def uNeg_p : PrimD := prim (d1 (cI .u64)) (d1 cB) (uNeg_s)
theorem uNeg_c : Ok1 Tryz.prog tb btsOK.sound 129 uNeg_p := prim_ok k_ok pr_D03_ok (by kernel_rfl) fun a y hg h => ⟨0, 9, 0, (uNeg_eq 0 a).trans (uNeg_ok a y hg h)⟩
theorem uIs_eq (fu : Nat)  (f : Int) (c : Int) : shFn tb pr_D03 (shN tb pr_D03 fu 9) fu 128 ((dc (cI .u64) (d1 (cI .u8))).enc (f, c)) ((d1 cB)).dec = uIs f c := by kernel_rfl
noncomputable def uIs_p : PrimD := prim (dc (cI .u64) (d1 (cI .u8))) (d1 cB) (uIs_s)
theorem uIs_c : Ok1 Tryz.prog tb btsOK.sound 128 uIs_p := prim_ok k_ok pr_D03_ok (by kernel_rfl) fun a y hg h => ⟨0, 9, 0, (uIs_eq 0 a.1 a.2).trans (uIs_ok a y hg h)⟩
theorem uZero_eq (fu : Nat)  (n : Bool) : shFn tb pr_D03 (shN tb pr_D03 fu 9) fu 137 ((d1 cB).enc (n)) ((d1 (cI .u64))).dec = uZero n := by kernel_rfl
noncomputable def uZero_p : PrimD := prim (d1 cB) (d1 (cI .u64)) (uZero_s)
theorem uZero_c : Ok1 Tryz.prog tb btsOK.sound 137 uZero_p := prim_ok k_ok pr_D03_ok (by kernel_rfl) fun a y hg h => ⟨0, 9, 0, (uZero_eq 0 a).trans (uZero_ok a y hg h)⟩
theorem uInf_eq (fu : Nat)  (n : Bool) : shFn tb pr_D03 (shN tb pr_D03 fu 9) fu 139 ((d1 cB).enc (n)) ((d1 (cI .u64))).dec = uInf n := by kernel_rfl
noncomputable def uInf_p : PrimD := prim (d1 cB) (d1 (cI .u64)) (uInf_s)
theorem uInf_c : Ok1 Tryz.prog tb btsOK.sound 139 uInf_p := prim_ok k_ok pr_D03_ok (by kernel_rfl) fun a y hg h => ⟨0, 9, 0, (uInf_eq 0 a).trans (uInf_ok a y hg h)⟩
noncomputable def pr_D04 : Prims := extL [(130, qSplit_p), (46, qFin_p), (103, qKey_p), (163, qOf_p), (129, uNeg_p), (128, uIs_p), (137, uZero_p), (139, uInf_p)] pr_D03
theorem pr_D04_ok : PrimOK Tryz.prog tb btsOK.sound pr_D04 := extL_ok pr_D03_ok (ok_cons qSplit_c (ok_cons qFin_c (ok_cons qKey_c (ok_cons qOf_c (ok_cons uNeg_c (ok_cons uIs_c (ok_cons uZero_c (ok_cons uInf_c ok_nil))))))))
end Su
end
section
namespace Su
open Go Go.Proofs Fly
set_option maxRecDepth 100000
theorem qCmp_eq (fu : Nat)  (a : Int) (b : Int) : shFn tb pr_D04 (shN tb pr_D04 fu 9) fu 51 ((dc (cI .u64) (d1 (cI .u64))).enc (a, b)) ((dc (cI .i64) (d1 cB))).dec = qCmp a b := by kernel_rfl
noncomputable def qCmp_p : PrimD := prim (dc (cI .u64) (d1 (cI .u64))) (dc (cI .i64) (d1 cB)) (qCmp_s)
theorem qCmp_c : Ok1 Tryz.prog tb btsOK.sound 51 qCmp_p := prim_ok k_ok pr_D04_ok (by kernel_rfl) fun a y hg h => ⟨0, 9, 0, (qCmp_eq 0 a.1 a.2).trans (qCmp_ok a y hg h)⟩
theorem uBits_eq (fu : Nat)  (m : Int) : shFn tb pr_D04 (shN tb pr_D04 fu 9) fu 132 ((d1 (cI .u64)).enc (m)) ((d1 (cQ 4 1))).dec = uBits m := by kernel_rfl
noncomputable def uBits_p : PrimD := prim (d1 (cI .u64)) (d1 (cQ 4 1)) (uBits_s)
theorem uBits_c : Ok1 Tryz.prog tb btsOK.sound 132 uBits_p := prim_ok k_ok pr_D04_ok (by kernel_rfl) fun a y hg h => ⟨0, 9, 0, (uBits_eq 0 a).trans (uBits_ok a y hg h)⟩
theorem oSplit_eq (fu : Nat)  (k : Int) : shFn tb pr_D04 (shN tb pr_D04 fu 9) fu 182 ((d1 (cI .i64)).enc (k)) ((dc (cQ 4 1) (d1 (cI .i64)))).dec = oSplit k := by kernel_rfl
noncomputable def oSplit_p : PrimD := prim (d1 (cI .i64)) (dc (cQ 4 1) (d1 (cI .i64))) (oSplit_s)
theorem oSplit_c : Ok1 Tryz.prog tb btsOK.sound 182 oSplit_p := prim_ok k_ok pr_D04_ok (by kernel_rfl) fun a y hg h => ⟨0, 9, 0, (oSplit_eq 0 a).trans (oSplit_ok a y hg h)⟩
theorem oCmp_eq (fu : Nat)  (x : ((List Bool) × ((List Bool) × (Int × Bool)))) (m : (List Bool)) (e : Int) : shFn tb pr_D04 (shN tb pr_D04 fu 9) fu 183 ((dc (cA (dc (cQ 4 1) (dc (cQ 4 1) (dc (cI .i64) (d1 cB))))) (dc (cQ 4 1) (d1 (cI .i64)))).enc (x, m, e)) ((d1 (cI .i64))).dec = oCmp x m e := by kernel_rfl
noncomputable def oCmp_p : PrimD := prim (dc (cA (dc (cQ 4 1) (dc (cQ 4 1) (dc (cI .i64) (d1 cB))))) (dc (cQ 4 1) (d1 (cI .i64)))) (d1 (cI .i64)) (oCmp_s)
theorem oCmp_c : Ok1 Tryz.prog tb btsOK.sound 183 oCmp_p := prim_ok k_ok pr_D04_ok (by kernel_rfl) fun a y hg h => ⟨0, 9, 0, (oCmp_eq 0 a.1 a.2.1 a.2.2).trans (oCmp_ok a y hg h)⟩
noncomputable def pr_D05 : Prims := extL [(51, qCmp_p), (132, uBits_p), (182, oSplit_p), (183, oCmp_p)] pr_D04
theorem pr_D05_ok : PrimOK Tryz.prog tb btsOK.sound pr_D05 := extL_ok pr_D04_ok (ok_cons qCmp_c (ok_cons uBits_c (ok_cons oSplit_c (ok_cons oCmp_c ok_nil))))
end Su
end
section
namespace Su
open Go Go.Proofs Fly
set_option maxRecDepth 100000
theorem oFloor_eq (fu : Nat) (x : ((List Bool) × ((List Bool) × (Int × Bool)))) : shFn tb pr_D05 (shN tb pr_D05 fu 9) fu 181 ((d1 (cA (dc (cQ 4 1) (dc (cQ 4 1) (dc (cI .i64) (d1 cB)))))).enc (x)) ((d1 (cI .i64))).dec = oFloor fu x := by kernel_rfl
noncomputable def oFloor_p : PrimD := prim (d1 (cA (dc (cQ 4 1) (dc (cQ 4 1) (dc (cI .i64) (d1 cB)))))) (d1 (cI .i64)) (oFloor_s)
theorem oFloor_c : Ok1 Tryz.prog tb btsOK.sound 181 oFloor_p := prim_ok k_ok pr_D05_ok (by kernel_rfl) fun a y hg h => by
  obtain ⟨n, hn⟩ := oFloor_ok a y hg h
  exact ⟨n, 9, n, (oFloor_eq n a).trans hn⟩
noncomputable def pr_D06 : Prims := extL [(181, oFloor_p)] pr_D05
theorem pr_D06_ok : PrimOK Tryz.prog tb btsOK.sound pr_D06 := extL_ok pr_D05_ok (ok_cons oFloor_c ok_nil)
end Su
end
section
namespace Su
open Go Go.Proofs Fly
set_option maxRecDepth 100000
theorem oMag_eq (fu : Nat)  (x : ((List Bool) × ((List Bool) × (Int × Bool)))) (mode : Int) : shFn tb pr_D06 (shN tb pr_D06 fu 9) fu 176 ((dc (cA (dc (cQ 4 1) (dc (cQ 4 1) (dc (cI .i64) (d1 cB))))) (d1 (cI .u8))).enc (x, mode)) ((dc (cI .i64) (d1 (cI .u8)))).dec = oMag x mode := by kernel_rfl
noncomputable def oMag_p : PrimD := prim (dc (cA (dc (cQ 4 1) (dc (cQ 4 1) (dc (cI .i64) (d1 cB))))) (d1 (cI .u8))) (dc (cI .i64) (d1 (cI .u8))) (oMag_s)
theorem oMag_c : Ok1 Tryz.prog tb btsOK.sound 176 oMag_p := prim_ok k_ok pr_D06_ok (by kernel_rfl) fun a y hg h => ⟨0, 9, 0, (oMag_eq 0 a.1 a.2).trans (oMag_ok a y hg h)⟩
noncomputable def pr_D07 : Prims := extL [(176, oMag_p)] pr_D06
theorem pr_D07_ok : PrimOK Tryz.prog tb btsOK.sound pr_D07 := extL_ok pr_D06_ok (ok_cons oMag_c ok_nil)
end Su
end
section
namespace Su
open Go Go.Proofs Fly
set_option maxRecDepth 100000
theorem oSign_eq (fu : Nat)  (neg : Bool) (x : ((List Bool) × ((List Bool) × (Int × Bool)))) (mode : Int) : shFn tb pr_D07 (shN tb pr_D07 fu 9) fu 164 ((dc cB (dc (cA (dc (cQ 4 1) (dc (cQ 4 1) (dc (cI .i64) (d1 cB))))) (d1 (cI .u8)))).enc (neg, x, mode)) ((dc (cI .u64) (d1 (cI .u8)))).dec = oSign neg x mode := by kernel_rfl
noncomputable def oSign_p : PrimD := prim (dc cB (dc (cA (dc (cQ 4 1) (dc (cQ 4 1) (dc (cI .i64) (d1 cB))))) (d1 (cI .u8)))) (dc (cI .u64) (d1 (cI .u8))) (oSign_s)
theorem oSign_c : Ok1 Tryz.prog tb btsOK.sound 164 oSign_p := prim_ok k_ok pr_D07_ok (by kernel_rfl) fun a y hg h => ⟨0, 9, 0, (oSign_eq 0 a.1 a.2.1 a.2.2).trans (oSign_ok a y hg h)⟩
noncomputable def pr_D08 : Prims := extL [(164, oSign_p)] pr_D07
theorem pr_D08_ok : PrimOK Tryz.prog tb btsOK.sound pr_D08 := extL_ok pr_D07_ok (ok_cons oSign_c ok_nil)
end Su
end
section
namespace Su
open Go Go.Proofs Fly
set_option maxRecDepth 100000
theorem oRound_eq (fu : Nat)  (neg : Bool) (m : (List Bool)) (e : Int) (rest : Bool) (mode : Int) : shFn tb pr_D08 (shN tb pr_D08 fu 9) fu 138 ((dc cB (dc (cQ 4 1) (dc (cI .i64) (dc cB (d1 (cI .u8)))))).enc (neg, m, e, rest, mode)) ((dc (cI .u64) (d1 (cI .u8)))).dec = oRound neg m e rest mode := by kernel_rfl
noncomputable def oRound_p : PrimD := prim (dc cB (dc (cQ 4 1) (dc (cI .i64) (dc cB (d1 (cI .u8)))))) (dc (cI .u64) (d1 (cI .u8))) (oRound_s)
theorem oRound_c : Ok1 Tryz.prog tb btsOK.sound 138 oRound_p := prim_ok k_ok pr_D08_ok (by kernel_rfl) fun a y hg h => ⟨0, 9, 0, (oRound_eq 0 a.1 a.2.1 a.2.2.1 a.2.2.2.1 a.2.2.2.2).trans (oRound_ok a y hg h)⟩
noncomputable def pr_D09 : Prims := extL [(138, oRound_p)] pr_D08
theorem pr_D09_ok : PrimOK Tryz.prog tb btsOK.sound pr_D09 := extL_ok pr_D08_ok (ok_cons oRound_c ok_nil)
end Su
end
section
namespace Su
open Go Go.Proofs Fly
set_option maxRecDepth 100000
theorem uMul_eq (fu : Nat)  (a : Int) (b : Int) (mode : Int) : shFn tb pr_D09 (shN tb pr_D09 fu 9) fu 102 ((dc (cI .u64) (dc (cI .u64) (d1 (cI .u8)))).enc (a, b, mode)) ((dc (cI .u64) (d1 (cI .u8)))).dec = uMul a b mode := by kernel_rfl
noncomputable def uMul_p : PrimD := prim (dc (cI .u64) (dc (cI .u64) (d1 (cI .u8)))) (dc (cI .u64) (d1 (cI .u8))) (fun a => uMul a.1 a.2.1 a.2.2)
theorem uMul_c : Ok1 Tryz.prog tb btsOK.sound 102 uMul_p := prim_ok k_ok pr_D09_ok (by kernel_rfl) fun a y hg h => ⟨0, 9, 0, (uMul_eq 0 a.1 a.2.1 a.2.2).trans h⟩
noncomputable def pr_D10 : Prims := extL [(102, uMul_p)] pr_D09
theorem pr_D10_ok : PrimOK Tryz.prog tb btsOK.sound pr_D10 := extL_ok pr_D09_ok (ok_cons uMul_c ok_nil)
end Su
end
section
namespace Su
open Go Go.Proofs Fly
set_option maxRecDepth 100000
theorem uAdd_eq (fu : Nat)  (a : Int) (b : Int) (mode : Int) : shFn tb pr_D10 (shN tb pr_D10 fu 9) fu 101 ((dc (cI .u64) (dc (cI .u64) (d1 (cI .u8)))).enc (a, b, mode)) ((dc (cI .u64) (d1 (cI .u8)))).dec = uAdd a b mode := by kernel_rfl
noncomputable def uAdd_p : PrimD := prim (dc (cI .u64) (dc (cI .u64) (d1 (cI .u8)))) (dc (cI .u64) (d1 (cI .u8))) (fun a => uAdd a.1 a.2.1 a.2.2)
theorem uAdd_c : Ok1 Tryz.prog tb btsOK.sound 101 uAdd_p := prim_ok k_ok pr_D10_ok (by kernel_rfl) fun a y hg h => ⟨0, 9, 0, (uAdd_eq 0 a.1 a.2.1 a.2.2).trans h⟩
noncomputable def pr_D11 : Prims := extL [(101, uAdd_p)] pr_D10
theorem pr_D11_ok : PrimOK Tryz.prog tb btsOK.sound pr_D11 := extL_ok pr_D10_ok (ok_cons uAdd_c ok_nil)
end Su
end
section
namespace Su
open Go Go.Proofs Fly
set_option maxRecDepth 100000
theorem rPlus_eq (fu : Nat)  (f : Int) : shFn tb pr_D11 (shN tb pr_D11 fu 9) fu 92 ((d1 (cI .u64)).enc (f)) ((d1 (cI .u64))).dec = rPlus f := by kernel_rfl
noncomputable def rPlus_p : PrimD := prim (d1 (cI .u64)) (d1 (cI .u64)) (rPlus_s)
theorem rPlus_c : Ok1 Tryz.prog tb btsOK.sound 92 rPlus_p := prim_ok k_ok pr_D11_ok (by kernel_rfl) fun a y hg h => ⟨0, 9, 0, (rPlus_eq 0 a).trans (rPlus_ok a y hg h)⟩
theorem rAbs_eq (fu : Nat)  (f : Int) : shFn tb pr_D11 (shN tb pr_D11 fu 9) fu 57 ((d1 (cI .u64)).enc (f)) ((d1 (cI .u64))).dec = rAbs f := by kernel_rfl
noncomputable def rAbs_p : PrimD := prim (d1 (cI .u64)) (d1 (cI .u64)) (rAbs_s)
theorem rAbs_c : Ok1 Tryz.prog tb btsOK.sound 57 rAbs_p := prim_ok k_ok pr_D11_ok (by kernel_rfl) fun a y hg h => ⟨0, 9, 0, (rAbs_eq 0 a).trans (rAbs_ok a y hg h)⟩
theorem rMin_eq (fu : Nat)  (f : Int) : shFn tb pr_D11 (shN tb pr_D11 fu 9) fu 50 ((d1 (cI .u64)).enc (f)) ((d1 (cI .u64))).dec = rMin f := by kernel_rfl
noncomputable def rMin_p : PrimD := prim (d1 (cI .u64)) (d1 (cI .u64)) (rMin_s)
theorem rMin_c : Ok1 Tryz.prog tb btsOK.sound 50 rMin_p := prim_ok k_ok pr_D11_ok (by kernel_rfl) fun a y hg h => ⟨0, 9, 0, (rMin_eq 0 a).trans (rMin_ok a y hg h)⟩
theorem rAd_eq (fu : Nat)  (a : Int) (b : Int) (m : Int) : shFn tb pr_D11 (shN tb pr_D11 fu 9) fu 48 ((dc (cI .u64) (dc (cI .u64) (d1 (cI .u8)))).enc (a, b, m)) ((d1 (cI .u64))).dec = rAd a b m := by kernel_rfl
noncomputable def rAd_p : PrimD := prim (dc (cI .u64) (dc (cI .u64) (d1 (cI .u8)))) (d1 (cI .u64)) (rAd_s)
theorem rAd_c : Ok1 Tryz.prog tb btsOK.sound 48 rAd_p := prim_ok k_ok pr_D11_ok (by kernel_rfl) fun a y hg h => ⟨0, 9, 0, (rAd_eq 0 a.1 a.2.1 a.2.2).trans (rAd_ok a y hg h)⟩
theorem rMl_eq (fu : Nat)  (a : Int) (b : Int) (m : Int) : shFn tb pr_D11 (shN tb pr_D11 fu 9) fu 49 ((dc (cI .u64) (dc (cI .u64) (d1 (cI .u8)))).enc (a, b, m)) ((d1 (cI .u64))).dec = rMl a b m := by kernel_rfl
noncomputable def rMl_p : PrimD := prim (dc (cI .u64) (dc (cI .u64) (d1 (cI .u8)))) (d1 (cI .u64)) (rMl_s)
theorem rMl_c : Ok1 Tryz.prog tb btsOK.sound 49 rMl_p := prim_ok k_ok pr_D11_ok (by kernel_rfl) fun a y hg h => ⟨0, 9, 0, (rMl_eq 0 a.1 a.2.1 a.2.2).trans (rMl_ok a y hg h)⟩
noncomputable def pr_D12 : Prims := extL [(92, rPlus_p), (57, rAbs_p), (50, rMin_p), (48, rAd_p), (49, rMl_p)] pr_D11
theorem pr_D12_ok : PrimOK Tryz.prog tb btsOK.sound pr_D12 := extL_ok pr_D11_ok (ok_cons rPlus_c (ok_cons rAbs_c (ok_cons rMin_c (ok_cons rAd_c (ok_cons rMl_c ok_nil)))))
end Su
end
section
namespace Su
open Go Go.Proofs Fly
set_option maxRecDepth 100000
theorem rASl_eq (fu : Nat)  (a : Int) (b : Int) : shFn tb pr_D12 (shN tb pr_D12 fu 9) fu 66 ((dc (cI .u64) (d1 (cI .u64))).enc (a, b)) ((d1 (cI .u64))).dec = rASl a b := by kernel_rfl
noncomputable def rASl_p : PrimD := prim (dc (cI .u64) (d1 (cI .u64))) (d1 (cI .u64)) (rASl_s)
theorem rASl_c : Ok1 Tryz.prog tb btsOK.sound 66 rASl_p := prim_ok k_ok pr_D12_ok (by kernel_rfl) fun a y hg h => ⟨0, 9, 0, (rASl_eq 0 a.1 a.2).trans (rASl_ok a y hg h)⟩
theorem rMSl_eq (fu : Nat)  (a : Int) (b : Int) : shFn tb pr_D12 (shN tb pr_D12 fu 9) fu 72 ((dc (cI .u64) (d1 (cI .u64))).enc (a, b)) ((d1 (cI .u64))).dec = rMSl a b := by kernel_rfl
noncomputable def rMSl_p : PrimD := prim (dc (cI .u64) (d1 (cI .u64))) (d1 (cI .u64)) (rMSl_s)
theorem rMSl_c : Ok1 Tryz.prog tb btsOK.sound 72 rMSl_p := prim_ok k_ok pr_D12_ok (by kernel_rfl) fun a y hg h => ⟨0, 9, 0, (rMSl_eq 0 a.1 a.2).trans (rMSl_ok a y hg h)⟩
theorem rMay_eq (fu : Nat) (a : (Bool × (Int × ((List Int) × ((List Int) × Int))))) : shFn tb pr_D12 (shN tb pr_D12 fu 9) fu 24 ((d1 cRf).enc (a)) ((d1 cB)).dec = rMay fu a := by kernel_rfl
noncomputable def rMay_p : PrimD := prim (d1 cRf) (d1 cB) (rMay_s)
theorem rMay_c : Ok1 Tryz.prog tb btsOK.sound 24 rMay_p := prim_ok k_ok pr_D12_ok (by kernel_rfl) fun a y hg h => by
  obtain ⟨n, hn⟩ := rMay_ok a y hg h
  exact ⟨n, 9, n, (rMay_eq n a).trans hn⟩
theorem rDone_eq (fu : Nat) (a : (Bool × (Int × ((List Int) × ((List Int) × Int))))) : shFn tb pr_D12 (shN tb pr_D12 fu 9) fu 37 ((d1 cRf).enc (a)) ((d1 cRf)).dec = rDone fu a := by kernel_rfl
noncomputable def rDone_p : PrimD := prim (d1 cRf) (d1 cRf) (rDone_s)
theorem rDone_c : Ok1 Tryz.prog tb btsOK.sound 37 rDone_p := prim_ok k_ok pr_D12_ok (by kernel_rfl) fun a y hg h => by
  obtain ⟨n, hn⟩ := rDone_ok a y hg h
  exact ⟨n, 9, n, (rDone_eq n a).trans hn⟩
theorem rAt_eq (fu : Nat) (a : (Bool × (Int × ((List Int) × ((List Int) × Int))))) (id : Int) : shFn tb pr_D12 (shN tb pr_D12 fu 9) fu 67 ((dc cRf (d1 (cI .i64))).enc (a, id)) ((d1 (cI .u64))).dec = rAt fu a id := by kernel_rfl
noncomputable def rAt_p : PrimD := prim (dc cRf (d1 (cI .i64))) (d1 (cI .u64)) (rAt_s)
theorem rAt_c : Ok1 Tryz.prog tb btsOK.sound 67 rAt_p := prim_ok k_ok pr_D12_ok (by kernel_rfl) fun a y hg h => by
  obtain ⟨n, hn⟩ := rAt_ok a y hg h
  exact ⟨n, 9, n, (rAt_eq n a.1 a.2).trans hn⟩
theorem rIds_eq (fu : Nat) (a : (Bool × (Int × ((List Int) × ((List Int) × Int))))) (b : (Bool × (Int × ((List Int) × ((List Int) × Int))))) : shFn tb pr_D12 (shN tb pr_D12 fu 9) fu 65 ((dc cRf (d1 cRf)).enc (a, b)) ((d1 (cQ 3 1))).dec = rIds fu a b := by kernel_rfl
noncomputable def rIds_p : PrimD := prim (dc cRf (d1 cRf)) (d1 (cQ 3 1)) (rIds_s)
theorem rIds_c : Ok1 Tryz.prog tb btsOK.sound 65 rIds_p := prim_ok k_ok pr_D12_ok (by kernel_rfl) fun a y hg h => by
  obtain ⟨n, hn⟩ := rIds_ok a y hg h
  exact ⟨n, 9, n, (rIds_eq n a.1 a.2).trans hn⟩
noncomputable def pr_D13 : Prims := extL [(66, rASl_p), (72, rMSl_p), (24, rMay_p), (37, rDone_p), (67, rAt_p), (65, rIds_p)] pr_D12
theorem pr_D13_ok : PrimOK Tryz.prog tb btsOK.sound pr_D13 := extL_ok pr_D12_ok (ok_cons rASl_c (ok_cons rMSl_c (ok_cons rMay_c (ok_cons rDone_c (ok_cons rAt_c (ok_cons rIds_c ok_nil))))))
end Su
end
section
namespace Su
open Go Go.Proofs Fly
set_option maxRecDepth 100000
theorem rIn_eq (fu : Nat)  (a : (Bool × (Int × ((List Int) × ((List Int) × Int))))) : shFn tb pr_D13 (shN tb pr_D13 fu 9) fu 56 ((d1 cRf).enc (a)) ((d1 cRf)).dec = rIn a := by kernel_rfl
noncomputable def rIn_p : PrimD := prim (d1 cRf) (d1 cRf) (fun a => rIn a)
theorem rIn_c : Ok1 Tryz.prog tb btsOK.sound 56 rIn_p := prim_ok k_ok pr_D13_ok (by kernel_rfl) fun a y hg h => ⟨0, 9, 0, (rIn_eq 0 a).trans h⟩
theorem rConst_eq (fu : Nat)  (f : Int) : shFn tb pr_D13 (shN tb pr_D13 fu 9) fu 12 ((d1 (cI .u64)).enc (f)) ((d1 cRf)).dec = rConst f := by kernel_rfl
noncomputable def rConst_p : PrimD := prim (d1 (cI .u64)) (d1 cRf) (rConst_s)
theorem rConst_c : Ok1 Tryz.prog tb btsOK.sound 12 rConst_p := prim_ok k_ok pr_D13_ok (by kernel_rfl) fun a y hg h => ⟨0, 9, 0, (rConst_eq 0 a).trans (rConst_ok a y hg h)⟩
theorem rNeg_eq (fu : Nat) (a : (Bool × (Int × ((List Int) × ((List Int) × Int))))) : shFn tb pr_D13 (shN tb pr_D13 fu 9) fu 18 ((d1 cRf).enc (a)) ((d1 cRf)).dec = rNeg fu a := by kernel_rfl
noncomputable def rNeg_p : PrimD := prim (d1 cRf) (d1 cRf) (rNeg_s)
theorem rNeg_c : Ok1 Tryz.prog tb btsOK.sound 18 rNeg_p := prim_ok k_ok pr_D13_ok (by kernel_rfl) fun a y hg h => by
  obtain ⟨n, hn⟩ := rNeg_ok a y hg h
  exact ⟨n, 9, n, (rNeg_eq n a).trans hn⟩
theorem rAdd_eq (fu : Nat) (a : (Bool × (Int × ((List Int) × ((List Int) × Int))))) (b : (Bool × (Int × ((List Int) × ((List Int) × Int))))) : shFn tb pr_D13 (shN tb pr_D13 fu 9) fu 26 ((dc cRf (d1 cRf)).enc (a, b)) ((d1 cRf)).dec = rAdd fu a b := by kernel_rfl
noncomputable def rAdd_p : PrimD := prim (dc cRf (d1 cRf)) (d1 cRf) (rAdd_s)
theorem rAdd_c : Ok1 Tryz.prog tb btsOK.sound 26 rAdd_p := prim_ok k_ok pr_D13_ok (by kernel_rfl) fun a y hg h => by
  obtain ⟨n, hn⟩ := rAdd_ok a y hg h
  exact ⟨n, 9, n, (rAdd_eq n a.1 a.2).trans hn⟩
noncomputable def pr_D14 : Prims := extL [(56, rIn_p), (12, rConst_p), (18, rNeg_p), (26, rAdd_p)] pr_D13
theorem pr_D14_ok : PrimOK Tryz.prog tb btsOK.sound pr_D14 := extL_ok pr_D13_ok (ok_cons rIn_c (ok_cons rConst_c (ok_cons rNeg_c (ok_cons rAdd_c ok_nil))))
end Su
end
section
namespace Su
open Go Go.Proofs Fly
set_option maxRecDepth 100000
theorem lOf_eq (fu : Nat) (a : (Bool × (Int × ((List Su.Tm) × Int)))) : shFn tb pr_D14 (shN tb pr_D14 fu 9) fu 9 ((d1 cFrm).enc (a)) ((d1 cRf)).dec = lOf fu a := by kernel_rfl
noncomputable def lOf_p : PrimD := prim (d1 cFrm) (d1 cRf) (lOf_s)
theorem lOf_c : Ok1 Tryz.prog tb btsOK.sound 9 lOf_p := prim_ok k_ok pr_D14_ok (by kernel_rfl) fun a y hg h => by
  obtain ⟨n, hn⟩ := lOf_ok a y hg h
  exact ⟨n, 9, n, (lOf_eq n a).trans hn⟩
theorem lIs_eq (fu : Nat) (a : (Bool × (Int × ((List Su.Tm) × Int)))) (f : (Bool × (Int × ((List Int) × ((List Int) × Int))))) : shFn tb pr_D14 (shN tb pr_D14 fu 9) fu 10 ((dc cFrm (d1 cRf)).enc (a, f)) ((d1 cB)).dec = lIs fu a f := by kernel_rfl
noncomputable def lIs_p : PrimD := prim (dc cFrm (d1 cRf)) (d1 cB) (lIs_s)
theorem lIs_c : Ok1 Tryz.prog tb btsOK.sound 10 lIs_p := prim_ok k_ok pr_D14_ok (by kernel_rfl) fun a y hg h => by
  obtain ⟨n, hn⟩ := lIs_ok a y hg h
  exact ⟨n, 9, n, (lIs_eq n a.1 a.2).trans hn⟩
noncomputable def pr_D15 : Prims := extL [(9, lOf_p), (10, lIs_p)] pr_D14
theorem pr_D15_ok : PrimOK Tryz.prog tb btsOK.sound pr_D15 := extL_ok pr_D14_ok (ok_cons lOf_c (ok_cons lIs_c ok_nil))
end Su
end
section
namespace Su
open Go Go.Proofs Fly
set_option maxRecDepth 100000
theorem lSum_eq (fu : Nat)  (a : (Bool × (Int × ((List Su.Tm) × Int)))) (b : (Bool × (Int × ((List Su.Tm) × Int)))) : shFn tb pr_D15 (shN tb pr_D15 fu 9) fu 4 ((dc cFrm (d1 cFrm)).enc (a, b)) ((d1 cB)).dec = lSum a b := by kernel_rfl
noncomputable def lSum_p : PrimD := prim (dc cFrm (d1 cFrm)) (d1 cB) (lSum_s)
theorem lSum_c : Ok1 Tryz.prog tb btsOK.sound 4 lSum_p := prim_ok k_ok pr_D15_ok (by kernel_rfl) fun a y hg h => ⟨0, 9, 0, (lSum_eq 0 a.1 a.2).trans (lSum_ok a y hg h)⟩
noncomputable def pr_D16 : Prims := extL [(4, lSum_p)] pr_D15
theorem pr_D16_ok : PrimOK Tryz.prog tb btsOK.sound pr_D16 := extL_ok pr_D15_ok (ok_cons lSum_c ok_nil)
end Su
end
section
namespace Su
open Go Go.Proofs Fly
set_option maxRecDepth 100000
theorem aRad_eq (fu : Nat) (a : (Bool × (Int × ((List Su.Tm) × Int)))) : shFn tb pr_D16 (shN tb pr_D16 fu 9) fu 21 ((d1 cFrm).enc (a)) ((d1 (cI .u64))).dec = aRad fu a := by kernel_rfl
noncomputable def aRad_p : PrimD := prim (d1 cFrm) (d1 (cI .u64)) (aRad_s)
theorem aRad_c : Ok1 Tryz.prog tb btsOK.sound 21 aRad_p := prim_ok k_ok pr_D16_ok (by kernel_rfl) fun a y hg h => by
  obtain ⟨n, hn⟩ := aRad_ok a y hg h
  exact ⟨n, 9, n, (aRad_eq n a).trans hn⟩
noncomputable def pr_C24 : Prims := extL [(21, aRad_p)] pr_D16
theorem pr_C24_ok : PrimOK Tryz.prog tb btsOK.sound pr_C24 := extL_ok pr_D16_ok (ok_cons aRad_c ok_nil)
end Su
end
section
namespace Su
open Go Go.Proofs Fly
set_option maxRecDepth 100000
theorem aRest_eq (fu : Nat)  (a : (Bool × (Int × ((List Su.Tm) × Int)))) : shFn tb pr_C24 (shN tb pr_C24 fu 9) fu 68 ((d1 cFrm).enc (a)) ((d1 (cI .u64))).dec = aRest a := by kernel_rfl
noncomputable def aRest_p : PrimD := prim (d1 cFrm) (d1 (cI .u64)) (aRest_s)
theorem aRest_c : Ok1 Tryz.prog tb btsOK.sound 68 aRest_p := prim_ok k_ok pr_C24_ok (by kernel_rfl) fun a y hg h => ⟨0, 9, 0, (aRest_eq 0 a).trans (aRest_ok a y hg h)⟩
theorem aMid_eq (fu : Nat)  (a : Int) (b : Int) : shFn tb pr_C24 (shN tb pr_C24 fu 9) fu 41 ((dc (cI .u64) (d1 (cI .u64))).enc (a, b)) ((d1 (cI .u64))).dec = aMid a b := by kernel_rfl
noncomputable def aMid_p : PrimD := prim (dc (cI .u64) (d1 (cI .u64))) (d1 (cI .u64)) (aMid_s)
theorem aMid_c : Ok1 Tryz.prog tb btsOK.sound 41 aMid_p := prim_ok k_ok pr_C24_ok (by kernel_rfl) fun a y hg h => ⟨0, 9, 0, (aMid_eq 0 a.1 a.2).trans (aMid_ok a y hg h)⟩
noncomputable def pr_C25 : Prims := extL [(68, aRest_p), (41, aMid_p)] pr_C24
theorem pr_C25_ok : PrimOK Tryz.prog tb btsOK.sound pr_C25 := extL_ok pr_C24_ok (ok_cons aRest_c (ok_cons aMid_c ok_nil))
end Su
end
section
namespace Su
open Go Go.Proofs Fly
set_option maxRecDepth 100000
theorem rRad_eq (fu : Nat) (a : (Bool × (Int × ((List Int) × ((List Int) × Int))))) : shFn tb pr_C25 (shN tb pr_C25 fu 9) fu 22 ((d1 cRf).enc (a)) ((d1 (cI .u64))).dec = rRad fu a := by kernel_rfl
noncomputable def rRad_p : PrimD := prim (d1 cRf) (d1 (cI .u64)) (rRad_s)
theorem rRad_c : Ok1 Tryz.prog tb btsOK.sound 22 rRad_p := prim_ok k_ok pr_C25_ok (by kernel_rfl) fun a y hg h => by
  obtain ⟨n, hn⟩ := rRad_ok a y hg h
  exact ⟨n, 9, n, (rRad_eq n a).trans hn⟩
noncomputable def pr_D17 : Prims := extL [(22, rRad_p)] pr_C25
theorem pr_D17_ok : PrimOK Tryz.prog tb btsOK.sound pr_D17 := extL_ok pr_C25_ok (ok_cons rRad_c ok_nil)
end Su
end
section
namespace Su
open Go Go.Proofs Fly
set_option maxRecDepth 100000
theorem aMore_eq (fu : Nat)  (a : (Bool × (Int × ((List Su.Tm) × Int)))) (e : Int) : shFn tb pr_D17 (shN tb pr_D17 fu 9) fu 15 ((dc cFrm (d1 (cI .u64))).enc (a, e)) ((d1 cFrm)).dec = aMore a e := by kernel_rfl
noncomputable def aMore_p : PrimD := prim (dc cFrm (d1 (cI .u64))) (d1 cFrm) (aMore_s)
theorem aMore_c : Ok1 Tryz.prog tb btsOK.sound 15 aMore_p := prim_ok k_ok pr_D17_ok (by kernel_rfl) fun a y hg h => ⟨0, 9, 0, (aMore_eq 0 a.1 a.2).trans (aMore_ok a y hg h)⟩
theorem aSpan_eq (fu : Nat)  (a : (Bool × (Int × ((List Su.Tm) × Int)))) : shFn tb pr_D17 (shN tb pr_D17 fu 9) fu 19 ((d1 cFrm).enc (a)) ((d1 cSpn)).dec = aSpan a := by kernel_rfl
noncomputable def aSpan_p : PrimD := prim (d1 cFrm) (d1 cSpn) (aSpan_s)
theorem aSpan_c : Ok1 Tryz.prog tb btsOK.sound 19 aSpan_p := prim_ok k_ok pr_D17_ok (by kernel_rfl) fun a y hg h => ⟨0, 9, 0, (aSpan_eq 0 a).trans (aSpan_ok a y hg h)⟩
theorem rNrm_eq (fu : Nat)  (s : (Bool × (Int × Int))) : shFn tb pr_D17 (shN tb pr_D17 fu 9) fu 45 ((d1 cSpn).enc (s)) ((d1 cSpn)).dec = rNrm s := by kernel_rfl
noncomputable def rNrm_p : PrimD := prim (d1 cSpn) (d1 cSpn) (rNrm_s)
theorem rNrm_c : Ok1 Tryz.prog tb btsOK.sound 45 rNrm_p := prim_ok k_ok pr_D17_ok (by kernel_rfl) fun a y hg h => ⟨0, 9, 0, (rNrm_eq 0 a).trans (rNrm_ok a y hg h)⟩
theorem rMore_eq (fu : Nat)  (a : (Bool × (Int × ((List Int) × ((List Int) × Int))))) (e : Int) : shFn tb pr_D17 (shN tb pr_D17 fu 9) fu 16 ((dc cRf (d1 (cI .u64))).enc (a, e)) ((d1 cRf)).dec = rMore a e := by kernel_rfl
noncomputable def rMore_p : PrimD := prim (dc cRf (d1 (cI .u64))) (d1 cRf) (rMore_s)
theorem rMore_c : Ok1 Tryz.prog tb btsOK.sound 16 rMore_p := prim_ok k_ok pr_D17_ok (by kernel_rfl) fun a y hg h => ⟨0, 9, 0, (rMore_eq 0 a.1 a.2).trans (rMore_ok a y hg h)⟩
noncomputable def pr_C27 : Prims := extL [(15, aMore_p), (19, aSpan_p), (45, rNrm_p), (16, rMore_p)] pr_D17
theorem pr_C27_ok : PrimOK Tryz.prog tb btsOK.sound pr_C27 := extL_ok pr_D17_ok (ok_cons aMore_c (ok_cons aSpan_c (ok_cons rNrm_c (ok_cons rMore_c ok_nil))))
end Su
end
section
namespace Su
open Go Go.Proofs Fly
set_option maxRecDepth 100000
theorem aFrom_eq (fu : Nat) (s : (Bool × (Int × Int))) (id : Int) : shFn tb pr_C27 (shN tb pr_C27 fu 9) fu 13 ((dc cSpn (d1 (cI .i64))).enc (s, id)) ((d1 cFrm)).dec = aFrom fu s id := by kernel_rfl
noncomputable def aFrom_p : PrimD := prim (dc cSpn (d1 (cI .i64))) (d1 cFrm) (aFrom_s)
theorem aFrom_c : Ok1 Tryz.prog tb btsOK.sound 13 aFrom_p := prim_ok k_ok pr_C27_ok (by kernel_rfl) fun a y hg h => by
  obtain ⟨n, hn⟩ := aFrom_ok a y hg h
  exact ⟨n, 9, n, (aFrom_eq n a.1 a.2).trans hn⟩
theorem rSpan_eq (fu : Nat)  (a : (Bool × (Int × ((List Int) × ((List Int) × Int))))) : shFn tb pr_C27 (shN tb pr_C27 fu 9) fu 20 ((d1 cRf).enc (a)) ((d1 cSpn)).dec = rSpan a := by kernel_rfl
noncomputable def rSpan_p : PrimD := prim (d1 cRf) (d1 cSpn) (rSpan_s)
theorem rSpan_c : Ok1 Tryz.prog tb btsOK.sound 20 rSpan_p := prim_ok k_ok pr_C27_ok (by kernel_rfl) fun a y hg h => ⟨0, 9, 0, (rSpan_eq 0 a).trans (rSpan_ok a y hg h)⟩
theorem rFrom_eq (fu : Nat)  (s : (Bool × (Int × Int))) (id : Int) : shFn tb pr_C27 (shN tb pr_C27 fu 9) fu 14 ((dc cSpn (d1 (cI .i64))).enc (s, id)) ((d1 cRf)).dec = rFrom s id := by kernel_rfl
noncomputable def rFrom_p : PrimD := prim (dc cSpn (d1 (cI .i64))) (d1 cRf) (rFrom_s)
theorem rFrom_c : Ok1 Tryz.prog tb btsOK.sound 14 rFrom_p := prim_ok k_ok pr_C27_ok (by kernel_rfl) fun a y hg h => ⟨0, 9, 0, (rFrom_eq 0 a.1 a.2).trans (rFrom_ok a y hg h)⟩
noncomputable def pr_D20 : Prims := extL [(13, aFrom_p), (20, rSpan_p), (14, rFrom_p)] pr_C27
theorem pr_D20_ok : PrimOK Tryz.prog tb btsOK.sound pr_D20 := extL_ok pr_C27_ok (ok_cons aFrom_c (ok_cons rSpan_c (ok_cons rFrom_c ok_nil)))
end Su
end
section
namespace Su
open Go Go.Proofs Fly
set_option maxRecDepth 100000
theorem lMak_eq (fu : Nat)  (f : Int) (s : (Bool × (Int × Int))) (id : Int) (a : (Bool × (Int × ((List Su.Tm) × Int)))) (e : Int) : shFn tb pr_D20 (shN tb pr_D20 fu 9) fu 3 ((dc (cI .u64) (dc cSpn (dc (cI .i64) (dc cFrm (d1 (cI .u64)))))).enc (f, s, id, a, e)) ((d1 cB)).dec = lMak f s id a e := by kernel_rfl
noncomputable def lMak_p : PrimD := prim (dc (cI .u64) (dc cSpn (dc (cI .i64) (dc cFrm (d1 (cI .u64)))))) (d1 cB) (lMak_s)
theorem lMak_c : Ok1 Tryz.prog tb btsOK.sound 3 lMak_p := prim_ok k_ok pr_D20_ok (by kernel_rfl) fun a y hg h => ⟨0, 9, 0, (lMak_eq 0 a.1 a.2.1 a.2.2.1 a.2.2.2.1 a.2.2.2.2).trans (lMak_ok a y hg h)⟩
end Su
end
section
namespace Su
open Go Fly
def isGroup (P : Program) (t : Nat) : Bool := match P.underlying t with
  | some (.struct _) => true
  | _ => false
def tiles (P : Program) (S : List Nat) (n : Nat) : Nat → List Field → Bool
  | o, [] => Nat.beq o n
  | o, f :: fs => Nat.beq f.offset o && (S.contains f.type && tiles P S n (o + P.cellsOf f.type) fs)
def okTy (P : Program) (S : List Nat) (t : Nat) : Bool := match P.underlying t with
  | some .bool => Nat.beq (P.cellsOf t) 1
  | some (.int _) => Nat.beq (P.cellsOf t) 1
  | some (.float _) => Nat.beq (P.cellsOf t) 1
  | some .string => Nat.beq (P.cellsOf t) 1
  | some (.slice e) => Nat.beq (P.cellsOf t) 1 && (S.contains e && Nat.blt 0 (P.cellsOf e))
  | some (.struct fs) => tiles P S (P.cellsOf t) 0 fs.toList
  | _ => false
inductive All2 {α β : Type} (R : α → β → Prop) : List α → List β → Prop
  | nil : All2 R [] []
  | cons {a : α} {b : β} {l : List α} {m : List β} (h : R a b) (h' : All2 R l m) : All2 R (a :: l) (b :: m)
def Shp (P : Program) : Nat → Nat → List T → Prop
  | 0, _, _ => False
  | fuel + 1, t, xs => match P.underlying t with
    | some .bool => ∃ b, xs = [.s (.bool b)]
    | some (.int k) => ∃ n, xs = [.s (.int k n)] ∧ (Lit.int k n).wf = true
    | some (.float k) => ∃ b, xs = [.s (.float k b)] ∧ (Lit.float k b).wf = true
    | some .string => ∃ s, xs = [.s (.string s)] ∧ s.size ≤ maxLen
    | some (.slice e) => ∃ l, xs = [.sl (P.cellsOf e) l] ∧ l.length ≤ maxLen ∧ ∀ x ∈ l, x.isAgg = isGroup P e ∧ Shp P fuel e x.cells
    | some (.struct fs) => ∃ parts : List (List T), xs = parts.flatten ∧ All2 (fun (f : Field) p => Shp P fuel f.type p) fs.toList parts
    | _ => False
def hv (w : World) : View := fun b => w.heap[b]?
theorem add_add {a : Addr} {m n : Nat} (h : n ≠ 0 ∨ m = 0 ∨ a.spot = none) : (a.add m).add n = a.add (m + n) := by
  unfold Addr.add
  by_cases hn : n = 0
  · subst hn; simp
  · by_cases hm : m = 0
    · subst hm; simp [hn]
    · simp [hn, hm, Nat.add_assoc]
theorem rd_of_cell {w : World} {a : Addr} {v : Value} (h : w.cell? a = some v) : a.spot = none ∧ rd (hv w) a.block a.off v := by
  unfold World.cell? at h
  split at h
  · rename_i c e f hb
    cases hs : a.spot with
    | some s => rw [hs] at h; simp at h
    | none => rw [hs] at h; exact ⟨rfl, c, e, f, hb, by simpa using h⟩
  · simp at h
theorem add_off (a : Addr) (n : Nat) : (a.add n).off = a.off + n ∧ (a.add n).block = a.block := by
  unfold Addr.add; split
  · rename_i h; subst h; exact ⟨rfl, rfl⟩
  · exact ⟨rfl, rfl⟩
theorem rows_rd {w : World} {a : Addr} {k : Nat} (hk : 0 < k) : ∀ (css : List (List Value)) (s : Nat), (∀ i cs, css[i]? = some cs → w.cells? 0 (a.add ((s + i) * k)) k = some cs) → ∀ j c, css.flatten[j]? = some c → rd (hv w) a.block (a.off + s * k + j) c ∧ w.cell? (a.add (s * k + j)) = some c
  | [], s, h, j, c, hj => by simp at hj
  | c0 :: css, s, h, j, c, hj => by
    obtain ⟨_, hl, hc⟩ := World.cells?_some (h 0 c0 rfl)
    simp only [Nat.add_zero] at hc
    rw [List.flatten_cons] at hj
    rcases Nat.lt_or_ge j k with hjk | hjk
    · rw [List.getElem?_append_left (by omega)] at hj
      have h1 := hc j hjk
      rw [hj] at h1
      have h3 : w.cell? (a.add (s * k + j)) = some c := by
        by_cases hj0 : j = 0
        · subst hj0
          have : (a.add (s * k)).add 0 = a.add (s * k) := by unfold Addr.add; simp
          rw [this] at h1; exact h1
        · rw [add_add (.inl hj0)] at h1; exact h1
      obtain ⟨_, h2⟩ := rd_of_cell h3
      rw [(add_off _ _).1, (add_off _ _).2] at h2
      exact ⟨by rw [Nat.add_assoc]; exact h2, h3⟩
    · rw [List.getElem?_append_right (by omega), hl] at hj
      have h2 := rows_rd hk css (s + 1) (fun i cs hi => by
        have := h (i + 1) cs (by simpa using hi)
        rw [show s + 1 + i = s + (i + 1) by omega]; exact this) (j - k) c hj
      have e1 : (s + 1) * k + (j - k) = s * k + j := by rw [Nat.add_mul]; omega
      rw [Nat.add_assoc, e1] at h2
      exact ⟨by rw [Nat.add_assoc]; exact h2.1, h2.2⟩
end Su
end
section
namespace Su
open Go Fly
theorem mapM_split {β γ : Type} {f : Nat → Option (List β)} {g : List β → Option γ} {n : Nat} {r : List γ} (h : (List.range n).mapM (fun i => (f i).bind g) = some r) :
    ∃ css : List (List β), css.length = n ∧ ∀ (i : Nat) (cs : List β), css[i]? = some cs → f i = some cs ∧ ∃ y, y ∈ r ∧ g cs = some y := by
  have hl : r.length = n := by simpa using mapM_some_length h
  refine ⟨(List.range n).map fun i => (f i).getD [], by simp, fun i cs hi => ?_⟩
  have hin : i < n := by
    have := (List.getElem?_eq_some_iff.1 hi).1
    simpa using this
  have h1 := mapM_some_get h i i (by simp [hin])
  rw [List.getElem?_eq_getElem (by omega)] at h1
  obtain ⟨c, hc, hg⟩ := Option.bind_eq_some_iff.1 h1
  have : cs = c := by
    rw [List.getElem?_map, List.getElem?_range hin] at hi
    simp [hc] at hi; exact hi.symm
  subst this
  exact ⟨hc, _, List.getElem_mem _, hg⟩
theorem all2_of {α β : Type} {R : α → β → Prop} : ∀ {l : List α}, (∀ x ∈ l, ∃ y, R x y) → ∃ m, All2 R l m
  | [], _ => ⟨[], .nil⟩
  | x :: l, h => by
    obtain ⟨y, hy⟩ := h x (List.mem_cons_self ..)
    obtain ⟨m, hm⟩ := all2_of (l := l) fun z hz => h z (List.mem_cons_of_mem _ hz)
    exact ⟨y :: m, .cons hy hm⟩
theorem All2.length {α β : Type} {R : α → β → Prop} {l : List α} {m : List β} (h : All2 R l m) : l.length = m.length := by
  induction h with
  | nil => rfl
  | cons _ _ ih => simp [ih]
theorem All2.right {α β : Type} {R : α → β → Prop} {l : List α} {m : List β} (h : All2 R l m) : ∀ y ∈ m, ∃ x, R x y := by
  induction h with
  | nil => intro y hy; simp at hy
  | cons hr _ ih =>
    intro y hy
    rcases List.mem_cons.1 hy with rfl | hy
    · exact ⟨_, hr⟩
    · exact ih y hy
section
variable {H : Type} {enc : TypeId × Value → H} {P : Program} {w : World} {S : List Nat}
def Good (enc : TypeId × Value → H) (P : Program) (w : World) (fuel t : Nat) (cs : List Value) (x : DataW H × List MemPlace) : Prop :=
  (∃ xs, RepA (hv w) xs cs ∧ (∀ y ∈ xs, y.isAgg = false) ∧ xs.length = P.cellsOf t ∧ Shp P fuel t xs) ∧ ∀ sp : Nat → Bool, (∀ p ∈ x.2, sp p.block = true) → DataW.trod enc P w 0 sp true fuel t cs = some x
theorem shp_one {fuel t : Nat} {xs : List T} (h : Shp P fuel t xs) (hg : isGroup P t = false) (hok : okTy P S t = true) : ∃ x, xs = [x] ∧ x.isAgg = false ∧ x.cells = [x] := by
  cases fuel with
  | zero => exact absurd h (by simp [Shp])
  | succ fuel =>
    unfold Shp at h
    unfold isGroup at hg
    split at h
    · obtain ⟨b, rfl⟩ := h; exact ⟨_, rfl, rfl, rfl⟩
    · obtain ⟨b, rfl, _⟩ := h; exact ⟨_, rfl, rfl, rfl⟩
    · obtain ⟨b, rfl, _⟩ := h; exact ⟨_, rfl, rfl, rfl⟩
    · obtain ⟨b, rfl, _⟩ := h; exact ⟨_, rfl, rfl, rfl⟩
    · obtain ⟨b, rfl, _⟩ := h; exact ⟨_, rfl, rfl, rfl⟩
    · rename_i hu; rw [hu] at hg; simp at hg
    · exact absurd h (by simp)
theorem good_elem {fuel e : Nat} {cs : List Value} {x : DataW H × List MemPlace} (hok : okTy P S e = true) (h : Good enc P w fuel e cs x) :
    ∃ z : T, RepA (hv w) z.cells cs ∧ (∀ y ∈ z.cells, y.isAgg = false) ∧ z.cells.length = P.cellsOf e ∧ z.isAgg = isGroup P e ∧ Shp P fuel e z.cells := by
  obtain ⟨⟨xs, h1, h2, h3, h4⟩, _⟩ := h
  cases hg : isGroup P e with
  | true => exact ⟨.agg xs, h1, h2, h3, rfl, h4⟩
  | false =>
    obtain ⟨z, rfl, hz, hzc⟩ := shp_one h4 hg hok
    exact ⟨z, by rw [hzc]; exact h1, by rw [hzc]; exact h2, by rw [hzc]; exact h3, hz, by rw [hzc]; exact h4⟩
theorem elems_rep {fuel e : Nat} : ∀ {css : List (List Value)} {l : List T}, All2 (fun cs z => RepA (hv w) z.cells cs ∧ (∀ y ∈ z.cells, y.isAgg = false) ∧ z.cells.length = P.cellsOf e ∧ z.isAgg = isGroup P e ∧ Shp P fuel e z.cells) css l →
    RepA (hv w) (l.flatMap T.cells) css.flatten ∧ (∀ y ∈ l.flatMap T.cells, y.isAgg = false)
  | _, _, .nil => ⟨.nil, by simp⟩
  | _, _, .cons h h' => by
    obtain ⟨h1, h2⟩ := elems_rep h'
    rw [List.flatMap_cons, List.flatten_cons]
    refine ⟨h.1.append h1, fun y hy => ?_⟩
    rcases List.mem_append.1 hy with hy | hy
    · exact h.2.1 y hy
    · exact h2 y hy
theorem fields_rep {fuel : Nat} {cs : List Value} (ih : ∀ t ∈ S, ∀ (cs : List Value) (x : DataW H × List MemPlace), DataW.trod enc P w 0 (fun _ => true) true fuel t cs = some x → Good enc P w fuel t cs x) : ∀ (fs : List Field) (o : Nat) (ys : List (DataW H × List MemPlace)),
    tiles P S cs.length o fs = true → fs.mapM (fun f => DataW.trod enc P w 0 (fun _ => true) true fuel f.type ((cs.drop f.offset).take (P.cellsOf f.type))) = some ys →
    ∃ parts : List (List T), RepA (hv w) parts.flatten (cs.drop o) ∧ (∀ y ∈ parts.flatten, y.isAgg = false) ∧ All2 (fun (f : Field) p => Shp P fuel f.type p) fs parts
  | [], o, ys, ht, _ => by
    have := Nat.eq_of_beq_eq_true ht; subst this
    rw [List.drop_of_length_le (Nat.le_refl _)]
    exact ⟨[], .nil, by simp, .nil⟩
  | f :: fs, o, ys, ht, h => by
    simp only [tiles, Bool.and_eq_true] at ht
    obtain ⟨h1, h2, h3⟩ := ht
    have := Nat.eq_of_beq_eq_true h1; subst this
    rw [List.mapM_cons] at h
    obtain ⟨y, hy, h⟩ := bsome (a := DataW.trod enc P w 0 (fun _ => true) true fuel f.type ((cs.drop f.offset).take (P.cellsOf f.type))) h
    obtain ⟨ys', hys, _⟩ := bsome (a := fs.mapM (fun f => DataW.trod enc P w 0 (fun _ => true) true fuel f.type ((cs.drop f.offset).take (P.cellsOf f.type)))) h
    obtain ⟨⟨xs, a1, a2, a3, a4⟩, _⟩ := ih f.type (by simpa using h2) _ _ hy
    obtain ⟨parts, b1, b2, b3⟩ := fields_rep ih fs _ _ h3 hys
    refine ⟨xs :: parts, ?_, fun z hz => ?_, .cons a4 b3⟩
    · rw [List.flatten_cons, ← List.take_append_drop (P.cellsOf f.type) (cs.drop f.offset), List.drop_drop]
      exact a1.append b1
    · rw [List.flatten_cons] at hz
      rcases List.mem_append.1 hz with hz | hz
      · exact a2 z hz
      · exact b2 z hz
theorem trod_good (hS : ∀ t ∈ S, okTy P S t = true) : ∀ (fuel t : Nat), t ∈ S → ∀ (cs : List Value) (x : DataW H × List MemPlace), DataW.trod enc P w 0 (fun _ => true) true fuel t cs = some x → Good enc P w fuel t cs x := by
  intro fuel
  induction fuel with
  | zero => intro t _ cs x h; simp [DataW.trod] at h
  | succ fuel ih =>
    intro t htS cs x h
    have hok := hS t htS
    have one : ∀ (v : Value), isSc v = true → cs = [v] → Nat.beq (P.cellsOf t) 1 = true → Shp P (fuel + 1) t [.s v] → (∀ sp : Nat → Bool, (∀ p ∈ x.2, sp p.block = true) → DataW.trod enc P w 0 sp true (fuel + 1) t cs = some x) → Good enc P w (fuel + 1) t cs x := by
      rintro v hv' rfl h1 h2 h3
      exact ⟨⟨[.s v], .cons (.s hv') .nil, by simp [T.isAgg], by rw [Nat.eq_of_beq_eq_true h1]; rfl, h2⟩, h3⟩
    have hh := h
    rw [DataW.trod_step] at h
    unfold DataW.trodStep at h
    split at h
    case h_1 b hu =>
      refine one _ rfl rfl (by simpa [okTy, hu] using hok) (by simp only [Shp, hu]; exact ⟨b, rfl⟩) fun sp _ => ?_
      rw [DataW.trod_step] at hh ⊢; unfold DataW.trodStep at hh ⊢; simp only [hu] at hh ⊢; exact hh
    case h_2 k k' n hu =>
      split at h
      · rename_i hc
        obtain ⟨rfl, hw⟩ := hc
        refine one (.int k' n) (show isSc (.int k' n) = true from hw) rfl (by simpa [okTy, hu] using hok) (by simp only [Shp, hu]; exact ⟨n, rfl, hw⟩) fun sp _ => ?_
        rw [DataW.trod_step] at hh ⊢; unfold DataW.trodStep at hh ⊢; simp only [hu] at hh ⊢; exact hh
      · simp at h
    case h_3 k k' b hu =>
      split at h
      · rename_i hc
        obtain ⟨rfl, hw⟩ := hc
        refine one _ rfl rfl (by simpa [okTy, hu] using hok) (by simp only [Shp, hu]; exact ⟨b, rfl, hw⟩) fun sp _ => ?_
        rw [DataW.trod_step] at hh ⊢; unfold DataW.trodStep at hh ⊢; simp only [hu] at hh ⊢; exact hh
      · simp at h
    case h_4 st hu =>
      split at h
      · rename_i hc
        refine one _ (by show Nat.ble _ _ = true; rw [Nat.ble_eq]; exact hc) rfl (by simpa [okTy, hu] using hok) (by simp only [Shp, hu]; exact ⟨st, rfl, hc⟩) fun sp _ => ?_
        rw [DataW.trod_step] at hh ⊢; unfold DataW.trodStep at hh ⊢; simp only [hu] at hh ⊢; exact hh
      · simp at h
    case h_7 e hu =>
      simp only [okTy, hu, Bool.and_eq_true] at hok
      refine ⟨⟨[.sl (P.cellsOf e) []], .cons (.sl (l := []) (vs := []) .nil (by simp) (by simp) (by simp) (by simp [maxLen]) (.inl rfl)) .nil, by simp [T.isAgg], by rw [Nat.eq_of_beq_eq_true hok.1]; rfl, ?_⟩, fun sp _ => ?_⟩
      · simp only [Shp, hu]; exact ⟨[], rfl, by simp, by simp⟩
      · rw [DataW.trod_step] at hh ⊢; unfold DataW.trodStep at hh ⊢; simp only [hu] at hh ⊢; exact hh
    case h_8 e a len cap hu =>
      simp only [okTy, hu, Bool.and_eq_true, List.contains_iff_mem] at hok
      obtain ⟨ho1, ho2, ho3⟩ := hok
      have hk : 0 < P.cellsOf e := by rw [Nat.blt_eq] at ho3; exact ho3
      simp only [] at h
      split at h
      · rename_i hc
        obtain ⟨hc0, hc1, hc2⟩ := hc
        simp only [Option.map_eq_some_iff, Option.bind_eq_some_iff] at h
        obtain ⟨elems, he, rest, hrest, rfl⟩ := h
        have hlen : elems.length = len := by simpa using mapM_some_length he
        obtain ⟨css, hcl, hcs⟩ := mapM_split he
        have hz : ∀ cs ∈ css, ∃ z : T, RepA (hv w) z.cells cs ∧ (∀ y ∈ z.cells, y.isAgg = false) ∧ z.cells.length = P.cellsOf e ∧ z.isAgg = isGroup P e ∧ Shp P fuel e z.cells := by
          intro cs hm
          obtain ⟨i, hi⟩ := List.mem_iff_getElem?.1 hm
          obtain ⟨_, y, _, hy⟩ := hcs i cs hi
          exact good_elem (hS e ho2) (ih e ho2 _ _ hy)
        obtain ⟨l, hl⟩ := all2_of hz
        obtain ⟨r1, r2⟩ := elems_rep hl
        have hll : l.length = len := by rw [← hl.length, hcl]
        have hrd := rows_rd (w := w) (a := a) hk css 0 fun i cs hi => by rw [Nat.zero_add]; exact (hcs i cs hi).1
        refine ⟨⟨[.sl (P.cellsOf e) l], .cons ?_ .nil, by simp [T.isAgg], by rw [Nat.eq_of_beq_eq_true ho1]; rfl, ?_⟩, fun sp hsp => ?_⟩
        · rw [← hll]
          refine .sl r1 r2 (fun x hx => ?_) (by rw [hll]; exact hc1) hc2 ?_
          · obtain ⟨cs, hx1⟩ := hl.right x hx
            exact hx1.2.2.1
          · cases hl0 : css with
            | nil => rw [hl0] at hcl; left; rw [← List.length_eq_zero_iff]; rw [hll, ← hcl]; rfl
            | cons c0 css' =>
              right
              have h0 := (hcs 0 c0 (by rw [hl0]; rfl)).1
              obtain ⟨_, hcl0, hcc⟩ := World.cells?_some h0
              have h00 := hcc 0 hk
              have hc00 : c0[0]? = some (c0[0]'(by omega)) := by rw [List.getElem?_eq_getElem]
              rw [hc00] at h00
              have hsp : a.spot = none := by
                have e0 : (a.add (0 * P.cellsOf e)).add 0 = a := by unfold Addr.add; simp
                rw [e0] at h00
                exact (rd_of_cell h00).1
              refine ⟨a.block, a.off, by cases a; simp at hsp; subst hsp; rfl, fun j c hj => ?_⟩
              rw [← hl0] at hj
              have := (hrd j c hj).1
              simpa using this
        · simp only [Shp, hu]
          refine ⟨l, rfl, by omega, fun x hx => ?_⟩
          obtain ⟨cs, hx1⟩ := hl.right x hx
          exact ⟨hx1.2.2.2.1, hx1.2.2.2.2⟩
        · rw [DataW.trod_step]
          unfold DataW.trodStep
          simp only [hu]
          rw [if_pos ⟨hc0, hc1, hc2⟩]
          simp only [Option.map_eq_some_iff, Option.bind_eq_some_iff]
          have elem : ∀ (i : Nat) (y : DataW H × List MemPlace), y ∈ elems ++ rest → (w.cells? 0 (a.add (i * P.cellsOf e)) (P.cellsOf e)).bind (DataW.trod enc P w 0 (fun _ => true) true fuel e) = some y →
              (w.cells? 0 (a.add (i * P.cellsOf e)) (P.cellsOf e)).bind (DataW.trod enc P w 0 sp true fuel e) = some y := by
            intro i y hy h1
            obtain ⟨cs, h2, h3⟩ := Option.bind_eq_some_iff.1 h1
            refine Option.bind_eq_some_iff.2 ⟨cs, h2, (ih e ho2 _ _ h3).2 sp fun p hp => hsp p ?_⟩
            exact List.mem_append_right _ (List.mem_flatMap.2 ⟨y, hy, hp⟩)
          refine ⟨elems, mapM_carry he fun i y _ hy h1 => elem i y (List.mem_append_left _ hy) h1, rest, ?_, rfl⟩
          simp only [if_true] at hrest
          by_cases h0 : cap - len = 0
          · rw [h0] at hrest ⊢
            simp at hrest
            subst hrest
            split <;> rfl
          · have hrl : rest.length = cap - len := by simpa using mapM_some_length hrest
            have : sp a.block = true := hsp (.cell a.block (a.off + 0)) (List.mem_append_left _ (MemPlace.mem_row.2 ⟨0, Nat.mul_pos (by omega) hk, rfl⟩))
            rw [if_pos this]
            exact mapM_carry hrest fun i y _ hy h1 => elem _ y (List.mem_append_right _ hy) h1
      · simp at h
    case h_9 fs hu =>
      simp only [okTy, hu] at hok
      split at h
      · rename_i hc
        simp only [Option.map_eq_some_iff] at h
        obtain ⟨ys, hy, rfl⟩ := h
        rw [← hc] at hok
        obtain ⟨parts, b1, b2, b3⟩ := fields_rep ih fs.toList 0 ys hok hy
        rw [List.drop_zero] at b1
        refine ⟨⟨parts.flatten, b1, b2, by rw [b1.length, hc], ?_⟩, fun sp hsp => ?_⟩
        · simp only [Shp, hu]; exact ⟨parts, rfl, b3⟩
        · rw [DataW.trod_step]
          unfold DataW.trodStep
          simp only [hu]
          rw [if_pos hc]
          simp only [Option.map_eq_some_iff]
          have inS : ∀ (N : Nat) (l : List Field) (o : Nat), tiles P S N o l = true → ∀ f ∈ l, f.type ∈ S := by
            intro N l
            induction l with
            | nil => intro o _ f hf; simp at hf
            | cons g l ihl =>
              intro o ht f hf
              simp only [tiles, Bool.and_eq_true] at ht
              rcases List.mem_cons.1 hf with rfl | hf
              · simpa using ht.2.1
              · exact ihl _ ht.2.2 f hf
          refine ⟨ys, mapM_carry hy fun f y hf hym h1 => (ih f.type (inS _ _ _ hok f hf) _ _ h1).2 sp fun p hp => hsp p (List.mem_flatMap.2 ⟨y, hym, hp⟩), rfl⟩
      · simp at h
    all_goals first
      | (rename_i hu; simp [okTy, hu] at hok; done)
      | (rename_i hu _; simp [okTy, hu] at hok; done)
      | (simp at h; done)
end
end Su
end
section
namespace Su
open Go Fly Go.RowKit Go.ChangeShapes
section
variable {H : Type} {enc : TypeId × Value → H} {P : Program} {w : World} {S : List Nat}
def IsTy (P : Program) (t : Nat) (x : T) : Prop := x.isAgg = isGroup P t ∧ ∃ fuel, Shp P fuel t x.cells
theorem not_agg {r : Reach} {b0 : Nat} {t : Nat} {cs : Array Value} (hok : okTy P S t = true) (hg : isGroup P t = false) (h : Value.okWide P w r b0 t (.agg cs)) : False := by
  unfold okTy at hok
  unfold Value.okWide Cell.okWide Cell.ok at h
  unfold isGroup at hg
  split at hok
  all_goals rename_i hu
  all_goals first
    | (simp [hu] at hok; done)
    | (simp [hu] at hg; done)
    | (simp [hu] at h; done)
theorem arg_tree (hS : ∀ t ∈ S, okTy P S t = true) {r : Reach} {b0 t : Nat} {v : Value} {d : DataW H} {p : List MemPlace} (ht : t ∈ S) (hval : Value.okWide P w r b0 t v) (h : DataW.Trod enc P w 0 (fun _ => true) true t v d p) :
    (∃ x, Rep (hv w) x v ∧ IsTy P t x) ∧ ∀ sp : Nat → Bool, (∀ q ∈ p, sp q.block = true) → DataW.Trod enc P w 0 sp true t v d p := by
  obtain ⟨fuel, hf⟩ := h
  have hgood := trod_good hS fuel t ht _ _ hf
  refine ⟨?_, fun sp hsp => ⟨fuel, hgood.2 sp hsp⟩⟩
  obtain ⟨⟨xs, h1, h2, h3, h4⟩, _⟩ := hgood
  cases hg : isGroup P t with
  | true =>
    have : ∃ cs, v = .agg cs := by
      unfold isGroup at hg
      split at hg
      · rename_i fs hu
        unfold Value.okWide at hval
        rw [hu] at hval
        obtain ⟨cs, rfl, _⟩ := hval
        exact ⟨cs, rfl⟩
      · simp at hg
    obtain ⟨cs, rfl⟩ := this
    simp only [Value.cells] at h1
    exact ⟨.agg xs, .agg h1 h2, by rw [hg]; rfl, fuel, h4⟩
  | false =>
    obtain ⟨z, rfl, hz, hzc⟩ := shp_one h4 hg (hS t ht)
    have hvc : v.cells = #[v] := by
      cases v with
      | agg cs => exact absurd hval fun h => not_agg (hS t ht) hg h
      | _ => rfl
    rw [hvc] at h1
    cases h1 with
    | cons h1 _ => exact ⟨z, h1, by rw [hz, hg], fuel, by rw [hzc]; exact h4⟩
theorem args_trees (hS : ∀ t ∈ S, okTy P S t = true) {r : Reach} {b0 : Nat} : ∀ (ts : List Nat) (vs : List Value) (ds : List (DataW H)) (p : List MemPlace), (∀ t ∈ ts, t ∈ S) → (∀ (j : Nat) t v, ts[j]? = some t → vs[j]? = some v → Value.okWide P w r b0 t v) →
    DataW.TrodAll enc P w 0 (fun _ => true) true ts vs ds p →
    (∃ xs, RepA (hv w) xs vs ∧ All2 (IsTy P) ts xs) ∧ ∀ sp : Nat → Bool, (∀ q ∈ p, sp q.block = true) → DataW.TrodAll enc P w 0 sp true ts vs ds p
  | [], vs, ds, p, _, _, h => by
    obtain ⟨rfl, rfl, rfl⟩ := trodAll_nil h
    exact ⟨⟨[], .nil, .nil⟩, fun _ _ => rfl⟩
  | t :: ts, vs, ds, p, hts, hval, h => by
    obtain ⟨v, vs1, d, ds1, a, b, rfl, rfl, rfl, h1, h2⟩ := trodAll_cons h
    obtain ⟨⟨x, a1, a2⟩, a3⟩ := arg_tree hS (hts t (List.mem_cons_self ..)) (hval 0 t v rfl rfl) h1
    obtain ⟨⟨xs, b1, b2⟩, b3⟩ := args_trees hS ts vs1 ds1 b (fun u hu => hts u (List.mem_cons_of_mem _ hu)) (fun j t v hj hv => hval (j + 1) t v (by simpa using hj) (by simpa using hv)) h2
    exact ⟨⟨x :: xs, .cons a1 b1, .cons a2 b2⟩, fun sp hsp => ⟨a, b, a3 sp fun q hq => hsp q (List.mem_append_left _ hq), b3 sp fun q hq => hsp q (List.mem_append_right _ hq), rfl⟩⟩
theorem trodAll_carry {w' : World} {base : Nat} {sp : Nat → Bool} : ∀ (ts : List Nat) (vs : List Value) (ds : List (DataW H)) (p : List MemPlace), DataW.TrodAll enc P w base sp true ts vs ds p → (∀ q ∈ p, w.sameAt w' q) → DataW.TrodAll enc P w' base sp true ts vs ds p
  | [], vs, ds, p, h, _ => by
    obtain ⟨rfl, rfl, rfl⟩ := trodAll_nil h
    exact rfl
  | t :: ts, vs, ds, p, h, hs => by
    obtain ⟨v, vs1, d, ds1, a, b, rfl, rfl, rfl, h1, h2⟩ := trodAll_cons h
    obtain ⟨fuel, hf⟩ := h1
    exact ⟨a, b, ⟨fuel, DataW.trod_carry _ _ _ _ hf fun q hq => hs q (List.mem_append_left _ hq)⟩, trodAll_carry ts vs1 ds1 b h2 fun q hq => hs q (List.mem_append_right _ hq), rfl⟩
end
end Su
end
