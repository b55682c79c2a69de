/-
  The evaluator computes what the plain functions say.
-/
import Derived.Test.YtnegfdebjikfiaaGreatNC01
import Derived.Test.YtnegfdebjikfiaaGreatSuTb
import Derived.Test.YtnegfdebjikfiaaGreatNC08
import Derived.Test.YtnegfdebjikfiaaGreatNC12
import Derived.Test.YtnegfdebjikfiaaGreatNC13
import Derived.Test.YtnegfdebjikfiaaGreatNC14
import Derived.Test.YtnegfdebjikfiaaGreatNC19
set_option maxRecDepth 10000
section
namespace Su
open Go Go.Proofs Fly
set_option maxRecDepth 100000
theorem pParts_eq (fu : Nat)  (f : Int) : shFn tb noPr (shN tb noPr fu 9) fu 121 ((d1 (cI .u64)).enc (f)) ((dc cB (dc (cI .i64) (d1 (cI .u64))))).dec = pParts f := by kernel_rfl
noncomputable def pParts_p : PrimD := prim (d1 (cI .u64)) (dc cB (dc (cI .i64) (d1 (cI .u64)))) (pParts_s)
theorem pParts_c : Ok1 Tryz.prog tb btsOK.sound 121 pParts_p := prim_ok k_ok noPr_ok (by kernel_rfl) fun a y hg h => ⟨0, 9, 0, (pParts_eq 0 a).trans (pParts_ok a y hg h)⟩
theorem pMake_eq (fu : Nat)  (neg : Bool) (exp : Int) (frac : Int) : shFn tb noPr (shN tb noPr fu 9) fu 107 ((dc cB (dc (cI .i64) (d1 (cI .u64)))).enc (neg, exp, frac)) ((dc (cI .u64) (d1 (cI .i64)))).dec = pMake neg exp frac := by kernel_rfl
noncomputable def pMake_p : PrimD := prim (dc cB (dc (cI .i64) (d1 (cI .u64)))) (dc (cI .u64) (d1 (cI .i64))) (pMake_s)
theorem pMake_c : Ok1 Tryz.prog tb btsOK.sound 107 pMake_p := prim_ok k_ok noPr_ok (by kernel_rfl) fun a y hg h => ⟨0, 9, 0, (pMake_eq 0 a.1 a.2.1 a.2.2).trans (pMake_ok a y hg h)⟩
noncomputable def pr_C01 : Prims := extL [(121, pParts_p), (107, pMake_p)] noPr
theorem pr_C01_ok : PrimOK Tryz.prog tb btsOK.sound pr_C01 := extL_ok noPr_ok (ok_cons pParts_c (ok_cons pMake_c ok_nil))
end Su
end
section
namespace Su
open Go Go.Proofs Fly
set_option maxRecDepth 100000
theorem pClass_eq (fu : Nat)  (f : Int) : shFn tb pr_C01 (shN tb pr_C01 fu 9) fu 95 ((d1 (cI .u64)).enc (f)) ((d1 (cI .u8))).dec = pClass f := by kernel_rfl
noncomputable def pClass_p : PrimD := prim (d1 (cI .u64)) (d1 (cI .u8)) (pClass_s)
theorem pClass_c : Ok1 Tryz.prog tb btsOK.sound 95 pClass_p := prim_ok k_ok pr_C01_ok (by kernel_rfl) fun a y hg h => ⟨0, 9, 0, (pClass_eq 0 a).trans (pClass_ok a y hg h)⟩
theorem pKey_eq (fu : Nat)  (f : Int) : shFn tb pr_C01 (shN tb pr_C01 fu 9) fu 114 ((d1 (cI .u64)).enc (f)) ((d1 (cI .i64))).dec = pKey f := by kernel_rfl
noncomputable def pKey_p : PrimD := prim (d1 (cI .u64)) (d1 (cI .i64)) (pKey_s)
theorem pKey_c : Ok1 Tryz.prog tb btsOK.sound 114 pKey_p := prim_ok k_ok pr_C01_ok (by kernel_rfl) fun a y hg h => ⟨0, 9, 0, (pKey_eq 0 a).trans (pKey_ok a y hg h)⟩
theorem pInf_eq (fu : Nat)  (neg : Bool) : shFn tb pr_C01 (shN tb pr_C01 fu 9) fu 59 ((d1 cB).enc (neg)) ((d1 (cI .u64))).dec = pInf neg := by kernel_rfl
noncomputable def pInf_p : PrimD := prim (d1 cB) (d1 (cI .u64)) (pInf_s)
theorem pInf_c : Ok1 Tryz.prog tb btsOK.sound 59 pInf_p := prim_ok k_ok pr_C01_ok (by kernel_rfl) fun a y hg h => ⟨0, 9, 0, (pInf_eq 0 a).trans (pInf_ok a y hg h)⟩
theorem pQuiet_eq (fu : Nat)  : shFn tb pr_C01 (shN tb pr_C01 fu 9) fu 122 (d0.enc ()) ((d1 (cI .u64))).dec = pQuiet  := by kernel_rfl
noncomputable def pQuiet_p : PrimD := prim d0 (d1 (cI .u64)) (fun a => pQuiet )
theorem pQuiet_c : Ok1 Tryz.prog tb btsOK.sound 122 pQuiet_p := prim_ok k_ok pr_C01_ok (by kernel_rfl) fun a y hg h => ⟨0, 9, 0, (pQuiet_eq 0 ).trans h⟩
noncomputable def pr_C02 : Prims := extL [(95, pClass_p), (114, pKey_p), (59, pInf_p), (122, pQuiet_p)] pr_C01
theorem pr_C02_ok : PrimOK Tryz.prog tb btsOK.sound pr_C02 := extL_ok pr_C01_ok (ok_cons pClass_c (ok_cons pKey_c (ok_cons pInf_c (ok_cons pQuiet_c ok_nil))))
end Su
end
section
namespace Su
open Go Go.Proofs Fly
set_option maxRecDepth 100000
theorem pSplit_eq (fu : Nat)  (f : Int) : shFn tb pr_C02 (shN tb pr_C02 fu 9) fu 155 ((d1 (cI .u64)).enc (f)) ((dc (cI .u64) (d1 (cI .i64)))).dec = pSplit f := by kernel_rfl
noncomputable def pSplit_p : PrimD := prim (d1 (cI .u64)) (dc (cI .u64) (d1 (cI .i64))) (pSplit_s)
theorem pSplit_c : Ok1 Tryz.prog tb btsOK.sound 155 pSplit_p := prim_ok k_ok pr_C02_ok (by kernel_rfl) fun a y hg h => ⟨0, 9, 0, (pSplit_eq 0 a).trans (pSplit_ok a y hg h)⟩
theorem pNan_eq (fu : Nat)  (f : Int) : shFn tb pr_C02 (shN tb pr_C02 fu 9) fu 99 ((d1 (cI .u64)).enc (f)) ((d1 cB)).dec = pNan f := by kernel_rfl
noncomputable def pNan_p : PrimD := prim (d1 (cI .u64)) (d1 cB) (pNan_s)
theorem pNan_c : Ok1 Tryz.prog tb btsOK.sound 99 pNan_p := prim_ok k_ok pr_C02_ok (by kernel_rfl) fun a y hg h => ⟨0, 9, 0, (pNan_eq 0 a).trans (pNan_ok a y hg h)⟩
noncomputable def pr_C03 : Prims := extL [(155, pSplit_p), (99, pNan_p)] pr_C02
theorem pr_C03_ok : PrimOK Tryz.prog tb btsOK.sound pr_C03 := extL_ok pr_C02_ok (ok_cons pSplit_c (ok_cons pNan_c ok_nil))
end Su
end
section
namespace Su
open Go Go.Proofs Fly
set_option maxRecDepth 100000
theorem pCmp_eq (fu : Nat)  (a : Int) (b : Int) : shFn tb pr_C03 (shN tb pr_C03 fu 9) fu 80 ((dc (cI .u64) (d1 (cI .u64))).enc (a, b)) ((dc (cI .i64) (d1 cB))).dec = pCmp a b := by kernel_rfl
noncomputable def pCmp_p : PrimD := prim (dc (cI .u64) (d1 (cI .u64))) (dc (cI .i64) (d1 cB)) (pCmp_s)
theorem pCmp_c : Ok1 Tryz.prog tb btsOK.sound 80 pCmp_p := prim_ok k_ok pr_C03_ok (by kernel_rfl) fun a y hg h => ⟨0, 9, 0, (pCmp_eq 0 a.1 a.2).trans (pCmp_ok a y hg h)⟩
theorem pNeg_eq (fu : Nat)  (f : Int) : shFn tb pr_C03 (shN tb pr_C03 fu 9) fu 44 ((d1 (cI .u64)).enc (f)) ((d1 (cI .u64))).dec = pNeg f := by kernel_rfl
noncomputable def pNeg_p : PrimD := prim (d1 (cI .u64)) (d1 (cI .u64)) (pNeg_s)
theorem pNeg_c : Ok1 Tryz.prog tb btsOK.sound 44 pNeg_p := prim_ok k_ok pr_C03_ok (by kernel_rfl) fun a y hg h => ⟨0, 9, 0, (pNeg_eq 0 a).trans (pNeg_ok a y hg h)⟩
theorem pAbs_eq (fu : Nat)  (f : Int) : shFn tb pr_C03 (shN tb pr_C03 fu 9) fu 55 ((d1 (cI .u64)).enc (f)) ((d1 (cI .u64))).dec = pAbs f := by kernel_rfl
noncomputable def pAbs_p : PrimD := prim (d1 (cI .u64)) (d1 (cI .u64)) (pAbs_s)
theorem pAbs_c : Ok1 Tryz.prog tb btsOK.sound 55 pAbs_p := prim_ok k_ok pr_C03_ok (by kernel_rfl) fun a y hg h => ⟨0, 9, 0, (pAbs_eq 0 a).trans (pAbs_ok a y hg h)⟩
noncomputable def pr_C04 : Prims := extL [(80, pCmp_p), (44, pNeg_p), (55, pAbs_p)] pr_C03
theorem pr_C04_ok : PrimOK Tryz.prog tb btsOK.sound pr_C04 := extL_ok pr_C03_ok (ok_cons pCmp_c (ok_cons pNeg_c (ok_cons pAbs_c ok_nil)))
end Su
end
section
namespace Su
open Go Go.Proofs Fly
set_option maxRecDepth 100000
theorem pLess_eq (fu : Nat)  (a : Int) (b : Int) : shFn tb pr_C04 (shN tb pr_C04 fu 9) fu 75 ((dc (cI .u64) (d1 (cI .u64))).enc (a, b)) ((d1 cB)).dec = pLess a b := by kernel_rfl
noncomputable def pLess_p : PrimD := prim (dc (cI .u64) (d1 (cI .u64))) (d1 cB) (pLess_s)
theorem pLess_c : Ok1 Tryz.prog tb btsOK.sound 75 pLess_p := prim_ok k_ok pr_C04_ok (by kernel_rfl) fun a y hg h => ⟨0, 9, 0, (pLess_eq 0 a.1 a.2).trans (pLess_ok a y hg h)⟩
noncomputable def pr_C05 : Prims := extL [(75, pLess_p)] pr_C04
theorem pr_C05_ok : PrimOK Tryz.prog tb btsOK.sound pr_C05 := extL_ok pr_C04_ok (ok_cons pLess_c ok_nil)
end Su
end
section
namespace Su
open Go Go.Proofs Fly
set_option maxRecDepth 100000
theorem pMax_eq (fu : Nat) (l : (List Int)) : shFn tb pr_C05 (shN tb pr_C05 fu 9) fu 42 ((d1 (cQ 2 1)).enc (l)) ((d1 (cI .u64))).dec = pMax fu l := by kernel_rfl
noncomputable def pMax_p : PrimD := prim (d1 (cQ 2 1)) (d1 (cI .u64)) (pMax_s)
theorem pMax_c : Ok1 Tryz.prog tb btsOK.sound 42 pMax_p := prim_ok k_ok pr_C05_ok (by kernel_rfl) fun a y hg h => by
  obtain ⟨n, hn⟩ := pMax_ok a y hg h
  exact ⟨n, 9, n, (pMax_eq n a).trans hn⟩
theorem pMin_eq (fu : Nat) (l : (List Int)) : shFn tb pr_C05 (shN tb pr_C05 fu 9) fu 94 ((d1 (cQ 2 1)).enc (l)) ((d1 (cI .u64))).dec = pMin fu l := by kernel_rfl
noncomputable def pMin_p : PrimD := prim (d1 (cQ 2 1)) (d1 (cI .u64)) (pMin_s)
theorem pMin_c : Ok1 Tryz.prog tb btsOK.sound 94 pMin_p := prim_ok k_ok pr_C05_ok (by kernel_rfl) fun a y hg h => by
  obtain ⟨n, hn⟩ := pMin_ok a y hg h
  exact ⟨n, 9, n, (pMin_eq n a).trans hn⟩
noncomputable def pr_C06 : Prims := extL [(42, pMax_p), (94, pMin_p)] pr_C05
theorem pr_C06_ok : PrimOK Tryz.prog tb btsOK.sound pr_C06 := extL_ok pr_C05_ok (ok_cons pMax_c (ok_cons pMin_c ok_nil))
end Su
end
section
namespace Su
open Go Go.Proofs Fly
set_option maxRecDepth 100000
theorem Len64_eq (fu : Nat)  (x : Int) : shFn tb pr_C06 (shN tb pr_C06 fu 9) fu 154 ((d1 (cI .u64)).enc (x)) ((d1 (cI .i64))).dec = Len64 x := by kernel_rfl
noncomputable def Len64_p : PrimD := prim (d1 (cI .u64)) (d1 (cI .i64)) (Len64_s)
theorem Len64_c : Ok1 Tryz.prog tb btsOK.sound 154 Len64_p := prim_ok k_ok pr_C06_ok (by kernel_rfl) fun a y hg h => ⟨0, 9, 0, (Len64_eq 0 a).trans (Len64_ok a y hg h)⟩
theorem wMul_eq (fu : Nat)  (a : Int) (b : Int) : shFn tb pr_C06 (shN tb pr_C06 fu 9) fu 143 ((dc (cI .u64) (d1 (cI .u64))).enc (a, b)) ((d1 cW)).dec = wMul a b := by kernel_rfl
noncomputable def wMul_p : PrimD := prim (dc (cI .u64) (d1 (cI .u64))) (d1 cW) (wMul_s)
theorem wMul_c : Ok1 Tryz.prog tb btsOK.sound 143 wMul_p := prim_ok k_ok pr_C06_ok (by kernel_rfl) fun a y hg h => ⟨0, 9, 0, (wMul_eq 0 a.1 a.2).trans (wMul_ok a y hg h)⟩
theorem wAdd_eq (fu : Nat)  (a : (Int × Int)) (b : (Int × Int)) : shFn tb pr_C06 (shN tb pr_C06 fu 9) fu 158 ((dc cW (d1 cW)).enc (a, b)) ((dc cW (d1 (cI .u64)))).dec = wAdd a b := by kernel_rfl
noncomputable def wAdd_p : PrimD := prim (dc cW (d1 cW)) (dc cW (d1 (cI .u64))) (wAdd_s)
theorem wAdd_c : Ok1 Tryz.prog tb btsOK.sound 158 wAdd_p := prim_ok k_ok pr_C06_ok (by kernel_rfl) fun a y hg h => ⟨0, 9, 0, (wAdd_eq 0 a.1 a.2).trans (wAdd_ok a y hg h)⟩
theorem wSub_eq (fu : Nat)  (a : (Int × Int)) (b : (Int × Int)) : shFn tb pr_C06 (shN tb pr_C06 fu 9) fu 159 ((dc cW (d1 cW)).enc (a, b)) ((dc cW (d1 (cI .u64)))).dec = wSub a b := by kernel_rfl
noncomputable def wSub_p : PrimD := prim (dc cW (d1 cW)) (dc cW (d1 (cI .u64))) (wSub_s)
theorem wSub_c : Ok1 Tryz.prog tb btsOK.sound 159 wSub_p := prim_ok k_ok pr_C06_ok (by kernel_rfl) fun a y hg h => ⟨0, 9, 0, (wSub_eq 0 a.1 a.2).trans (wSub_ok a y hg h)⟩
noncomputable def pr_C07 : Prims := extL [(154, Len64_p), (143, wMul_p), (158, wAdd_p), (159, wSub_p)] pr_C06
theorem pr_C07_ok : PrimOK Tryz.prog tb btsOK.sound pr_C07 := extL_ok pr_C06_ok (ok_cons Len64_c (ok_cons wMul_c (ok_cons wAdd_c (ok_cons wSub_c ok_nil))))
end Su
end
section
namespace Su
open Go Go.Proofs Fly
set_option maxRecDepth 100000
theorem wLen_eq (fu : Nat)  (a : (Int × Int)) : shFn tb pr_C07 (shN tb pr_C07 fu 9) fu 165 ((d1 cW).enc (a)) ((d1 (cI .i64))).dec = wLen a := by kernel_rfl
noncomputable def wLen_p : PrimD := prim (d1 cW) (d1 (cI .i64)) (wLen_s)
theorem wLen_c : Ok1 Tryz.prog tb btsOK.sound 165 wLen_p := prim_ok k_ok pr_C07_ok (by kernel_rfl) fun a y hg h => ⟨0, 9, 0, (wLen_eq 0 a).trans (wLen_ok a y hg h)⟩
theorem wShl_eq (fu : Nat) (a : (Int × Int)) (n : Int) : shFn tb pr_C07 (shN tb pr_C07 fu 9) fu 156 ((dc cW (d1 (cI .i64))).enc (a, n)) ((d1 cW)).dec = wShl fu a n := by kernel_rfl
noncomputable def wShl_p : PrimD := prim (dc cW (d1 (cI .i64))) (d1 cW) (wShl_s)
theorem wShl_c : Ok1 Tryz.prog tb btsOK.sound 156 wShl_p := prim_ok k_ok pr_C07_ok (by kernel_rfl) fun a y hg h => by
  obtain ⟨n, hn⟩ := wShl_ok a y hg h
  exact ⟨n, 9, n, (wShl_eq n a.1 a.2).trans hn⟩
theorem wShr_eq (fu : Nat) (a : (Int × Int)) (n : Int) : shFn tb pr_C07 (shN tb pr_C07 fu 9) fu 157 ((dc cW (d1 (cI .i64))).enc (a, n)) ((dc cW (d1 cB))).dec = wShr fu a n := by kernel_rfl
noncomputable def wShr_p : PrimD := prim (dc cW (d1 (cI .i64))) (dc cW (d1 cB)) (wShr_s)
theorem wShr_c : Ok1 Tryz.prog tb btsOK.sound 157 wShr_p := prim_ok k_ok pr_C07_ok (by kernel_rfl) fun a y hg h => by
  obtain ⟨n, hn⟩ := wShr_ok a y hg h
  exact ⟨n, 9, n, (wShr_eq n a.1 a.2).trans hn⟩
noncomputable def pr_C08 : Prims := extL [(165, wLen_p), (156, wShl_p), (157, wShr_p)] pr_C07
theorem pr_C08_ok : PrimOK Tryz.prog tb btsOK.sound pr_C08 := extL_ok pr_C07_ok (ok_cons wLen_c (ok_cons wShl_c (ok_cons wShr_c ok_nil)))
end Su
end
section
namespace Su
open Go Go.Proofs Fly
set_option maxRecDepth 100000
theorem rUp_eq (fu : Nat)  (x : (Bool × (Int × (Int × (Int × Bool))))) (mode : Int) (odd : Bool) (half : Bool) (rest : Bool) : shFn tb pr_C08 (shN tb pr_C08 fu 9) fu 177 ((dc cNmb (dc (cI .u8) (dc cB (dc cB (d1 cB))))).enc (x, mode, odd, half, rest)) ((d1 cB)).dec = rUp x mode odd half rest := by kernel_rfl
noncomputable def rUp_p : PrimD := prim (dc cNmb (dc (cI .u8) (dc cB (dc cB (d1 cB))))) (d1 cB) (rUp_s)
theorem rUp_c : Ok1 Tryz.prog tb btsOK.sound 177 rUp_p := prim_ok k_ok pr_C08_ok (by kernel_rfl) fun a y hg h => ⟨0, 9, 0, (rUp_eq 0 a.1 a.2.1 a.2.2.1 a.2.2.2.1 a.2.2.2.2).trans (rUp_ok a y hg h)⟩
theorem rOver_eq (fu : Nat)  (x : (Bool × (Int × (Int × (Int × Bool))))) (mode : Int) : shFn tb pr_C08 (shN tb pr_C08 fu 9) fu 178 ((dc cNmb (d1 (cI .u8))).enc (x, mode)) ((dc (cI .u64) (d1 (cI .u8)))).dec = rOver x mode := by kernel_rfl
noncomputable def rOver_p : PrimD := prim (dc cNmb (d1 (cI .u8))) (dc (cI .u64) (d1 (cI .u8))) (rOver_s)
theorem rOver_c : Ok1 Tryz.prog tb btsOK.sound 178 rOver_p := prim_ok k_ok pr_C08_ok (by kernel_rfl) fun a y hg h => ⟨0, 9, 0, (rOver_eq 0 a.1 a.2).trans (rOver_ok a y hg h)⟩
noncomputable def pr_C09 : Prims := extL [(177, rUp_p), (178, rOver_p)] pr_C08
theorem pr_C09_ok : PrimOK Tryz.prog tb btsOK.sound pr_C09 := extL_ok pr_C08_ok (ok_cons rUp_c (ok_cons rOver_c ok_nil))
end Su
end
section
namespace Su
open Go Go.Proofs Fly
set_option maxRecDepth 100000
theorem rFloat_eq (fu : Nat)  (x : (Bool × (Int × (Int × (Int × Bool))))) (mode : Int) : shFn tb pr_C09 (shN tb pr_C09 fu 9) fu 166 ((dc cNmb (d1 (cI .u8))).enc (x, mode)) ((dc (cI .u64) (d1 (cI .u8)))).dec = rFloat x mode := by kernel_rfl
noncomputable def rFloat_p : PrimD := prim (dc cNmb (d1 (cI .u8))) (dc (cI .u64) (d1 (cI .u8))) (rFloat_s)
theorem rFloat_c : Ok1 Tryz.prog tb btsOK.sound 166 rFloat_p := prim_ok k_ok pr_C09_ok (by kernel_rfl) fun a y hg h => ⟨0, 9, 0, (rFloat_eq 0 a.1 a.2).trans (rFloat_ok a y hg h)⟩
noncomputable def pr_C10 : Prims := extL [(166, rFloat_p)] pr_C09
theorem pr_C10_ok : PrimOK Tryz.prog tb btsOK.sound pr_C10 := extL_ok pr_C09_ok (ok_cons rFloat_c ok_nil)
end Su
end
section
namespace Su
open Go Go.Proofs Fly
set_option maxRecDepth 100000
theorem rRound_eq (fu : Nat)  (neg : Bool) (m : (Int × Int)) (e : Int) (rest : Bool) (mode : Int) : shFn tb pr_C10 (shN tb pr_C10 fu 9) fu 142 ((dc cB (dc cW (dc (cI .i64) (dc cB (d1 (cI .u8)))))).enc (neg, m, e, rest, mode)) ((dc (cI .u64) (d1 (cI .u8)))).dec = rRound neg m e rest mode := by kernel_rfl
noncomputable def rRound_p : PrimD := prim (dc cB (dc cW (dc (cI .i64) (dc cB (d1 (cI .u8)))))) (dc (cI .u64) (d1 (cI .u8))) (rRound_s)
theorem rRound_c : Ok1 Tryz.prog tb btsOK.sound 142 rRound_p := prim_ok k_ok pr_C10_ok (by kernel_rfl) fun a y hg h => ⟨0, 9, 0, (rRound_eq 0 a.1 a.2.1 a.2.2.1 a.2.2.2.1 a.2.2.2.2).trans (rRound_ok a y hg h)⟩
theorem sOf_eq (fu : Nat)  (f : Int) : shFn tb pr_C10 (shN tb pr_C10 fu 9) fu 123 ((d1 (cI .u64)).enc (f)) ((d1 cNum)).dec = sOf f := by kernel_rfl
noncomputable def sOf_p : PrimD := prim (d1 (cI .u64)) (d1 cNum) (fun a => sOf a)
theorem sOf_c : Ok1 Tryz.prog tb btsOK.sound 123 sOf_p := prim_ok k_ok pr_C10_ok (by kernel_rfl) fun a y hg h => ⟨0, 9, 0, (sOf_eq 0 a).trans h⟩
theorem sZero_eq (fu : Nat)  (neg : Bool) : shFn tb pr_C10 (shN tb pr_C10 fu 9) fu 126 ((d1 cB).enc (neg)) ((d1 (cI .u64))).dec = sZero neg := by kernel_rfl
noncomputable def sZero_p : PrimD := prim (d1 cB) (d1 (cI .u64)) (fun a => sZero a)
theorem sZero_c : Ok1 Tryz.prog tb btsOK.sound 126 sZero_p := prim_ok k_ok pr_C10_ok (by kernel_rfl) fun a y hg h => ⟨0, 9, 0, (sZero_eq 0 a).trans h⟩
noncomputable def pr_C11 : Prims := extL [(142, rRound_p), (123, sOf_p), (126, sZero_p)] pr_C10
theorem pr_C11_ok : PrimOK Tryz.prog tb btsOK.sound pr_C11 := extL_ok pr_C10_ok (ok_cons rRound_c (ok_cons sOf_c (ok_cons sZero_c ok_nil)))
end Su
end
section
namespace Su
open Go Go.Proofs Fly
set_option maxRecDepth 100000
theorem sNadd_eq (fu : Nat)  (x : (Int × (Int × (Bool × (Int × Int))))) (y : (Int × (Int × (Bool × (Int × Int))))) (mode : Int) : shFn tb pr_C11 (shN tb pr_C11 fu 9) fu 127 ((dc cNum (dc cNum (d1 (cI .u8)))).enc (x, y, mode)) ((dc (cI .u64) (d1 (cI .u8)))).dec = sNadd x y mode := by kernel_rfl
noncomputable def sNadd_p : PrimD := prim (dc cNum (dc cNum (d1 (cI .u8)))) (dc (cI .u64) (d1 (cI .u8))) (fun a => sNadd a.1 a.2.1 a.2.2)
theorem sNadd_c : Ok1 Tryz.prog tb btsOK.sound 127 sNadd_p := prim_ok k_ok pr_C11_ok (by kernel_rfl) fun a y hg h => ⟨0, 9, 0, (sNadd_eq 0 a.1 a.2.1 a.2.2).trans h⟩
noncomputable def pr_C12 : Prims := extL [(127, sNadd_p)] pr_C11
theorem pr_C12_ok : PrimOK Tryz.prog tb btsOK.sound pr_C12 := extL_ok pr_C11_ok (ok_cons sNadd_c ok_nil)
end Su
end
section
namespace Su
open Go Go.Proofs Fly
set_option maxRecDepth 100000
theorem sAdd_eq (fu : Nat)  (a : Int) (b : Int) (mode : Int) : shFn tb pr_C12 (shN tb pr_C12 fu 9) fu 98 ((dc (cI .u64) (dc (cI .u64) (d1 (cI .u8)))).enc (a, b, mode)) ((dc (cI .u64) (d1 (cI .u8)))).dec = sAdd a b mode := by kernel_rfl
noncomputable def sAdd_p : PrimD := prim (dc (cI .u64) (dc (cI .u64) (d1 (cI .u8)))) (dc (cI .u64) (d1 (cI .u8))) (fun a => sAdd a.1 a.2.1 a.2.2)
theorem sAdd_c : Ok1 Tryz.prog tb btsOK.sound 98 sAdd_p := prim_ok k_ok pr_C12_ok (by kernel_rfl) fun a y hg h => ⟨0, 9, 0, (sAdd_eq 0 a.1 a.2.1 a.2.2).trans h⟩
theorem sMul_eq (fu : Nat)  (a : Int) (b : Int) (mode : Int) : shFn tb pr_C12 (shN tb pr_C12 fu 9) fu 109 ((dc (cI .u64) (dc (cI .u64) (d1 (cI .u8)))).enc (a, b, mode)) ((dc (cI .u64) (d1 (cI .u8)))).dec = sMul a b mode := by kernel_rfl
noncomputable def sMul_p : PrimD := prim (dc (cI .u64) (dc (cI .u64) (d1 (cI .u8)))) (dc (cI .u64) (d1 (cI .u8))) (fun a => sMul a.1 a.2.1 a.2.2)
theorem sMul_c : Ok1 Tryz.prog tb btsOK.sound 109 sMul_p := prim_ok k_ok pr_C12_ok (by kernel_rfl) fun a y hg h => ⟨0, 9, 0, (sMul_eq 0 a.1 a.2.1 a.2.2).trans h⟩
noncomputable def pr_C13 : Prims := extL [(98, sAdd_p), (109, sMul_p)] pr_C12
theorem pr_C13_ok : PrimOK Tryz.prog tb btsOK.sound pr_C13 := extL_ok pr_C12_ok (ok_cons sAdd_c (ok_cons sMul_c ok_nil))
end Su
end
section
namespace Su
open Go Go.Proofs Fly
set_option maxRecDepth 100000
theorem aAdd_eq (fu : Nat)  (a : Int) (b : Int) (mode : Int) : shFn tb pr_C13 (shN tb pr_C13 fu 9) fu 43 ((dc (cI .u64) (dc (cI .u64) (d1 (cI .u8)))).enc (a, b, mode)) ((d1 (cI .u64))).dec = aAdd a b mode := by kernel_rfl
noncomputable def aAdd_p : PrimD := prim (dc (cI .u64) (dc (cI .u64) (d1 (cI .u8)))) (d1 (cI .u64)) (aAdd_s)
theorem aAdd_c : Ok1 Tryz.prog tb btsOK.sound 43 aAdd_p := prim_ok k_ok pr_C13_ok (by kernel_rfl) fun a y hg h => ⟨0, 9, 0, (aAdd_eq 0 a.1 a.2.1 a.2.2).trans (aAdd_ok a y hg h)⟩
theorem aMul_eq (fu : Nat)  (a : Int) (b : Int) (mode : Int) : shFn tb pr_C13 (shN tb pr_C13 fu 9) fu 69 ((dc (cI .u64) (dc (cI .u64) (d1 (cI .u8)))).enc (a, b, mode)) ((d1 (cI .u64))).dec = aMul a b mode := by kernel_rfl
noncomputable def aMul_p : PrimD := prim (dc (cI .u64) (dc (cI .u64) (d1 (cI .u8)))) (d1 (cI .u64)) (aMul_s)
theorem aMul_c : Ok1 Tryz.prog tb btsOK.sound 69 aMul_p := prim_ok k_ok pr_C13_ok (by kernel_rfl) fun a y hg h => ⟨0, 9, 0, (aMul_eq 0 a.1 a.2.1 a.2.2).trans (aMul_ok a y hg h)⟩
theorem aFin_eq (fu : Nat)  (f : Int) : shFn tb pr_C13 (shN tb pr_C13 fu 9) fu 39 ((d1 (cI .u64)).enc (f)) ((d1 cB)).dec = aFin f := by kernel_rfl
noncomputable def aFin_p : PrimD := prim (d1 (cI .u64)) (d1 cB) (aFin_s)
theorem aFin_c : Ok1 Tryz.prog tb btsOK.sound 39 aFin_p := prim_ok k_ok pr_C13_ok (by kernel_rfl) fun a y hg h => ⟨0, 9, 0, (aFin_eq 0 a).trans (aFin_ok a y hg h)⟩
theorem aZero_eq (fu : Nat)  (f : Int) : shFn tb pr_C13 (shN tb pr_C13 fu 9) fu 60 ((d1 (cI .u64)).enc (f)) ((d1 cB)).dec = aZero f := by kernel_rfl
noncomputable def aZero_p : PrimD := prim (d1 (cI .u64)) (d1 cB) (aZero_s)
theorem aZero_c : Ok1 Tryz.prog tb btsOK.sound 60 aZero_p := prim_ok k_ok pr_C13_ok (by kernel_rfl) fun a y hg h => ⟨0, 9, 0, (aZero_eq 0 a).trans (aZero_ok a y hg h)⟩
theorem aUp_eq (fu : Nat) (l : (List Int)) : shFn tb pr_C13 (shN tb pr_C13 fu 9) fu 54 ((d1 (cQ 2 1)).enc (l)) ((d1 (cI .u64))).dec = aUp fu l := by kernel_rfl
noncomputable def aUp_p : PrimD := prim (d1 (cQ 2 1)) (d1 (cI .u64)) (aUp_s)
theorem aUp_c : Ok1 Tryz.prog tb btsOK.sound 54 aUp_p := prim_ok k_ok pr_C13_ok (by kernel_rfl) fun a y hg h => by
  obtain ⟨n, hn⟩ := aUp_ok a y hg h
  exact ⟨n, 9, n, (aUp_eq n a).trans hn⟩
noncomputable def pr_C14 : Prims := extL [(43, aAdd_p), (69, aMul_p), (39, aFin_p), (60, aZero_p), (54, aUp_p)] pr_C13
theorem pr_C14_ok : PrimOK Tryz.prog tb btsOK.sound pr_C14 := extL_ok pr_C13_ok (ok_cons aAdd_c (ok_cons aMul_c (ok_cons aFin_c (ok_cons aZero_c (ok_cons aUp_c ok_nil)))))
end Su
end
section
namespace Su
open Go Go.Proofs Fly
set_option maxRecDepth 100000
theorem dDel_eq (fu : Nat) (l : (List Su.Tm)) (u : Unit) : shFn4 tb pr_C14 fu 9 88 (0, 58) ((dc cRow (d1 (cF 89))).enc (l, u)) ((d1 cTms)).dec = dDel fu l u := by kernel_rfl
theorem dDelT_eq (fu : Nat) (l : (List Su.Tm)) (u : Unit) : shFn tb pr_C14 (shN tb pr_C14 fu 9) fu 88 ((dc cTms (d1 (cF 89))).enc (l, u)) ((d1 cTms)).dec = dDelT fu l u := by kernel_rfl
theorem aCont_eq (fu : Nat) (l : (List Su.Tm)) (u : Unit) : shFn tb pr_C14 (shN tb pr_C14 fu 9) fu 90 ((dc cTms (d1 (cF 91))).enc (l, u)) ((d1 cB)).dec = aCont fu l u := by kernel_rfl
noncomputable def aCont_p : PrimD := prim (dc cTms (d1 (cF 91))) (d1 cB) (aCont_s)
theorem aCont_c : Ok1 Tryz.prog tb btsOK.sound 90 aCont_p := prim_ok k_ok pr_C14_ok (by kernel_rfl) fun a y hg h => by
  obtain ⟨n, hn⟩ := aCont_ok a y hg h
  exact ⟨n, 9, n, (aCont_eq n a.1 a.2).trans hn⟩
theorem dDel_c4 : Ok1 Tryz.prog tb btsOK.sound 88 (prim4 (0, 58) (dc cRow (d1 (cF 89))) (d1 cTms) (dDel_s)) := prim4_ok k_ok pr_C14_ok (by kernel_rfl) (exc exRow (ex1 (exFn 89))) hnRow fun a y hg h => by
  obtain ⟨n, hn⟩ := dDel_ok a y hg h
  exact ⟨n, 9, (dDel_eq n a.1 a.2).trans hn⟩
noncomputable def dDel_p : PrimD := prim4t (0, 58) (dc cRow (d1 (cF 89))) (d1 cTms) (dDel_s) (dc cTms (d1 (cF 89))) dDelT_s
theorem dDel_c : Ok1 Tryz.prog tb btsOK.sound 88 dDel_p := prim4t_ok k_ok pr_C14_ok dDel_c4 fun a y hg h => by
  obtain ⟨n, hn⟩ := dDelT_ok a y hg h
  exact ⟨n, 9, n, (dDelT_eq n a.1 a.2).trans hn⟩
noncomputable def pr_C15 : Prims := extL [(88, dDel_p), (90, aCont_p)] pr_C14
theorem pr_C15_ok : PrimOK Tryz.prog tb btsOK.sound pr_C15 := extL_ok pr_C14_ok (ok_cons dDel_c (ok_cons aCont_c ok_nil))
end Su
end
section
namespace Su
open Go Go.Proofs Fly
set_option maxRecDepth 100000
theorem aDone_eq (fu : Nat)  (a : (Bool × (Int × ((List Su.Tm) × Int)))) : shFn4 tb pr_C15 fu 9 36 (2, 58) ((d1 cFrm4).enc (a)) ((d1 cFrm)).dec = aDone a := by kernel_rfl
theorem aDoneT_eq (fu : Nat)  (a : (Bool × (Int × ((List Su.Tm) × Int)))) : shFn tb pr_C15 (shN tb pr_C15 fu 9) fu 36 ((d1 cFrm).enc (a)) ((d1 cFrm)).dec = aDoneT a := by kernel_rfl
theorem aMay_eq (fu : Nat) (a : (Bool × (Int × ((List Su.Tm) × Int)))) : shFn tb pr_C15 (shN tb pr_C15 fu 9) fu 23 ((d1 cFrm).enc (a)) ((d1 cB)).dec = aMay fu a := by kernel_rfl
noncomputable def aMay_p : PrimD := prim (d1 cFrm) (d1 cB) (aMay_s)
theorem aMay_c : Ok1 Tryz.prog tb btsOK.sound 23 aMay_p := prim_ok k_ok pr_C15_ok (by kernel_rfl) fun a y hg h => by
  obtain ⟨n, hn⟩ := aMay_ok a y hg h
  exact ⟨n, 9, n, (aMay_eq n a).trans hn⟩
theorem aDone_c4 : Ok1 Tryz.prog tb btsOK.sound 36 (prim4 (2, 58) (d1 cFrm4) (d1 cFrm) (aDone_s)) := prim4_ok k_ok pr_C15_ok (by kernel_rfl) exF4 hnA fun a y hg h => ⟨0, 9, (aDone_eq 0 a).trans (aDone_ok a y hg h)⟩
noncomputable def aDone_p : PrimD := prim4t (2, 58) (d1 cFrm4) (d1 cFrm) (aDone_s) (d1 cFrm) aDoneT_s
theorem aDone_c : Ok1 Tryz.prog tb btsOK.sound 36 aDone_p := prim4t_ok k_ok pr_C15_ok aDone_c4 fun a y hg h => ⟨0, 9, 0, (aDoneT_eq 0 a).trans (aDoneT_ok a y hg h)⟩
noncomputable def pr_C16 : Prims := extL [(36, aDone_p), (23, aMay_p)] pr_C15
theorem pr_C16_ok : PrimOK Tryz.prog tb btsOK.sound pr_C16 := extL_ok pr_C15_ok (ok_cons aDone_c (ok_cons aMay_c ok_nil))
end Su
end
section
namespace Su
open Go Go.Proofs Fly
set_option maxRecDepth 100000
theorem aUnfit_eq (fu : Nat) (l : (List (Bool × (Int × ((List Su.Tm) × Int))))) : shFn tb pr_C16 (shN tb pr_C16 fu 9) fu 52 ((d1 cFms).enc (l)) ((d1 cB)).dec = aUnfit fu l := by kernel_rfl
noncomputable def aUnfit_p : PrimD := prim (d1 cFms) (d1 cB) (aUnfit_s)
theorem aUnfit_c : Ok1 Tryz.prog tb btsOK.sound 52 aUnfit_p := prim_ok k_ok pr_C16_ok (by kernel_rfl) fun a y hg h => by
  obtain ⟨n, hn⟩ := aUnfit_ok a y hg h
  exact ⟨n, 9, n, (aUnfit_eq n a).trans hn⟩
noncomputable def pr_C17 : Prims := extL [(52, aUnfit_p)] pr_C16
theorem pr_C17_ok : PrimOK Tryz.prog tb btsOK.sound pr_C17 := extL_ok pr_C16_ok (ok_cons aUnfit_c ok_nil)
end Su
end
section
namespace Su
open Go Go.Proofs Fly
set_option maxRecDepth 100000
theorem aNeg_eq (fu : Nat) (a : (Bool × (Int × ((List Su.Tm) × Int)))) : shFn tb pr_C17 (shN tb pr_C17 fu 9) fu 17 ((d1 cFrm).enc (a)) ((d1 cFrm)).dec = aNeg fu a := by kernel_rfl
noncomputable def aNeg_p : PrimD := prim (d1 cFrm) (d1 cFrm) (aNeg_s)
theorem aNeg_c : Ok1 Tryz.prog tb btsOK.sound 17 aNeg_p := prim_ok k_ok pr_C17_ok (by kernel_rfl) fun a y hg h => by
  obtain ⟨n, hn⟩ := aNeg_ok a y hg h
  exact ⟨n, 9, n, (aNeg_eq n a).trans hn⟩
theorem aConst_eq (fu : Nat)  (f : Int) : shFn tb pr_C17 (shN tb pr_C17 fu 9) fu 11 ((d1 (cI .u64)).enc (f)) ((d1 cFrm)).dec = aConst f := by kernel_rfl
noncomputable def aConst_p : PrimD := prim (d1 (cI .u64)) (d1 cFrm) (aConst_s)
theorem aConst_c : Ok1 Tryz.prog tb btsOK.sound 11 aConst_p := prim_ok k_ok pr_C17_ok (by kernel_rfl) fun a y hg h => ⟨0, 9, 0, (aConst_eq 0 a).trans (aConst_ok a y hg h)⟩
noncomputable def pr_C18 : Prims := extL [(17, aNeg_p), (11, aConst_p)] pr_C17
theorem pr_C18_ok : PrimOK Tryz.prog tb btsOK.sound pr_C18 := extL_ok pr_C17_ok (ok_cons aNeg_c (ok_cons aConst_c ok_nil))
end Su
end
section
namespace Su
open Go Go.Proofs Fly
set_option maxRecDepth 100000
theorem aSum_eq (fu : Nat) (a : (Bool × (Int × ((List Su.Tm) × Int)))) (b : (Bool × (Int × ((List Su.Tm) × Int)))) : shFn tb pr_C18 (shN tb pr_C18 fu 9) fu 25 ((dc cFrm (d1 cFrm)).enc (a, b)) ((d1 cFrm)).dec = aSum fu a b := by kernel_rfl
noncomputable def aSum_p : PrimD := prim (dc cFrm (d1 cFrm)) (d1 cFrm) (aSum_s)
theorem aSum_c : Ok1 Tryz.prog tb btsOK.sound 25 aSum_p := prim_ok k_ok pr_C18_ok (by kernel_rfl) fun a y hg h => by
  obtain ⟨n, hn⟩ := aSum_ok a y hg h
  exact ⟨n, 9, n, (aSum_eq n a.1 a.2).trans hn⟩
noncomputable def pr_C19 : Prims := extL [(25, aSum_p)] pr_C18
theorem pr_C19_ok : PrimOK Tryz.prog tb btsOK.sound pr_C19 := extL_ok pr_C18_ok (ok_cons aSum_c ok_nil)
end Su
end
section
namespace Su
open Go Go.Proofs Fly
set_option maxRecDepth 100000
theorem aSub_eq (fu : Nat)  (a : (Bool × (Int × ((List Su.Tm) × Int)))) (b : (Bool × (Int × ((List Su.Tm) × Int)))) : shFn tb pr_C19 (shN tb pr_C19 fu 9) fu 27 ((dc cFrm (d1 cFrm)).enc (a, b)) ((d1 cFrm)).dec = aSub a b := by kernel_rfl
noncomputable def aSub_p : PrimD := prim (dc cFrm (d1 cFrm)) (d1 cFrm) (aSub_s)
theorem aSub_c : Ok1 Tryz.prog tb btsOK.sound 27 aSub_p := prim_ok k_ok pr_C19_ok (by kernel_rfl) fun a y hg h => ⟨0, 9, 0, (aSub_eq 0 a.1 a.2).trans (aSub_ok a y hg h)⟩
noncomputable def pr_C20 : Prims := extL [(27, aSub_p)] pr_C19
theorem pr_C20_ok : PrimOK Tryz.prog tb btsOK.sound pr_C20 := extL_ok pr_C19_ok (ok_cons aSub_c ok_nil)
end Su
end
section
namespace Su
open Go Go.Proofs Fly
set_option maxRecDepth 100000
theorem spAt_eq (fu : Nat)  (a : Int) (b : Int) : shFn tb pr_C20 (shN tb pr_C20 fu 9) fu 119 ((dc (cI .u64) (d1 (cI .u64))).enc (a, b)) ((d1 cB)).dec = spAt a b := by kernel_rfl
noncomputable def spAt_p : PrimD := prim (dc (cI .u64) (d1 (cI .u64))) (d1 cB) (spAt_s)
theorem spAt_c : Ok1 Tryz.prog tb btsOK.sound 119 spAt_p := prim_ok k_ok pr_C20_ok (by kernel_rfl) fun a y hg h => ⟨0, 9, 0, (spAt_eq 0 a.1 a.2).trans (spAt_ok a y hg h)⟩
noncomputable def pr_C21 : Prims := extL [(119, spAt_p)] pr_C20
theorem pr_C21_ok : PrimOK Tryz.prog tb btsOK.sound pr_C21 := extL_ok pr_C20_ok (ok_cons spAt_c ok_nil)
end Su
end
section
namespace Su
open Go Go.Proofs Fly
set_option maxRecDepth 100000
theorem spNorm_eq (fu : Nat) (s : (Bool × (Int × Int))) : shFn tb pr_C21 (shN tb pr_C21 fu 9) fu 85 ((d1 cSpn).enc (s)) ((d1 cSpn)).dec = spNorm fu s := by kernel_rfl
noncomputable def spNorm_p : PrimD := prim (d1 cSpn) (d1 cSpn) (spNorm_s)
theorem spNorm_c : Ok1 Tryz.prog tb btsOK.sound 85 spNorm_p := prim_ok k_ok pr_C21_ok (by kernel_rfl) fun a y hg h => by
  obtain ⟨n, hn⟩ := spNorm_ok a y hg h
  exact ⟨n, 9, n, (spNorm_eq n a).trans hn⟩
noncomputable def pr_C22 : Prims := extL [(85, spNorm_p)] pr_C21
theorem pr_C22_ok : PrimOK Tryz.prog tb btsOK.sound pr_C22 := extL_ok pr_C21_ok (ok_cons spNorm_c ok_nil)
end Su
end
section
namespace Fly
open Go Go.Proofs Su
set_option maxRecDepth 10000
noncomputable def tb : Tabs Tryz.prog := Su.btsOK.sound.tb
section
variable {P : Program} {n : Nat} {X : Cx} {L : Lo} {V : View} {G : Own} {Q : Value → View → Own → Prop}
variable {ty : TypeId} {pos : String} {af : Array Edge} {gd : Option (Nat × Bool)} {ds : Option Tmp}
theorem equal_slice {t e : TypeId} {a : Option Addr} {len cap : Nat} (hu : P.underlying t = some (.slice e)) (w : World) : (Op.equal t (.slice a len cap) (.slice none 0 0)).run P w = .ok a.isNone w := by
  show (Op.equalIn (9999 + 1) t (.slice a len cap) (.slice none 0 0)).run P w = _
  unfold Op.equalIn
  rw [Sem.run_bind, run_underlying hu]
  cases a <;> rfl
theorem op_eqsl {t u e : TypeId} {x y : Operand} {a : Option Addr} {len cap : Nat} (hx : ev L x = some (.slice a len cap)) (hy : ev L y = some (.slice none 0 0)) (hu : P.underlying t = some (.slice e)) (k : Q (.bool a.isNone) V G) :
    Opr P n X L V G ⟨ds, .binOp .eql t x y u, ty, pos, af, gd⟩ Q := op_eqg hx hy rfl (fun w => by simp [eqGuard]) (equal_slice hu) k
end
attribute [local irreducible] WC WE WR Opr St Go.Calls Fine Pure PureV Rel Fing FingD FinL Owe One Does Go.CallsD
theorem c53n {V : View} {len cap : Nat} {Q : Value → View → Own → Prop} (hQ : Q (.slice none 0 0) V []) : Fing Tryz.prog 53 #[.slice none len cap] V [] Q := by
  refine fing_enter (args := [_]) Tryz.func53 rfl Tryz.ntmps53 rfl ?_
  intro X w hM hb hw hV0 hR; dsimp only [argL, Nat.zero_add, Nat.reduceAdd]
  (repeat' (first | refine wc_seq ?_ | refine wc_region ?_ | refine wr_nil ?_ | refine we_code ?_ | refine wc_block ?_ | refine wc_skip ?_ | refine we_blk ?_ | refine wc_exit ?_ | refine we_exit_code ?_ | refine we_exit_here ?_ | refine we_exit_on rfl ?_ | refine we_exit_lp ?_ | refine wc_ret ?_ | ((first | refine w_cons rfl ?_ | refine w_cons0 ?_ | refine w_yes rfl rfl rfl ?_); (first | (refine op_eqsl (e := 58) rfl rfl (by kernel_rfl) ?_) | refine op_move rfl ?_ | refine op_assign rfl ?_ | refine op_eql rfl rfl ?_ | refine op_neq rfl rfl ?_ | refine op_lss rfl rfl ?_ | refine op_leq rfl rfl ?_ | refine op_gtr rfl rfl ?_ | refine op_geq rfl rfl ?_ | refine op_extract rfl rfl ?_ | refine op_not rfl ?_ | refine op_pick_t rfl rfl ?_ | refine op_pick_f rfl rfl ?_ | refine op_addi rfl rfl (by omega) (by omega) ?_ | refine op_subi rfl rfl (by omega) (by omega) ?_ | refine op_muli rfl rfl (by omega) (by omega) ?_ | refine op_add rfl rfl ?_ | refine op_sub rfl rfl ?_ | refine op_mul rfl rfl ?_ | refine op_fieldAddr tb rfl rfl ?_ | refine op_field1 tb rfl rfl rfl ?_ | refine op_and rfl rfl ?_ | refine op_or rfl rfl ?_ | refine op_xor rfl rfl ?_ | refine op_andNot rfl rfl ?_ | refine op_shl rfl rfl (by decide) ?_ | refine op_shr rfl rfl (by decide) ?_ | refine op_eqs rfl rfl ?_ | refine op_neqs rfl rfl ?_ | refine op_eqbd rfl rfl (by kernel_rfl) ?_ | refine op_neqbd rfl rfl (by kernel_rfl) ?_ | refine op_convert tb rfl rfl rfl ?_ | refine op_neg rfl ?_ | refine op_len tb rfl rfl rfl ?_ | (apply op_load1 tb rfl rfl; (· (first | (refine At.own (?_); repeat (first | exact Has.here | refine Has.there ?_)) | exact At.seen (by assumption))); (· exact rfl)) | (apply op_loadN tb rfl rfl; (· (first | (refine At.own (?_); repeat (first | exact Has.here | refine Has.there ?_)) | exact At.seen (by assumption))); (· exact rfl)) | (apply op_store1 tb rfl rfl rfl rfl rfl; (· (repeat (first | exact Upd.here | apply Upd.there))); (· exact rfl)) | (apply op_storeN tb rfl rfl rfl rfl rfl; (· (repeat (first | exact Upd.here | apply Upd.there))); (· exact rfl)) | (apply op_build tb (by kernel_rfl) rfl (rfl : tb.fo _ 0 = _); (· (repeat (first | exact Fill.nil | (apply Fill.cons; (· exact rfl); (· exact rfl); (· exact rfl); (· exact rfl); (· exact rfl)))))) | (refine op_boxN rfl ?_; intro b) | (refine op_box1 rfl rfl ?_; intro b) | (refine op_alloc tb rfl ?_; intro b) | (apply op_buildSlice tb; (· exact rfl); (· exact rfl); (· exact rfl); (· decide); (· (repeat (first | exact Cat.nil | (apply Cat.cons; (· exact rfl); (· exact rfl); (· exact rfl)) | exact App.nil | apply App.cons))); intro b))) | refine w_no rfl rfl rfl rfl ?_ | refine wc_cond_t rfl ?_ | refine wc_cond_f rfl ?_ | refine wc_if rfl (fun _ => ?_) (fun _ => ?_) | refine wc_ifn rfl (fun _ => ?_) (fun _ => ?_) | refine w_splitd rfl rfl (fun _ => ?_) (fun _ => ?_) | refine w_splitn rfl rfl (fun _ => ?_) (fun _ => ?_) | refine wc_ifnb rfl (fun _ => ?_) (fun _ => ?_) | refine wc_ifb rfl (fun _ => ?_) (fun _ => ?_) | refine w_splitnb rfl rfl (fun _ => ?_) (fun _ => ?_) | refine w_splitb rfl rfl (fun _ => ?_) (fun _ => ?_)))
  exact fing_ret hM hw hV0 hR [] (List.Sublist.refl _) (res1 rfl rfl) hQ
theorem c53e {V : View} {a : Addr} {cap : Nat} {Q : Value → View → Own → Prop} (hQ : ∀ b, Q (.slice (some ⟨b, 0, none⟩) 0 0) V [(b, .cells #[] 58 (0, 0))]) : Fing Tryz.prog 53 #[.slice (some a) 0 cap] V [] Q := by
  refine fing_enter (args := [_]) Tryz.func53 rfl Tryz.ntmps53 rfl ?_
  intro X w hM hb hw hV0 hR; dsimp only [argL, Nat.zero_add, Nat.reduceAdd]
  (repeat' (first | refine wc_seq ?_ | refine wc_region ?_ | refine wr_nil ?_ | refine we_code ?_ | refine wc_block ?_ | refine wc_skip ?_ | refine we_blk ?_ | refine wc_exit ?_ | refine we_exit_code ?_ | refine we_exit_here ?_ | refine we_exit_on rfl ?_ | refine we_exit_lp ?_ | refine wc_ret ?_ | ((first | refine w_cons rfl ?_ | refine w_cons0 ?_ | refine w_yes rfl rfl rfl ?_); (first | (refine op_eqsl (e := 58) rfl rfl (by kernel_rfl) ?_) | refine op_move rfl ?_ | refine op_assign rfl ?_ | refine op_eql rfl rfl ?_ | refine op_neq rfl rfl ?_ | refine op_lss rfl rfl ?_ | refine op_leq rfl rfl ?_ | refine op_gtr rfl rfl ?_ | refine op_geq rfl rfl ?_ | refine op_extract rfl rfl ?_ | refine op_not rfl ?_ | refine op_pick_t rfl rfl ?_ | refine op_pick_f rfl rfl ?_ | refine op_addi rfl rfl (by omega) (by omega) ?_ | refine op_subi rfl rfl (by omega) (by omega) ?_ | refine op_muli rfl rfl (by omega) (by omega) ?_ | refine op_add rfl rfl ?_ | refine op_sub rfl rfl ?_ | refine op_mul rfl rfl ?_ | refine op_fieldAddr tb rfl rfl ?_ | refine op_field1 tb rfl rfl rfl ?_ | refine op_and rfl rfl ?_ | refine op_or rfl rfl ?_ | refine op_xor rfl rfl ?_ | refine op_andNot rfl rfl ?_ | refine op_shl rfl rfl (by decide) ?_ | refine op_shr rfl rfl (by decide) ?_ | refine op_eqs rfl rfl ?_ | refine op_neqs rfl rfl ?_ | refine op_eqbd rfl rfl (by kernel_rfl) ?_ | refine op_neqbd rfl rfl (by kernel_rfl) ?_ | refine op_convert tb rfl rfl rfl ?_ | refine op_neg rfl ?_ | refine op_len tb rfl rfl rfl ?_ | (apply op_load1 tb rfl rfl; (· (first | (refine At.own (?_); repeat (first | exact Has.here | refine Has.there ?_)) | exact At.seen (by assumption))); (· exact rfl)) | (apply op_loadN tb rfl rfl; (· (first | (refine At.own (?_); repeat (first | exact Has.here | refine Has.there ?_)) | exact At.seen (by assumption))); (· exact rfl)) | (apply op_store1 tb rfl rfl rfl rfl rfl; (· (repeat (first | exact Upd.here | apply Upd.there))); (· exact rfl)) | (apply op_storeN tb rfl rfl rfl rfl rfl; (· (repeat (first | exact Upd.here | apply Upd.there))); (· exact rfl)) | (apply op_build tb (by kernel_rfl) rfl (rfl : tb.fo _ 0 = _); (· (repeat (first | exact Fill.nil | (apply Fill.cons; (· exact rfl); (· exact rfl); (· exact rfl); (· exact rfl); (· exact rfl)))))) | (refine op_boxN rfl ?_; intro b) | (refine op_box1 rfl rfl ?_; intro b) | (refine op_alloc tb rfl ?_; intro b) | (apply op_buildSlice tb; (· exact rfl); (· exact rfl); (· exact rfl); (· decide); (· (repeat (first | exact Cat.nil | (apply Cat.cons; (· exact rfl); (· exact rfl); (· exact rfl)) | exact App.nil | apply App.cons))); intro b))) | refine w_no rfl rfl rfl rfl ?_ | refine wc_cond_t rfl ?_ | refine wc_cond_f rfl ?_ | refine wc_if rfl (fun _ => ?_) (fun _ => ?_) | refine wc_ifn rfl (fun _ => ?_) (fun _ => ?_) | refine w_splitd rfl rfl (fun _ => ?_) (fun _ => ?_) | refine w_splitn rfl rfl (fun _ => ?_) (fun _ => ?_) | refine wc_ifnb rfl (fun _ => ?_) (fun _ => ?_) | refine wc_ifb rfl (fun _ => ?_) (fun _ => ?_) | refine w_splitnb rfl rfl (fun _ => ?_) (fun _ => ?_) | refine w_splitb rfl rfl (fun _ => ?_) (fun _ => ?_)))
  refine w_cons rfl (op_append0 (e := 58) (k := 2) tb rfl rfl rfl (Nat.le_refl 0) ?_)
  (repeat' (first | refine wc_seq ?_ | refine wc_region ?_ | refine wr_nil ?_ | refine we_code ?_ | refine wc_block ?_ | refine wc_skip ?_ | refine we_blk ?_ | refine wc_exit ?_ | refine we_exit_code ?_ | refine we_exit_here ?_ | refine we_exit_on rfl ?_ | refine we_exit_lp ?_ | refine wc_ret ?_ | ((first | refine w_cons rfl ?_ | refine w_cons0 ?_ | refine w_yes rfl rfl rfl ?_); (first | refine op_move rfl ?_ | refine op_assign rfl ?_ | refine op_eql rfl rfl ?_ | refine op_neq rfl rfl ?_ | refine op_lss rfl rfl ?_ | refine op_leq rfl rfl ?_ | refine op_gtr rfl rfl ?_ | refine op_geq rfl rfl ?_ | refine op_extract rfl rfl ?_ | refine op_not rfl ?_ | refine op_pick_t rfl rfl ?_ | refine op_pick_f rfl rfl ?_ | refine op_addi rfl rfl (by omega) (by omega) ?_ | refine op_subi rfl rfl (by omega) (by omega) ?_ | refine op_muli rfl rfl (by omega) (by omega) ?_ | refine op_add rfl rfl ?_ | refine op_sub rfl rfl ?_ | refine op_mul rfl rfl ?_ | refine op_fieldAddr tb rfl rfl ?_ | refine op_field1 tb rfl rfl rfl ?_ | refine op_and rfl rfl ?_ | refine op_or rfl rfl ?_ | refine op_xor rfl rfl ?_ | refine op_andNot rfl rfl ?_ | refine op_shl rfl rfl (by decide) ?_ | refine op_shr rfl rfl (by decide) ?_ | refine op_eqs rfl rfl ?_ | refine op_neqs rfl rfl ?_ | refine op_eqbd rfl rfl (by kernel_rfl) ?_ | refine op_neqbd rfl rfl (by kernel_rfl) ?_ | refine op_convert tb rfl rfl rfl ?_ | refine op_neg rfl ?_ | refine op_len tb rfl rfl rfl ?_ | (apply op_load1 tb rfl rfl; (· (first | (refine At.own (?_); repeat (first | exact Has.here | refine Has.there ?_)) | exact At.seen (by assumption))); (· exact rfl)) | (apply op_loadN tb rfl rfl; (· (first | (refine At.own (?_); repeat (first | exact Has.here | refine Has.there ?_)) | exact At.seen (by assumption))); (· exact rfl)) | (apply op_store1 tb rfl rfl rfl rfl rfl; (· (repeat (first | exact Upd.here | apply Upd.there))); (· exact rfl)) | (apply op_storeN tb rfl rfl rfl rfl rfl; (· (repeat (first | exact Upd.here | apply Upd.there))); (· exact rfl)) | (apply op_build tb (by kernel_rfl) rfl (rfl : tb.fo _ 0 = _); (· (repeat (first | exact Fill.nil | (apply Fill.cons; (· exact rfl); (· exact rfl); (· exact rfl); (· exact rfl); (· exact rfl)))))) | (refine op_boxN rfl ?_; intro b) | (refine op_box1 rfl rfl ?_; intro b) | (refine op_alloc tb rfl ?_; intro b) | (apply op_buildSlice tb; (· exact rfl); (· exact rfl); (· exact rfl); (· decide); (· (repeat (first | exact Cat.nil | (apply Cat.cons; (· exact rfl); (· exact rfl); (· exact rfl)) | exact App.nil | apply App.cons))); intro b))) | refine w_no rfl rfl rfl rfl ?_ | refine wc_cond_t rfl ?_ | refine wc_cond_f rfl ?_ | refine wc_if rfl (fun _ => ?_) (fun _ => ?_) | refine wc_ifn rfl (fun _ => ?_) (fun _ => ?_) | refine w_splitd rfl rfl (fun _ => ?_) (fun _ => ?_) | refine w_splitn rfl rfl (fun _ => ?_) (fun _ => ?_) | refine wc_ifnb rfl (fun _ => ?_) (fun _ => ?_) | refine wc_ifb rfl (fun _ => ?_) (fun _ => ?_) | refine w_splitnb rfl rfl (fun _ => ?_) (fun _ => ?_) | refine w_splitb rfl rfl (fun _ => ?_) (fun _ => ?_)))
  exact fing_ret hM hw hV0 hR [(b, .cells #[] 58 (0, 0))] (List.Sublist.refl _) (res1 rfl rfl) (hQ b)
theorem c53s {V : View} {bb off len cap : Nat} {news : List Value} {Q : Value → View → Own → Prop} (hn : news.length = len * 2) (h1 : ∀ u ∈ news, u.oneCell' = true) (hr : ∀ (j : Nat) (u : Value), news[j]? = some u → rd V bb (off + j) u) (h0 : 0 < len) (hl : len ≤ 549755813888)
    (hQ : ∀ v' Gr', Row 58 2 v' Gr' len news → Q v' V Gr') : Fing Tryz.prog 53 #[.slice (some ⟨bb, off, none⟩) len cap] V [] Q := by
  refine fing_enter (args := [_]) Tryz.func53 rfl Tryz.ntmps53 rfl ?_
  intro X w hM hb hw hV0 hR; dsimp only [argL, Nat.zero_add, Nat.reduceAdd]
  (repeat' (first | refine wc_seq ?_ | refine wc_region ?_ | refine wr_nil ?_ | refine we_code ?_ | refine wc_block ?_ | refine wc_skip ?_ | refine we_blk ?_ | refine wc_exit ?_ | refine we_exit_code ?_ | refine we_exit_here ?_ | refine we_exit_on rfl ?_ | refine we_exit_lp ?_ | refine wc_ret ?_ | ((first | refine w_cons rfl ?_ | refine w_cons0 ?_ | refine w_yes rfl rfl rfl ?_); (first | (refine op_eqsl (e := 58) rfl rfl (by kernel_rfl) ?_) | refine op_move rfl ?_ | refine op_assign rfl ?_ | refine op_eql rfl rfl ?_ | refine op_neq rfl rfl ?_ | refine op_lss rfl rfl ?_ | refine op_leq rfl rfl ?_ | refine op_gtr rfl rfl ?_ | refine op_geq rfl rfl ?_ | refine op_extract rfl rfl ?_ | refine op_not rfl ?_ | refine op_pick_t rfl rfl ?_ | refine op_pick_f rfl rfl ?_ | refine op_addi rfl rfl (by omega) (by omega) ?_ | refine op_subi rfl rfl (by omega) (by omega) ?_ | refine op_muli rfl rfl (by omega) (by omega) ?_ | refine op_add rfl rfl ?_ | refine op_sub rfl rfl ?_ | refine op_mul rfl rfl ?_ | refine op_fieldAddr tb rfl rfl ?_ | refine op_field1 tb rfl rfl rfl ?_ | refine op_and rfl rfl ?_ | refine op_or rfl rfl ?_ | refine op_xor rfl rfl ?_ | refine op_andNot rfl rfl ?_ | refine op_shl rfl rfl (by decide) ?_ | refine op_shr rfl rfl (by decide) ?_ | refine op_eqs rfl rfl ?_ | refine op_neqs rfl rfl ?_ | refine op_eqbd rfl rfl (by kernel_rfl) ?_ | refine op_neqbd rfl rfl (by kernel_rfl) ?_ | refine op_convert tb rfl rfl rfl ?_ | refine op_neg rfl ?_ | refine op_len tb rfl rfl rfl ?_ | (apply op_load1 tb rfl rfl; (· (first | (refine At.own (?_); repeat (first | exact Has.here | refine Has.there ?_)) | exact At.seen (by assumption))); (· exact rfl)) | (apply op_loadN tb rfl rfl; (· (first | (refine At.own (?_); repeat (first | exact Has.here | refine Has.there ?_)) | exact At.seen (by assumption))); (· exact rfl)) | (apply op_store1 tb rfl rfl rfl rfl rfl; (· (repeat (first | exact Upd.here | apply Upd.there))); (· exact rfl)) | (apply op_storeN tb rfl rfl rfl rfl rfl; (· (repeat (first | exact Upd.here | apply Upd.there))); (· exact rfl)) | (apply op_build tb (by kernel_rfl) rfl (rfl : tb.fo _ 0 = _); (· (repeat (first | exact Fill.nil | (apply Fill.cons; (· exact rfl); (· exact rfl); (· exact rfl); (· exact rfl); (· exact rfl)))))) | (refine op_boxN rfl ?_; intro b) | (refine op_box1 rfl rfl ?_; intro b) | (refine op_alloc tb rfl ?_; intro b) | (apply op_buildSlice tb; (· exact rfl); (· exact rfl); (· exact rfl); (· decide); (· (repeat (first | exact Cat.nil | (apply Cat.cons; (· exact rfl); (· exact rfl); (· exact rfl)) | exact App.nil | apply App.cons))); intro b))) | refine w_no rfl rfl rfl rfl ?_ | refine wc_cond_t rfl ?_ | refine wc_cond_f rfl ?_ | refine wc_if rfl (fun _ => ?_) (fun _ => ?_) | refine wc_ifn rfl (fun _ => ?_) (fun _ => ?_) | refine w_splitd rfl rfl (fun _ => ?_) (fun _ => ?_) | refine w_splitn rfl rfl (fun _ => ?_) (fun _ => ?_) | refine wc_ifnb rfl (fun _ => ?_) (fun _ => ?_) | refine wc_ifb rfl (fun _ => ?_) (fun _ => ?_) | refine w_splitnb rfl rfl (fun _ => ?_) (fun _ => ?_) | refine w_splitb rfl rfl (fun _ => ?_) (fun _ => ?_)))
  refine w_cons rfl (op_appendG (e := 58) (k := 2) (m := 0) (z := [.int .i64 0, .int .u64 0]) (Gr := [(b, .cells #[] 58 (0, 0))]) (G1 := []) (xs := []) (news := news) tb rfl rfl rfl (Nat.le_of_ble_eq_true (by kernel_rfl)) rfl rfl (fun w hw j u hj => ?_) hn h1 (Row.some (g := b) (cur := #[]) (Nat.le_refl 0) (by simp [maxLen]) rfl rfl) (List.Perm.refl _) h0 (by omega) fun v' Gr' hR' => ?_)
  · obtain ⟨arr, e, f0, q1, q2⟩ := hr j u hj
    rw [addr_add, cell_of (hw.view _ _ q1)]; exact q2
  · (repeat' (first | refine wc_seq ?_ | refine wc_region ?_ | refine wr_nil ?_ | refine we_code ?_ | refine wc_block ?_ | refine wc_skip ?_ | refine we_blk ?_ | refine wc_exit ?_ | refine we_exit_code ?_ | refine we_exit_here ?_ | refine we_exit_on rfl ?_ | refine we_exit_lp ?_ | refine wc_ret ?_ | ((first | refine w_cons rfl ?_ | refine w_cons0 ?_ | refine w_yes rfl rfl rfl ?_); (first | refine op_move rfl ?_ | refine op_assign rfl ?_ | refine op_eql rfl rfl ?_ | refine op_neq rfl rfl ?_ | refine op_lss rfl rfl ?_ | refine op_leq rfl rfl ?_ | refine op_gtr rfl rfl ?_ | refine op_geq rfl rfl ?_ | refine op_extract rfl rfl ?_ | refine op_not rfl ?_ | refine op_pick_t rfl rfl ?_ | refine op_pick_f rfl rfl ?_ | refine op_addi rfl rfl (by omega) (by omega) ?_ | refine op_subi rfl rfl (by omega) (by omega) ?_ | refine op_muli rfl rfl (by omega) (by omega) ?_ | refine op_add rfl rfl ?_ | refine op_sub rfl rfl ?_ | refine op_mul rfl rfl ?_ | refine op_fieldAddr tb rfl rfl ?_ | refine op_field1 tb rfl rfl rfl ?_ | refine op_and rfl rfl ?_ | refine op_or rfl rfl ?_ | refine op_xor rfl rfl ?_ | refine op_andNot rfl rfl ?_ | refine op_shl rfl rfl (by decide) ?_ | refine op_shr rfl rfl (by decide) ?_ | refine op_eqs rfl rfl ?_ | refine op_neqs rfl rfl ?_ | refine op_eqbd rfl rfl (by kernel_rfl) ?_ | refine op_neqbd rfl rfl (by kernel_rfl) ?_ | refine op_convert tb rfl rfl rfl ?_ | refine op_neg rfl ?_ | refine op_len tb rfl rfl rfl ?_ | (apply op_load1 tb rfl rfl; (· (first | (refine At.own (?_); repeat (first | exact Has.here | refine Has.there ?_)) | exact At.seen (by assumption))); (· exact rfl)) | (apply op_loadN tb rfl rfl; (· (first | (refine At.own (?_); repeat (first | exact Has.here | refine Has.there ?_)) | exact At.seen (by assumption))); (· exact rfl)) | (apply op_store1 tb rfl rfl rfl rfl rfl; (· (repeat (first | exact Upd.here | apply Upd.there))); (· exact rfl)) | (apply op_storeN tb rfl rfl rfl rfl rfl; (· (repeat (first | exact Upd.here | apply Upd.there))); (· exact rfl)) | (apply op_build tb (by kernel_rfl) rfl (rfl : tb.fo _ 0 = _); (· (repeat (first | exact Fill.nil | (apply Fill.cons; (· exact rfl); (· exact rfl); (· exact rfl); (· exact rfl); (· exact rfl)))))) | (refine op_boxN rfl ?_; intro b) | (refine op_box1 rfl rfl ?_; intro b) | (refine op_alloc tb rfl ?_; intro b) | (apply op_buildSlice tb; (· exact rfl); (· exact rfl); (· exact rfl); (· decide); (· (repeat (first | exact Cat.nil | (apply Cat.cons; (· exact rfl); (· exact rfl); (· exact rfl)) | exact App.nil | apply App.cons))); intro b))) | refine w_no rfl rfl rfl rfl ?_ | refine wc_cond_t rfl ?_ | refine wc_cond_f rfl ?_ | refine wc_if rfl (fun _ => ?_) (fun _ => ?_) | refine wc_ifn rfl (fun _ => ?_) (fun _ => ?_) | refine w_splitd rfl rfl (fun _ => ?_) (fun _ => ?_) | refine w_splitn rfl rfl (fun _ => ?_) (fun _ => ?_) | refine wc_ifnb rfl (fun _ => ?_) (fun _ => ?_) | refine wc_ifb rfl (fun _ => ?_) (fun _ => ?_) | refine w_splitnb rfl rfl (fun _ => ?_) (fun _ => ?_) | refine w_splitb rfl rfl (fun _ => ?_) (fun _ => ?_)))
    rw [List.append_nil]
    refine fing_ret hM hw hV0 hR Gr' (List.Sublist.refl _) (res1 rfl rfl) (hQ _ _ ?_)
    rw [Nat.zero_add, List.nil_append] at hR'
    exact hR'
end Fly
namespace Su
open Go Go.Proofs Fly
theorem fresh_plain {P : Program} {f : Nat} {V : View} {vs : List Value} {l : List T} {e w : Nat}
    (h : Fing P f vs.toArray V [] fun v V' G' => ∃ ie, RepOB V' [ie] (.row false e w l) ie G' ∧ RepS V' [ie] (.osl 0 0 l.length) v) : Fing P f vs.toArray V [] fun v V' _ => ∃ rvs, RepA V' [.sl w l] rvs ∧ v = resV rvs := by
  intro w0 hs hG hV hnd
  refine (h w0 hs hG hV hnd).mono ?_
  rintro ex w' ⟨v, V', G', rfl, hh, ie, m1, m2⟩
  have hsub : sub l 0 l.length = some l := sub_whole l _ rfl
  have hz : toTs 64 ⟨[], [], [.row false e w l]⟩ [.osl 0 0 l.length] = some ([.sl w l], (St.mk [] [] [.row false e w l]).frow 0 w l) := by
    simp only [toTs, toT, List.getElem?_cons_zero, hsub, Option.bind_some]
  obtain ⟨V2, G2, g2, s2, r2, _⟩ := (toT_both (I := [ie]) (L := []) 64).2 ⟨[], [], [.row false e w l]⟩ _ [.osl 0 0 l.length] _ hz V' G' [v] (.cons m2 .nil) ⟨⟨G' ++ [], .cons m1 .nil, by rw [List.append_nil]⟩, fun d sv hd _ => by simp [St.look] at hd⟩ ⟨fun p hp => (hh.free p (by simp [hp])).2, by have := hh.nodup; simpa using this⟩
  exact ⟨_, V2, G2, rfl, g2.holds _ _ hh, [v], r2, rfl⟩
noncomputable def aClone_p : PrimD := ⟨List Tm, fun xs => ((d1 cTms).dec xs).bind fun l => bif lenOK l then some l else none, fun l => [.sl 2 (l.map vT)], none, some (58, 2), fun _ => none⟩
theorem clone_law {V : View} {v : Value} {l : List T} (hl : l.length ≤ 549755813888) (h : Rep V (.sl 2 l) v) :
    Fing Tryz.prog 53 #[v] V [] fun v' V' G' => ∃ ie, RepOB V' [ie] (.row false 58 2 l) ie G' ∧ RepS V' [ie] (.osl 0 0 l.length) v' := by
  cases h with | @sl _ _ vs a cap a1 a2 a3 a4 a5 a6 =>
  have hn : vs.length = l.length * 2 := by rw [← a1.length, flat_len a3]
  by_cases h0 : l = []
  · subst h0
    cases a with
    | none => exact c53n ⟨.vrow, .vrow, .oslv rfl⟩
    | some a => exact c53e fun b => ⟨.row b 2 0, .row (by simp) (by simp [maxLen]) (by simp) (by simpa using RepA.nil) (by simp) (by simp), by
        have := RepS.osl (V := V) (I := [IE.row b 2 0]) (n := 0) (off := 0) (len := 0) (b := b) (k := 2) (ct := 0) rfl (by omega) (by simp [maxLen])
        simpa using this⟩
  · have hpos : 0 < l.length := List.length_pos_iff.2 h0
    rcases a6 with a6 | ⟨b, off, rfl, a6⟩
    · exact absurd a6 h0
    · refine c53s hn (repA_one a1 a2) a6 hpos hl fun v' Gr' hR => ?_
      obtain ⟨b', ct, rfl, b1, b2, b3⟩ := rowOf (V := V) (I := [.row 0 0 0]) (l := l) hR hpos rfl a1 a2 a3
      refine ⟨.row b' 2 ct, b3.row_any, ?_⟩
      have := RepS.osl (V := V) (I := [IE.row b' 2 ct]) (n := 0) (off := 0) (len := l.length) (b := b') (k := 2) (ct := ct) rfl (by omega) b2
      rw [Nat.zero_mul, Nat.sub_zero] at this
      exact this
theorem aClone_f (xs : List T) (y : List Tm) (h : ((d1 cTms).dec xs).bind (fun l => bif lenOK l then some l else none) = some y) (V : View) (vs : List Value) (hr : RepA V xs vs) :
    Fing Tryz.prog 53 vs.toArray V [] fun v V' G' => ∃ ie, RepOB V' [ie] (.row false 58 2 (y.map vT)) ie G' ∧ RepS V' [ie] (.osl 0 0 (y.map vT).length) v := by
  obtain ⟨l, h1, h2⟩ := osm h
  obtain ⟨h3, h4⟩ := bif_some h2
  have := soi h4; subst this
  have hr2 := (d1 cTms).rep h1 hr
  cases hr2 with | cons k1 k2 => cases k2 with | nil =>
  cases k1 with | ql k1 =>
  exact clone_law (l := l.map vT) (by have h5 : (l.map (view 10)).length = l.length := List.length_map ..; rw [show (List.map vT l).length = l.length from h5]; exact Nat.le_of_ble_eq_true h3) k1
theorem aClone_c : Ok1 Tryz.prog Su.tb btsOK.sound 53 aClone_p := by
  refine ⟨by kernel_rfl, fun xs y h V vs _ hr => fresh_plain (aClone_f xs y h V vs hr), fun j hj xs y h V vs _ hr => ?_⟩
  have hj : some ((58, 2) : Nat × Nat) = some j := hj
  simp only [Option.some.injEq] at hj; subst hj
  intro w0 a1 a2 a3 a4
  refine (aClone_f xs y h V vs hr w0 a1 a2 a3 a4).mono ?_
  rintro e w' ⟨v, V', G', rfl, hh, ie, m1, m2⟩
  refine ⟨v, V', G', rfl, hh, fun w l he hw => ?_⟩
  have he : [T.sl 2 (y.map vT)] = [.sl w l] := he
  simp only [List.cons.injEq, T.sl.injEq, and_true] at he
  obtain ⟨rfl, rfl⟩ := he
  exact ⟨ie, m1, m2⟩
end Su
end
section
namespace Su
open Go Go.Proofs Fly
set_option maxRecDepth 100000
noncomputable section
abbrev dFF : Dec (Int × (Int × Int)) := dc (cI .u64) (dc (cI .u64) (d1 (cI .u8)))
def frcN (n : Nat) : Option Int := Nat.rec (motive := fun _ => Option Int) (some ((0 : Nat) : Int)) (fun m _ => some ((m + 1 : Nat) : Int)) n
theorem frcN_eq (n : Nat) : frcN n = some (n : Int) := by cases n <;> rfl
def aAddO (p : Int × (Int × Int)) : Option Int := frcN (addF p.1.toNat p.2.1.toNat p.2.2)
def aMulO (p : Int × (Int × Int)) : Option Int := frcN (mulF p.1.toNat p.2.1.toNat p.2.2)
def upO (s : Nat) : List Int → Nat
  | [] => s
  | x :: l => upO (addF s x.toNat 1) l
def aUpO (l : List Int) : Option Int := frcN (upO 0 l)
def doneO (a : Fm) : Fm := bif (fI (nzI a.2.1) && fI (nzI a.2.2.2)) && !((delZ a.2.2.1).any fun t => !fI t.c) then (a.1, (nzI a.2.1, (delZ a.2.2.1, nzI a.2.2.2))) else badF
theorem upO_eq : ∀ (l : List Int) (s : Nat), upO s l = upS s l
  | [], s => rfl
  | x :: l, s => by show upO (addF s x.toNat 1) l = upS (addN s x.toNat 1) l; rw [upO_eq l, addN_eq]
def aAddW : PrimD := prim dFF (d1 (cI .u64)) aAddO
def aMulW : PrimD := prim dFF (d1 (cI .u64)) aMulO
def aUpW : PrimD := prim (d1 (cQ 2 1)) (d1 (cI .u64)) aUpO
def aDoneW : PrimD := prim4t (2, 58) (d1 cFrm4) (d1 cFrm) (fun a => some (doneO a)) (d1 cFrm) (fun a => bif a.2.2.1.all fun t => !zI t.c then some (doneO a) else none)
theorem aAddW_c : Ok1 Tryz.prog tb btsOK.sound 43 aAddW := by
  have e : aAddO = aAdd_s := by funext p; unfold aAddO aAdd_s; rw [addN_eq, frcN_eq]
  unfold aAddW; rw [e]; exact aAdd_c
theorem aMulW_c : Ok1 Tryz.prog tb btsOK.sound 69 aMulW := by
  have e : aMulO = aMul_s := by funext p; unfold aMulO aMul_s; rw [mulN_eq, frcN_eq]
  unfold aMulW; rw [e]; exact aMul_c
theorem aUpW_c : Ok1 Tryz.prog tb btsOK.sound 54 aUpW := by
  have e : aUpO = aUp_s := by funext l; unfold aUpO aUp_s; rw [upO_eq, frcN_eq]
  unfold aUpW; rw [e]; exact aUp_c
theorem aDoneW_c : Ok1 Tryz.prog tb btsOK.sound 36 aDoneW := by
  have e : doneO = doneF := by funext a; rw [doneF_eq]; rfl
  unfold aDoneW; rw [e]; exact aDone_c
def prW : Prims := extL [(43, aAddW), (69, aMulW), (54, aUpW), (36, aDoneW), (53, aClone_p), (85, spNorm_p), (119, spAt_p), (88, dDel_p), (90, aCont_p), (39, aFin_p), (60, aZero_p)] pr_C13
theorem prW_ok : PrimOK Tryz.prog tb btsOK.sound prW := extL_ok pr_C13_ok (ok_cons aAddW_c (ok_cons aMulW_c (ok_cons aUpW_c (ok_cons aDoneW_c (ok_cons aClone_c (ok_cons spNorm_c (ok_cons spAt_c (ok_cons dDel_c (ok_cons aCont_c (ok_cons aFin_c (ok_cons aZero_c ok_nil)))))))))))
theorem works_run : shFn tb prW (shN tb prW 60 9) 60 8 [] (d1 cB).dec = some true := by kernel_rfl
def works_p : PrimD := prim d0 (d1 cB) fun _ => some true
theorem works_c : Ok1 Tryz.prog tb btsOK.sound 8 works_p := prim_ok k_ok prW_ok (by kernel_rfl) fun a y hg h => ⟨60, 9, 60, works_run.trans h⟩
def pr_HWk : Prims := extL [(8, works_p), (53, aClone_p)] pr_C22
theorem pr_HWk_ok : PrimOK Tryz.prog tb btsOK.sound pr_HWk := extL_ok pr_C22_ok (ok_cons works_c (ok_cons aClone_c ok_nil))
end
end Su
end
section
namespace Su
open Go Go.Proofs Fly
set_option maxRecDepth 100000
theorem bBit_eq (fu : Nat)  (a : (List Bool)) (i : Int) : shFn tb pr_HWk (shN tb pr_HWk fu 9) fu 161 ((dc (cQ 4 1) (d1 (cI .i64))).enc (a, i)) ((d1 cB)).dec = bBit a i := by kernel_rfl
noncomputable def bBit_p : PrimD := prim (dc (cQ 4 1) (d1 (cI .i64))) (d1 cB) (bBit_s)
theorem bBit_c : Ok1 Tryz.prog tb btsOK.sound 161 bBit_p := prim_ok k_ok pr_HWk_ok (by kernel_rfl) fun a y hg h => ⟨0, 9, 0, (bBit_eq 0 a.1 a.2).trans (bBit_ok a y hg h)⟩
theorem bLen_eq (fu : Nat) (a : (List Bool)) : shFn tb pr_HWk (shN tb pr_HWk fu 9) fu 136 ((d1 (cQ 4 1)).enc (a)) ((d1 (cI .i64))).dec = bLen fu a := by kernel_rfl
noncomputable def bLen_p : PrimD := prim (d1 (cQ 4 1)) (d1 (cI .i64)) (bLen_s)
theorem bLen_c : Ok1 Tryz.prog tb btsOK.sound 136 bLen_p := prim_ok k_ok pr_HWk_ok (by kernel_rfl) fun a y hg h => by
  obtain ⟨n, hn⟩ := bLen_ok a y hg h
  exact ⟨n, 9, n, (bLen_eq n a).trans hn⟩
theorem bShl_eq (fu : Nat) (a : (List Bool)) (n : Int) : shFn tb pr_HWk (shN tb pr_HWk fu 9) fu 131 ((dc (cQ 4 1) (d1 (cI .i64))).enc (a, n)) ((d1 (cQ 4 1))).dec = bShl fu a n := by kernel_rfl
noncomputable def bShl_p : PrimD := prim (dc (cQ 4 1) (d1 (cI .i64))) (d1 (cQ 4 1)) (bShl_s)
theorem bShl_c : Ok1 Tryz.prog tb btsOK.sound 131 bShl_p := prim_ok k_ok pr_HWk_ok (by kernel_rfl) fun a y hg h => by
  obtain ⟨n, hn⟩ := bShl_ok a y hg h
  exact ⟨n, 9, n, (bShl_eq n a.1 a.2).trans hn⟩
noncomputable def pr_D01 : Prims := extL [(161, bBit_p), (136, bLen_p), (131, bShl_p)] pr_HWk
theorem pr_D01_ok : PrimOK Tryz.prog tb btsOK.sound pr_D01 := extL_ok pr_HWk_ok (ok_cons bBit_c (ok_cons bLen_c (ok_cons bShl_c ok_nil)))
end Su
end
