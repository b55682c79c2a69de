/-
  The evaluator computes what the plain functions say.
-/
import Derived.Test.YtfckjjffdfkelaaGreatNC15
import Derived.Test.YtfckjjffdfkelaaGreatSuTb
import Derived.Test.YtfckjjffdfkelaaGreatHSh3
import Derived.Test.YtfckjjffdfkelaaGreatRiv
import Derived.Test.YtfckjjffdfkelaaGreatNB19
import Derived.Test.YtfckjjffdfkelaaGreatRrt
import Derived.Test.YtfckjjffdfkelaaGreatRin
import Derived.Test.YtfckjjffdfkelaaGreatSuP0
import Derived.ChangeSame
import Derived.ChangeOld
import Derived.DataReads
import Derived.Test.YtfckjjffdfkelaaGreatSuE
import Derived.RowKit
import Derived.Test.YtfckjjffdfkelaaGreatFlyM
set_option maxRecDepth 10000
section
namespace Su
open Go Go.Proofs Fly
set_option maxRecDepth 100000
theorem dDel_eq (fu : Nat) (l : (List Su.Tm)) (u : Unit) : shFn4 tb pr_C14z fu 9 175 (0, 103) ((dc cRow (d1 (cF 176))).enc (l, u)) ((d1 cTms)).dec = dDel fu l u := by kernel_rfl
theorem dDelT_eq (fu : Nat) (l : (List Su.Tm)) (u : Unit) : shFn tb pr_C14z (shN tb pr_C14z fu 9) fu 175 ((dc cTms (d1 (cF 176))).enc (l, u)) ((d1 cTms)).dec = dDelT fu l u := by kernel_rfl
theorem aCont_eq (fu : Nat) (l : (List Su.Tm)) (u : Unit) : shFn tb pr_C14z (shN tb pr_C14z fu 9) fu 177 ((dc cTms (d1 (cF 178))).enc (l, u)) ((d1 cB)).dec = aCont fu l u := by kernel_rfl
noncomputable def aCont_p : PrimD := prim (dc cTms (d1 (cF 178))) (d1 cB) (aCont_s)
theorem aCont_c : Ok1 Tryz.prog tb btsOK.sound 177 aCont_p := prim_ok k_ok pr_C14z_ok (by kernel_rfl) fun a y hg h => by
 obtain ⟨n, hn⟩ := aCont_ok a y hg h
 exact ⟨n, 9, n, (aCont_eq n a.1 a.2).trans hn⟩
theorem dDel_c4 : Ok1 Tryz.prog tb btsOK.sound 175 (prim4 (0, 103) (dc cRow (d1 (cF 176))) (d1 cTms) (dDel_s)) := prim4_ok k_ok pr_C14z_ok (by kernel_rfl) (exc exRow (ex1 (exFn 176))) hnRow fun a y hg h => by
 obtain ⟨n, hn⟩ := dDel_ok a y hg h
 exact ⟨n, 9, (dDel_eq n a.1 a.2).trans hn⟩
noncomputable def dDel_p : PrimD := prim4t (0, 103) (dc cRow (d1 (cF 176))) (d1 cTms) (dDel_s) (dc cTms (d1 (cF 176))) dDelT_s
theorem dDel_c : Ok1 Tryz.prog tb btsOK.sound 175 dDel_p := prim4t_ok k_ok pr_C14z_ok dDel_c4 fun a y hg h => by
 obtain ⟨n, hn⟩ := dDelT_ok a y hg h
 exact ⟨n, 9, n, (dDelT_eq n a.1 a.2).trans hn⟩
noncomputable def pr_C15 : Prims := extL [(175, dDel_p), (177, aCont_p)] pr_C14z
theorem pr_C15_ok : PrimOK Tryz.prog tb btsOK.sound pr_C15 := extL_ok pr_C14z_ok (ok_cons dDel_c (ok_cons aCont_c ok_nil))
end Su
end
section
namespace Su
open Go Go.Proofs Fly
set_option maxRecDepth 100000
theorem aDone_eq (fu : Nat)  (a : (Bool × (Int × ((List Su.Tm) × Int)))) : shFn4 tb pr_C15 fu 9 117 (2, 103) ((d1 cFrm4).enc (a)) ((d1 cFrm)).dec = aDone a := by kernel_rfl
theorem aDoneT_eq (fu : Nat)  (a : (Bool × (Int × ((List Su.Tm) × Int)))) : shFn tb pr_C15 (shN tb pr_C15 fu 9) fu 117 ((d1 cFrm).enc (a)) ((d1 cFrm)).dec = aDoneT a := by kernel_rfl
theorem aMay_eq (fu : Nat) (a : (Bool × (Int × ((List Su.Tm) × Int)))) : shFn tb pr_C15 (shN tb pr_C15 fu 9) fu 39 ((d1 cFrm).enc (a)) ((d1 cB)).dec = aMay fu a := by kernel_rfl
noncomputable def aMay_p : PrimD := prim (d1 cFrm) (d1 cB) (aMay_s)
theorem aMay_c : Ok1 Tryz.prog tb btsOK.sound 39 aMay_p := prim_ok k_ok pr_C15_ok (by kernel_rfl) fun a y hg h => by
 obtain ⟨n, hn⟩ := aMay_ok a y hg h
 exact ⟨n, 9, n, (aMay_eq n a).trans hn⟩
theorem aDone_c4 : Ok1 Tryz.prog tb btsOK.sound 117 (prim4 (2, 103) (d1 cFrm4) (d1 cFrm) (aDone_s)) := prim4_ok k_ok pr_C15_ok (by kernel_rfl) exF4 hnA fun a y hg h => ⟨0, 9, (aDone_eq 0 a).trans (aDone_ok a y hg h)⟩
noncomputable def aDone_p : PrimD := prim4t (2, 103) (d1 cFrm4) (d1 cFrm) (aDone_s) (d1 cFrm) aDoneT_s
theorem aDone_c : Ok1 Tryz.prog tb btsOK.sound 117 aDone_p := prim4t_ok k_ok pr_C15_ok aDone_c4 fun a y hg h => ⟨0, 9, 0, (aDoneT_eq 0 a).trans (aDoneT_ok a y hg h)⟩
noncomputable def pr_C16 : Prims := extL [(117, aDone_p), (39, aMay_p)] pr_C15
theorem pr_C16_ok : PrimOK Tryz.prog tb btsOK.sound pr_C16 := extL_ok pr_C15_ok (ok_cons aDone_c (ok_cons aMay_c ok_nil))
end Su
end
section
namespace Su
open Go Go.Proofs Fly
set_option maxRecDepth 100000
theorem aUnfit_eq (fu : Nat) (l : (List (Bool × (Int × ((List Su.Tm) × Int))))) : shFn tb pr_C16 (shN tb pr_C16 fu 9) fu 110 ((d1 cFms).enc (l)) ((d1 cB)).dec = aUnfit fu l := by kernel_rfl
noncomputable def aUnfit_p : PrimD := prim (d1 cFms) (d1 cB) (aUnfit_s)
theorem aUnfit_c : Ok1 Tryz.prog tb btsOK.sound 110 aUnfit_p := prim_ok k_ok pr_C16_ok (by kernel_rfl) fun a y hg h => by
 obtain ⟨n, hn⟩ := aUnfit_ok a y hg h
 exact ⟨n, 9, n, (aUnfit_eq n a).trans hn⟩
noncomputable def pr_C17 : Prims := extL [(110, aUnfit_p)] pr_C16
theorem pr_C17_ok : PrimOK Tryz.prog tb btsOK.sound pr_C17 := extL_ok pr_C16_ok (ok_cons aUnfit_c ok_nil)
end Su
end
section
namespace Su
open Go Go.Proofs Fly
set_option maxRecDepth 100000
theorem aNeg_eq (fu : Nat) (a : (Bool × (Int × ((List Su.Tm) × Int)))) : shFn tb pr_C17 (shN tb pr_C17 fu 9) fu 47 ((d1 cFrm).enc (a)) ((d1 cFrm)).dec = aNeg fu a := by kernel_rfl
noncomputable def aNeg_p : PrimD := prim (d1 cFrm) (d1 cFrm) (aNeg_s)
theorem aNeg_c : Ok1 Tryz.prog tb btsOK.sound 47 aNeg_p := prim_ok k_ok pr_C17_ok (by kernel_rfl) fun a y hg h => by
 obtain ⟨n, hn⟩ := aNeg_ok a y hg h
 exact ⟨n, 9, n, (aNeg_eq n a).trans hn⟩
theorem aConst_eq (fu : Nat)  (f : Int) : shFn tb pr_C17 (shN tb pr_C17 fu 9) fu 81 ((d1 (cI .u64)).enc (f)) ((d1 cFrm)).dec = aConst f := by kernel_rfl
noncomputable def aConst_p : PrimD := prim (d1 (cI .u64)) (d1 cFrm) (aConst_s)
theorem aConst_c : Ok1 Tryz.prog tb btsOK.sound 81 aConst_p := prim_ok k_ok pr_C17_ok (by kernel_rfl) fun a y hg h => ⟨0, 9, 0, (aConst_eq 0 a).trans (aConst_ok a y hg h)⟩
noncomputable def pr_C18 : Prims := extL [(47, aNeg_p), (81, aConst_p)] pr_C17
theorem pr_C18_ok : PrimOK Tryz.prog tb btsOK.sound pr_C18 := extL_ok pr_C17_ok (ok_cons aNeg_c (ok_cons aConst_c ok_nil))
end Su
end
section
namespace Su
open Go Go.Proofs Fly
set_option maxRecDepth 100000
theorem spAt_eq (fu : Nat)  (a : Int) (b : Int) : shFn tb pr_C18 (shN tb pr_C18 fu 9) fu 129 ((dc (cI .u64) (d1 (cI .u64))).enc (a, b)) ((d1 cB)).dec = spAt a b := by kernel_rfl
noncomputable def spAt_p : PrimD := prim (dc (cI .u64) (d1 (cI .u64))) (d1 cB) (spAt_s)
theorem spAt_c : Ok1 Tryz.prog tb btsOK.sound 129 spAt_p := prim_ok k_ok pr_C18_ok (by kernel_rfl) fun a y hg h => ⟨0, 9, 0, (spAt_eq 0 a.1 a.2).trans (spAt_ok a y hg h)⟩
noncomputable def pr_C21 : Prims := extL [(129, spAt_p)] pr_C18
theorem pr_C21_ok : PrimOK Tryz.prog tb btsOK.sound pr_C21 := extL_ok pr_C18_ok (ok_cons spAt_c ok_nil)
end Su
end
section
namespace Su
open Go Go.Proofs Fly
set_option maxRecDepth 100000
theorem spNorm_eq (fu : Nat) (s : (Bool × (Int × Int))) : shFn tb pr_C21 (shN tb pr_C21 fu 9) fu 128 ((d1 cSpn).enc (s)) ((d1 cSpn)).dec = spNorm fu s := by kernel_rfl
noncomputable def spNorm_p : PrimD := prim (d1 cSpn) (d1 cSpn) (spNorm_s)
theorem spNorm_c : Ok1 Tryz.prog tb btsOK.sound 128 spNorm_p := prim_ok k_ok pr_C21_ok (by kernel_rfl) fun a y hg h => by
 obtain ⟨n, hn⟩ := spNorm_ok a y hg h
 exact ⟨n, 9, n, (spNorm_eq n a).trans hn⟩
noncomputable def pr_C22 : Prims := extL [(128, spNorm_p)] pr_C21
theorem pr_C22_ok : PrimOK Tryz.prog tb btsOK.sound pr_C22 := extL_ok pr_C21_ok (ok_cons spNorm_c ok_nil)
end Su
end
section
namespace Su
open Go Go.Proofs Fly
set_option maxRecDepth 100000
theorem iNorm_eq (fu : Nat)  (s : (Bool × (Int × Int))) : shFn tb pr_C22 (shN tb pr_C22 fu 9) fu 141 ((d1 cIn).enc (s)) ((d1 cIn)).dec = iNorm s := by kernel_rfl
noncomputable def iNorm_p : PrimD := prim (d1 cIn) (d1 cIn) (iNorm_s)
theorem iNorm_c : Ok1 Tryz.prog tb btsOK.sound 141 iNorm_p := prim_ok k_ok pr_C22_ok (by kernel_rfl) fun a y hg h => ⟨0, 9, 0, (iNorm_eq 0 a).trans (iNorm_ok a y hg h)⟩
noncomputable def pr_B20 : Prims := extL [(141, iNorm_p)] pr_C22
theorem pr_B20_ok : PrimOK Tryz.prog tb btsOK.sound pr_B20 := extL_ok pr_C22_ok (ok_cons iNorm_c ok_nil)
end Su
end
section
namespace Su
open Go Go.Proofs Fly
set_option maxRecDepth 100000
theorem iMake_eq (fu : Nat)  (lo : Int) (hi : Int) : shFn tb pr_B20 (shN tb pr_B20 fu 9) fu 60 ((dc (cI .i64) (d1 (cI .i64))).enc (lo, hi)) ((d1 cIn)).dec = iMake lo hi := by kernel_rfl
noncomputable def iMake_p : PrimD := prim (dc (cI .i64) (d1 (cI .i64))) (d1 cIn) (iMake_s)
theorem iMake_c : Ok1 Tryz.prog tb btsOK.sound 60 iMake_p := prim_ok k_ok pr_B20_ok (by kernel_rfl) fun a y hg h => ⟨0, 9, 0, (iMake_eq 0 a.1 a.2).trans (iMake_ok a y hg h)⟩
theorem iHas_eq (fu : Nat)  (s : (Bool × (Int × Int))) (n : Int) : shFn tb pr_B20 (shN tb pr_B20 fu 9) fu 75 ((dc cIn (d1 (cI .i64))).enc (s, n)) ((d1 cB)).dec = iHas s n := by kernel_rfl
noncomputable def iHas_p : PrimD := prim (dc cIn (d1 (cI .i64))) (d1 cB) (iHas_s)
theorem iHas_c : Ok1 Tryz.prog tb btsOK.sound 75 iHas_p := prim_ok k_ok pr_B20_ok (by kernel_rfl) fun a y hg h => ⟨0, 9, 0, (iHas_eq 0 a.1 a.2).trans (iHas_ok a y hg h)⟩
theorem iIns_eq (fu : Nat)  (a : (Bool × (Int × Int))) (b : (Bool × (Int × Int))) : shFn tb pr_B20 (shN tb pr_B20 fu 9) fu 74 ((dc cIn (d1 cIn)).enc (a, b)) ((d1 cB)).dec = iIns a b := by kernel_rfl
noncomputable def iIns_p : PrimD := prim (dc cIn (d1 cIn)) (d1 cB) (iIns_s)
theorem iIns_c : Ok1 Tryz.prog tb btsOK.sound 74 iIns_p := prim_ok k_ok pr_B20_ok (by kernel_rfl) fun a y hg h => ⟨0, 9, 0, (iIns_eq 0 a.1 a.2).trans (iIns_ok a y hg h)⟩
theorem iJoin_eq (fu : Nat) (l : (List (Bool × (Int × Int)))) : shFn tb pr_B20 (shN tb pr_B20 fu 9) fu 87 ((d1 (cL rIn)).enc (l)) ((d1 cIn)).dec = iJoin fu l := by kernel_rfl
noncomputable def iJoin_p : PrimD := prim (d1 (cL rIn)) (d1 cIn) (iJoin_s)
theorem iJoin_c : Ok1 Tryz.prog tb btsOK.sound 87 iJoin_p := prim_ok k_ok pr_B20_ok (by kernel_rfl) fun a y hg h => by
 obtain ⟨n, hn⟩ := iJoin_ok a y hg h
 exact ⟨n, 9, n, (iJoin_eq n a).trans hn⟩
theorem iNeg_eq (fu : Nat)  (a : (Bool × (Int × Int))) : shFn tb pr_B20 (shN tb pr_B20 fu 9) fu 196 ((d1 cIn).enc (a)) ((d1 cIn)).dec = iNeg a := by kernel_rfl
noncomputable def iNeg_p : PrimD := prim (d1 cIn) (d1 cIn) (iNeg_s)
theorem iNeg_c : Ok1 Tryz.prog tb btsOK.sound 196 iNeg_p := prim_ok k_ok pr_B20_ok (by kernel_rfl) fun a y hg h => ⟨0, 9, 0, (iNeg_eq 0 a).trans (iNeg_ok a y hg h)⟩
theorem iMeet_eq (fu : Nat)  (a : (Bool × (Int × Int))) (b : (Bool × (Int × Int))) : shFn tb pr_B20 (shN tb pr_B20 fu 9) fu 164 ((dc cIn (d1 cIn)).enc (a, b)) ((d1 cIn)).dec = iMeet a b := by kernel_rfl
noncomputable def iMeet_p : PrimD := prim (dc cIn (d1 cIn)) (d1 cIn) (iMeet_s)
theorem iMeet_c : Ok1 Tryz.prog tb btsOK.sound 164 iMeet_p := prim_ok k_ok pr_B20_ok (by kernel_rfl) fun a y hg h => ⟨0, 9, 0, (iMeet_eq 0 a.1 a.2).trans (iMeet_ok a y hg h)⟩
theorem iSum_eq (fu : Nat)  (x : Int) (y : Int) : shFn tb pr_B20 (shN tb pr_B20 fu 9) fu 167 ((dc (cI .i64) (d1 (cI .i64))).enc (x, y)) ((d1 (cI .i64))).dec = iSum x y := by kernel_rfl
noncomputable def iSum_p : PrimD := prim (dc (cI .i64) (d1 (cI .i64))) (d1 (cI .i64)) (iSum_s)
theorem iSum_c : Ok1 Tryz.prog tb btsOK.sound 167 iSum_p := prim_ok k_ok pr_B20_ok (by kernel_rfl) fun a y hg h => ⟨0, 9, 0, (iSum_eq 0 a.1 a.2).trans (iSum_ok a y hg h)⟩
theorem iHull_eq (fu : Nat)  (lo : Int) (hi : Int) : shFn tb pr_B20 (shN tb pr_B20 fu 9) fu 166 ((dc (cI .i64) (d1 (cI .i64))).enc (lo, hi)) ((d1 cIn)).dec = iHull lo hi := by kernel_rfl
noncomputable def iHull_p : PrimD := prim (dc (cI .i64) (d1 (cI .i64))) (d1 cIn) (iHull_s)
theorem iHull_c : Ok1 Tryz.prog tb btsOK.sound 166 iHull_p := prim_ok k_ok pr_B20_ok (by kernel_rfl) fun a y hg h => ⟨0, 9, 0, (iHull_eq 0 a.1 a.2).trans (iHull_ok a y hg h)⟩
noncomputable def pr_B21 : Prims := extL [(60, iMake_p), (75, iHas_p), (74, iIns_p), (87, iJoin_p), (196, iNeg_p), (164, iMeet_p), (167, iSum_p), (166, iHull_p)] pr_B20
theorem pr_B21_ok : PrimOK Tryz.prog tb btsOK.sound pr_B21 := extL_ok pr_B20_ok (ok_cons iMake_c (ok_cons iHas_c (ok_cons iIns_c (ok_cons iJoin_c (ok_cons iNeg_c (ok_cons iMeet_c (ok_cons iSum_c (ok_cons iHull_c ok_nil))))))))
end Su
end
section
namespace Su
open Go Go.Proofs Fly
set_option maxRecDepth 100000
theorem iAdd_eq (fu : Nat)  (a : (Bool × (Int × Int))) (b : (Bool × (Int × Int))) : shFn tb pr_B21 (shN tb pr_B21 fu 9) fu 103 ((dc cIn (d1 cIn)).enc (a, b)) ((d1 cIn)).dec = iAdd a b := by kernel_rfl
noncomputable def iAdd_p : PrimD := prim (dc cIn (d1 cIn)) (d1 cIn) (iAdd_s)
theorem iAdd_c : Ok1 Tryz.prog tb btsOK.sound 103 iAdd_p := prim_ok k_ok pr_B21_ok (by kernel_rfl) fun a y hg h => ⟨0, 9, 0, (iAdd_eq 0 a.1 a.2).trans (iAdd_ok a y hg h)⟩
noncomputable def pr_B22 : Prims := extL [(103, iAdd_p)] pr_B21
theorem pr_B22_ok : PrimOK Tryz.prog tb btsOK.sound pr_B22 := extL_ok pr_B21_ok (ok_cons iAdd_c ok_nil)
end Su
end
section
namespace Su
open Go Go.Proofs Fly
set_option maxRecDepth 100000
theorem iSub_eq (fu : Nat)  (a : (Bool × (Int × Int))) (b : (Bool × (Int × Int))) : shFn tb pr_B22 (shN tb pr_B22 fu 9) fu 156 ((dc cIn (d1 cIn)).enc (a, b)) ((d1 cIn)).dec = iSub a b := by kernel_rfl
noncomputable def iSub_p : PrimD := prim (dc cIn (d1 cIn)) (d1 cIn) (iSub_s)
theorem iSub_c : Ok1 Tryz.prog tb btsOK.sound 156 iSub_p := prim_ok k_ok pr_B22_ok (by kernel_rfl) fun a y hg h => ⟨0, 9, 0, (iSub_eq 0 a.1 a.2).trans (iSub_ok a y hg h)⟩
theorem iPt_eq (fu : Nat)  (n : Int) : shFn tb pr_B22 (shN tb pr_B22 fu 9) fu 28 ((d1 (cI .i64)).enc (n)) ((d1 cIn)).dec = iPt n := by kernel_rfl
noncomputable def iPt_p : PrimD := prim (d1 (cI .i64)) (d1 cIn) (iPt_s)
theorem iPt_c : Ok1 Tryz.prog tb btsOK.sound 28 iPt_p := prim_ok k_ok pr_B22_ok (by kernel_rfl) fun a y hg h => ⟨0, 9, 0, (iPt_eq 0 a).trans (iPt_ok a y hg h)⟩
theorem kNorm_eq (fu : Nat)  (c : ((Bool × (Int × Int)) × (Bool × (Int × Int)))) : shFn tb pr_B22 (shN tb pr_B22 fu 9) fu 155 ((d1 cCk2).enc (c)) ((d1 cCk2)).dec = kNorm c := by kernel_rfl
noncomputable def kNorm_p : PrimD := prim (d1 cCk2) (d1 cCk2) (kNorm_s)
theorem kNorm_c : Ok1 Tryz.prog tb btsOK.sound 155 kNorm_p := prim_ok k_ok pr_B22_ok (by kernel_rfl) fun a y hg h => ⟨0, 9, 0, (kNorm_eq 0 a).trans (kNorm_ok a y hg h)⟩
noncomputable def pr_B23 : Prims := extL [(156, iSub_p), (28, iPt_p), (155, kNorm_p)] pr_B22
theorem pr_B23_ok : PrimOK Tryz.prog tb btsOK.sound pr_B23 := extL_ok pr_B22_ok (ok_cons iSub_c (ok_cons iPt_c (ok_cons kNorm_c ok_nil)))
end Su
end
section
namespace Su
open Go Go.Proofs Fly
set_option maxRecDepth 100000
theorem kOf_eq (fu : Nat)  (v : (Bool × (Int × Int))) (k : (Bool × (Int × Int))) : shFn tb pr_B23 (shN tb pr_B23 fu 9) fu 79 ((dc cIn (d1 cIn)).enc (v, k)) ((d1 cCk2)).dec = kOf v k := by kernel_rfl
noncomputable def kOf_p : PrimD := prim (dc cIn (d1 cIn)) (d1 cCk2) (kOf_s)
theorem kOf_c : Ok1 Tryz.prog tb btsOK.sound 79 kOf_p := prim_ok k_ok pr_B23_ok (by kernel_rfl) fun a y hg h => ⟨0, 9, 0, (kOf_eq 0 a.1 a.2).trans (kOf_ok a y hg h)⟩
theorem kTick_eq (fu : Nat)  (c : ((Bool × (Int × Int)) × (Bool × (Int × Int)))) : shFn tb pr_B23 (shN tb pr_B23 fu 9) fu 102 ((d1 cCk2).enc (c)) ((d1 cCk2)).dec = kTick c := by kernel_rfl
noncomputable def kTick_p : PrimD := prim (d1 cCk2) (d1 cCk2) (kTick_s)
theorem kTick_c : Ok1 Tryz.prog tb btsOK.sound 102 kTick_p := prim_ok k_ok pr_B23_ok (by kernel_rfl) fun a y hg h => ⟨0, 9, 0, (kTick_eq 0 a).trans (kTick_ok a y hg h)⟩
theorem kRed_eq (fu : Nat)  (v : (Bool × (Int × Int))) (c : ((Bool × (Int × Int)) × (Bool × (Int × Int)))) (k : (Bool × (Int × Int))) : shFn tb pr_B23 (shN tb pr_B23 fu 9) fu 97 ((dc cIn (dc cCk2 (d1 cIn))).enc (v, c, k)) ((d1 cIn)).dec = kRed v c k := by kernel_rfl
noncomputable def kRed_p : PrimD := prim (dc cIn (dc cCk2 (d1 cIn))) (d1 cIn) (kRed_s)
theorem kRed_c : Ok1 Tryz.prog tb btsOK.sound 97 kRed_p := prim_ok k_ok pr_B23_ok (by kernel_rfl) fun a y hg h => ⟨0, 9, 0, (kRed_eq 0 a.1 a.2.1 a.2.2).trans (kRed_ok a y hg h)⟩
theorem kMt_eq (fu : Nat)  (a : ((Bool × (Int × Int)) × (Bool × (Int × Int)))) (b : ((Bool × (Int × Int)) × (Bool × (Int × Int)))) : shFn tb pr_B23 (shN tb pr_B23 fu 9) fu 165 ((dc cCk2 (d1 cCk2)).enc (a, b)) ((d1 cCk2)).dec = kMt a b := by kernel_rfl
noncomputable def kMt_p : PrimD := prim (dc cCk2 (d1 cCk2)) (d1 cCk2) (kMt_s)
theorem kMt_c : Ok1 Tryz.prog tb btsOK.sound 165 kMt_p := prim_ok k_ok pr_B23_ok (by kernel_rfl) fun a y hg h => ⟨0, 9, 0, (kMt_eq 0 a.1 a.2).trans (kMt_ok a y hg h)⟩
theorem kJn_eq (fu : Nat)  (a : ((Bool × (Int × Int)) × (Bool × (Int × Int)))) (b : ((Bool × (Int × Int)) × (Bool × (Int × Int)))) : shFn tb pr_B23 (shN tb pr_B23 fu 9) fu 90 ((dc cCk2 (d1 cCk2)).enc (a, b)) ((d1 cCk2)).dec = kJn a b := by kernel_rfl
noncomputable def kJn_p : PrimD := prim (dc cCk2 (d1 cCk2)) (d1 cCk2) (kJn_s)
theorem kJn_c : Ok1 Tryz.prog tb btsOK.sound 90 kJn_p := prim_ok k_ok pr_B23_ok (by kernel_rfl) fun a y hg h => ⟨0, 9, 0, (kJn_eq 0 a.1 a.2).trans (kJn_ok a y hg h)⟩
theorem kIn_eq (fu : Nat)  (a : ((Bool × (Int × Int)) × (Bool × (Int × Int)))) (b : ((Bool × (Int × Int)) × (Bool × (Int × Int)))) : shFn tb pr_B23 (shN tb pr_B23 fu 9) fu 153 ((dc cCk2 (d1 cCk2)).enc (a, b)) ((d1 cB)).dec = kIn a b := by kernel_rfl
noncomputable def kIn_p : PrimD := prim (dc cCk2 (d1 cCk2)) (d1 cB) (kIn_s)
theorem kIn_c : Ok1 Tryz.prog tb btsOK.sound 153 kIn_p := prim_ok k_ok pr_B23_ok (by kernel_rfl) fun a y hg h => ⟨0, 9, 0, (kIn_eq 0 a.1 a.2).trans (kIn_ok a y hg h)⟩
theorem kHas_eq (fu : Nat)  (c : ((Bool × (Int × Int)) × (Bool × (Int × Int)))) (v : Int) (k : Int) : shFn tb pr_B23 (shN tb pr_B23 fu 9) fu 154 ((dc cCk2 (dc (cI .i64) (d1 (cI .i64)))).enc (c, v, k)) ((d1 cB)).dec = kHas c v k := by kernel_rfl
noncomputable def kHas_p : PrimD := prim (dc cCk2 (dc (cI .i64) (d1 (cI .i64)))) (d1 cB) (kHas_s)
theorem kHas_c : Ok1 Tryz.prog tb btsOK.sound 154 kHas_p := prim_ok k_ok pr_B23_ok (by kernel_rfl) fun a y hg h => ⟨0, 9, 0, (kHas_eq 0 a.1 a.2.1 a.2.2).trans (kHas_ok a y hg h)⟩
noncomputable def pr_B24 : Prims := extL [(79, kOf_p), (102, kTick_p), (97, kRed_p), (165, kMt_p), (90, kJn_p), (153, kIn_p), (154, kHas_p)] pr_B23
theorem pr_B24_ok : PrimOK Tryz.prog tb btsOK.sound pr_B24 := extL_ok pr_B23_ok (ok_cons kOf_c (ok_cons kTick_c (ok_cons kRed_c (ok_cons kMt_c (ok_cons kJn_c (ok_cons kIn_c (ok_cons kHas_c ok_nil)))))))
end Su
end
section
namespace Su
open Go Go.Proofs Fly
set_option maxRecDepth 100000
theorem zMake_eq (fu : Nat)  (lo : Int) (hi : Int) : shFn tb pr_B24 (shN tb pr_B24 fu 9) fu 95 ((dc (cI .u64) (d1 (cI .u64))).enc (lo, hi)) ((d1 cSpn)).dec = zMake lo hi := by kernel_rfl
noncomputable def zMake_p : PrimD := prim (dc (cI .u64) (d1 (cI .u64))) (d1 cSpn) (zMake_s)
theorem zMake_c : Ok1 Tryz.prog tb btsOK.sound 95 zMake_p := prim_ok k_ok pr_B24_ok (by kernel_rfl) fun a y hg h => ⟨0, 9, 0, (zMake_eq 0 a.1 a.2).trans (zMake_ok a y hg h)⟩
theorem zIn_eq (fu : Nat)  (a : (Bool × (Int × Int))) (b : (Bool × (Int × Int))) : shFn tb pr_B24 (shN tb pr_B24 fu 9) fu 52 ((dc cSpn (d1 cSpn)).enc (a, b)) ((d1 cB)).dec = zIn a b := by kernel_rfl
noncomputable def zIn_p : PrimD := prim (dc cSpn (d1 cSpn)) (d1 cB) (zIn_s)
theorem zIn_c : Ok1 Tryz.prog tb btsOK.sound 52 zIn_p := prim_ok k_ok pr_B24_ok (by kernel_rfl) fun a y hg h => ⟨0, 9, 0, (zIn_eq 0 a.1 a.2).trans (zIn_ok a y hg h)⟩
theorem zHas_eq (fu : Nat)  (s : (Bool × (Int × Int))) (f : Int) : shFn tb pr_B24 (shN tb pr_B24 fu 9) fu 57 ((dc cSpn (d1 (cI .u64))).enc (s, f)) ((d1 cB)).dec = zHas s f := by kernel_rfl
noncomputable def zHas_p : PrimD := prim (dc cSpn (d1 (cI .u64))) (d1 cB) (zHas_s)
theorem zHas_c : Ok1 Tryz.prog tb btsOK.sound 57 zHas_p := prim_ok k_ok pr_B24_ok (by kernel_rfl) fun a y hg h => ⟨0, 9, 0, (zHas_eq 0 a.1 a.2).trans (zHas_ok a y hg h)⟩
theorem zMeet_eq (fu : Nat)  (a : (Bool × (Int × Int))) (b : (Bool × (Int × Int))) : shFn tb pr_B24 (shN tb pr_B24 fu 9) fu 99 ((dc cSpn (d1 cSpn)).enc (a, b)) ((d1 cSpn)).dec = zMeet a b := by kernel_rfl
noncomputable def zMeet_p : PrimD := prim (dc cSpn (d1 cSpn)) (d1 cSpn) (zMeet_s)
theorem zMeet_c : Ok1 Tryz.prog tb btsOK.sound 99 zMeet_p := prim_ok k_ok pr_B24_ok (by kernel_rfl) fun a y hg h => ⟨0, 9, 0, (zMeet_eq 0 a.1 a.2).trans (zMeet_ok a y hg h)⟩
theorem zJoin_eq (fu : Nat) (l : (List (Bool × (Int × Int)))) : shFn tb pr_B24 (shN tb pr_B24 fu 9) fu 91 ((d1 (cL rSp)).enc (l)) ((d1 cSpn)).dec = zJoin fu l := by kernel_rfl
noncomputable def zJoin_p : PrimD := prim (d1 (cL rSp)) (d1 cSpn) (zJoin_s)
theorem zJoin_c : Ok1 Tryz.prog tb btsOK.sound 91 zJoin_p := prim_ok k_ok pr_B24_ok (by kernel_rfl) fun a y hg h => by
 obtain ⟨n, hn⟩ := zJoin_ok a y hg h
 exact ⟨n, 9, n, (zJoin_eq n a).trans hn⟩
theorem slJoin_eq (fu : Nat) (l : (List Int)) : shFn tb pr_B24 (shN tb pr_B24 fu 9) fu 92 ((d1 (cQ 2 1)).enc (l)) ((d1 (cI .u64))).dec = slJoin fu l := by kernel_rfl
noncomputable def slJoin_p : PrimD := prim (d1 (cQ 2 1)) (d1 (cI .u64)) (slJoin_s)
theorem slJoin_c : Ok1 Tryz.prog tb btsOK.sound 92 slJoin_p := prim_ok k_ok pr_B24_ok (by kernel_rfl) fun a y hg h => by
 obtain ⟨n, hn⟩ := slJoin_ok a y hg h
 exact ⟨n, 9, n, (slJoin_eq n a).trans hn⟩
noncomputable def pr_B25 : Prims := extL [(95, zMake_p), (52, zIn_p), (57, zHas_p), (99, zMeet_p), (91, zJoin_p), (92, slJoin_p)] pr_B24
theorem pr_B25_ok : PrimOK Tryz.prog tb btsOK.sound pr_B25 := extL_ok pr_B24_ok (ok_cons zMake_c (ok_cons zIn_c (ok_cons zHas_c (ok_cons zMeet_c (ok_cons zJoin_c (ok_cons slJoin_c ok_nil))))))
end Su
end
section
namespace Su
open Go Go.Proofs Fly
set_option maxRecDepth 100000
theorem cBare_eq (fu : Nat)  (x : Su.Ce) (t : Int) : shFn tb pr_B25 (shN tb pr_B25 fu 9) fu 151 ((dc cCe (d1 (cI .u8))).enc (x, t)) ((d1 cCe)).dec = cBare x t := by kernel_rfl
noncomputable def cBare_p : PrimD := prim (dc cCe (d1 (cI .u8))) (d1 cCe) (cBare_s)
theorem cBare_c : Ok1 Tryz.prog tb btsOK.sound 151 cBare_p := prim_ok k_ok pr_B25_ok (by kernel_rfl) fun a y hg h => ⟨0, 9, 0, (cBare_eq 0 a.1 a.2).trans (cBare_ok a y hg h)⟩
theorem cNone_eq (fu : Nat)  (x : Su.Ce) (t : Int) : shFn tb pr_B25 (shN tb pr_B25 fu 9) fu 152 ((dc cCe (d1 (cI .u8))).enc (x, t)) ((d1 cB)).dec = cNone x t := by kernel_rfl
noncomputable def cNone_p : PrimD := prim (dc cCe (d1 (cI .u8))) (d1 cB) (cNone_s)
theorem cNone_c : Ok1 Tryz.prog tb btsOK.sound 152 cNone_p := prim_ok k_ok pr_B25_ok (by kernel_rfl) fun a y hg h => ⟨0, 9, 0, (cNone_eq 0 a.1 a.2).trans (cNone_ok a y hg h)⟩
noncomputable def pr_B26 : Prims := extL [(151, cBare_p), (152, cNone_p)] pr_B25
theorem pr_B26_ok : PrimOK Tryz.prog tb btsOK.sound pr_B26 := extL_ok pr_B25_ok (ok_cons cBare_c (ok_cons cNone_c ok_nil))
end Su
end
section
namespace Su
open Go Go.Proofs Fly
set_option maxRecDepth 100000
theorem heavy_eq (fu : Nat) (c : (Int × ((List Su.Cc) × ((List Su.T) × ((List Su.T) × ((List Su.T) × ((List Su.T) × Int))))))) (l : (List (Bool × (Bool × (Int × (Int × (List Su.Ce))))))) : shFn tb pr_B26 (shN tb pr_B26 fu 9) fu 13 ((dc cCo (d1 (cL rSt))).enc (c, l)) ((d1 cB)).dec = heavy fu c l := by kernel_rfl
noncomputable def heavy_p : PrimD := prim (dc cCo (d1 (cL rSt))) (d1 cB) (heavy_s)
theorem heavy_c : Ok1 Tryz.prog tb btsOK.sound 13 heavy_p := prim_ok k_ok pr_B26_ok (by kernel_rfl) fun a y hg h => by
 obtain ⟨n, hn⟩ := heavy_ok a y hg h
 exact ⟨n, 9, n, (heavy_eq n a.1 a.2).trans hn⟩
noncomputable def pr_B19 : Prims := extL [(13, heavy_p)] pr_B26
theorem pr_B19_ok : PrimOK Tryz.prog tb btsOK.sound pr_B19 := extL_ok pr_B26_ok (ok_cons heavy_c ok_nil)
end Su
end
section
namespace Su
open Go Go.Proofs Fly
set_option maxRecDepth 100000
theorem sTick_eq (fu : Nat) (c : (Int × ((List Su.Cc) × ((List Su.T) × ((List Su.T) × ((List Su.T) × ((List Su.T) × Int))))))) (s : (Bool × (Bool × (Int × (Int × (List Su.Ce)))))) : shFn tb pr_B19 (shN tb pr_B19 fu 9) fu 37 ((dc cCo (d1 cSt)).enc (c, s)) ((d1 cSt)).dec = sTick fu c s := by kernel_rfl
noncomputable def sTick_p : PrimD := prim (dc cCo (d1 cSt)) (d1 cSt) (sTick_s)
theorem sTick_c : Ok1 Tryz.prog tb btsOK.sound 37 sTick_p := prim_ok k_ok pr_B19_ok (by kernel_rfl) fun a y hg h => by
 obtain ⟨n, hn⟩ := sTick_ok a y hg h
 exact ⟨n, 9, n, (sTick_eq n a.1 a.2).trans hn⟩
noncomputable def pr_B27 : Prims := extL [(37, sTick_p)] pr_B19
theorem pr_B27_ok : PrimOK Tryz.prog tb btsOK.sound pr_B27 := extL_ok pr_B19_ok (ok_cons sTick_c ok_nil)
end Su
end
section
namespace Su
open Go Go.Proofs Fly
set_option maxRecDepth 100000
theorem sInp_eq (fu : Nat) (c : (Int × ((List Su.Cc) × ((List Su.T) × ((List Su.T) × ((List Su.T) × ((List Su.T) × Int))))))) (s : (Bool × (Bool × (Int × (Int × (List Su.Ce)))))) : shFn tb pr_B27 (shN tb pr_B27 fu 9) fu 34 ((dc cCo (d1 cSt)).enc (c, s)) ((d1 cSt)).dec = sInp fu c s := by kernel_rfl
noncomputable def sInp_p : PrimD := prim (dc cCo (d1 cSt)) (d1 cSt) (sInp_s)
theorem sInp_c : Ok1 Tryz.prog tb btsOK.sound 34 sInp_p := prim_ok k_ok pr_B27_ok (by kernel_rfl) fun a y hg h => by
 obtain ⟨n, hn⟩ := sInp_ok a y hg h
 exact ⟨n, 9, n, (sInp_eq n a.1 a.2).trans hn⟩
noncomputable def pr_B28 : Prims := extL [(34, sInp_p)] pr_B27
theorem pr_B28_ok : PrimOK Tryz.prog tb btsOK.sound pr_B28 := extL_ok pr_B27_ok (ok_cons sInp_c ok_nil)
end Su
end
section
namespace Su
open Go Go.Proofs Fly
set_option maxRecDepth 100000
theorem aSize_eq (fu : Nat)  (f : Int) : shFn tb pr_B28 (shN tb pr_B28 fu 9) fu 140 ((d1 (cI .u64)).enc (f)) ((d1 cRt)).dec = aSize f := by kernel_rfl
noncomputable def aSize_p : PrimD := prim (d1 (cI .u64)) (d1 cRt) (aSize_s)
theorem aSize_c : Ok1 Tryz.prog tb btsOK.sound 140 aSize_p := prim_ok k_ok pr_B28_ok (by kernel_rfl) fun a y hg h => ⟨0, 9, 0, (aSize_eq 0 a).trans (aSize_ok a y hg h)⟩
noncomputable def pr_B31z : Prims := extL [(140, aSize_p)] pr_B28
theorem pr_B31z_ok : PrimOK Tryz.prog tb btsOK.sound pr_B31z := extL_ok pr_B28_ok (ok_cons aSize_c ok_nil)
end Su
end
section
namespace Su
open Go Go.Proofs Fly
set_option maxRecDepth 100000
theorem aOf_eq (fu : Nat) (a : (Bool × (Int × ((List Su.Tm) × Int)))) (f : Int) : shFn tb pr_B31z (shN tb pr_B31z fu 9) fu 56 ((dc cFrm (d1 (cI .u64))).enc (a, f)) ((d1 cB)).dec = aOf fu a f := by kernel_rfl
noncomputable def aOf_p : PrimD := prim (dc cFrm (d1 (cI .u64))) (d1 cB) (aOf_s)
theorem aOf_c : Ok1 Tryz.prog tb btsOK.sound 56 aOf_p := prim_ok k_ok pr_B31z_ok (by kernel_rfl) fun a y hg h => by
 obtain ⟨n, hn⟩ := aOf_ok a y hg h
 exact ⟨n, 9, n, (aOf_eq n a.1 a.2).trans hn⟩
noncomputable def pr_B32 : Prims := extL [(56, aOf_p)] pr_B31z
theorem pr_B32_ok : PrimOK Tryz.prog tb btsOK.sound pr_B32 := extL_ok pr_B31z_ok (ok_cons aOf_c ok_nil)
end Su
end
section
namespace Su
open Go Go.Proofs Fly
set_option maxRecDepth 100000
theorem sHas_eq (fu : Nat) (c : (Int × ((List Su.Cc) × ((List Su.T) × ((List Su.T) × ((List Su.T) × ((List Su.T) × Int))))))) (s : (Bool × (Bool × (Int × (Int × (List Su.Ce)))))) (row : (List Su.Vl)) (k : Int) : shFn tb pr_B32 (shN tb pr_B32 fu 9) fu 22 ((dc cCo (dc cSt (dc (cL rVl) (d1 (cI .i64))))).enc (c, s, row, k)) ((d1 cB)).dec = sHas fu c s row k := by kernel_rfl
noncomputable def sHas_p : PrimD := prim (dc cCo (dc cSt (dc (cL rVl) (d1 (cI .i64))))) (d1 cB) (sHas_s)
theorem sHas_c : Ok1 Tryz.prog tb btsOK.sound 22 sHas_p := prim_ok k_ok pr_B32_ok (by kernel_rfl) fun a y hg h => by
 obtain ⟨n, hn⟩ := sHas_ok a y hg h
 exact ⟨n, 9, n, (sHas_eq n a.1 a.2.1 a.2.2.1 a.2.2.2).trans hn⟩
noncomputable def pr_B33 : Prims := extL [(22, sHas_p)] pr_B32
theorem pr_B33_ok : PrimOK Tryz.prog tb btsOK.sound pr_B33 := extL_ok pr_B32_ok (ok_cons sHas_c ok_nil)
end Su
end
section
namespace Su
open Go Go.Proofs Fly
set_option maxRecDepth 100000
theorem qKey_eq (fu : Nat)  (f : Int) : shFn tb pr_B33 (shN tb pr_B33 fu 9) fu 163 ((d1 (cI .u64)).enc (f)) ((d1 (cI .i64))).dec = qKey f := by kernel_rfl
noncomputable def qKey_p : PrimD := prim (d1 (cI .u64)) (d1 (cI .i64)) (qKey_s)
theorem qKey_c : Ok1 Tryz.prog tb btsOK.sound 163 qKey_p := prim_ok k_ok pr_B33_ok (by kernel_rfl) fun a y hg h => ⟨0, 9, 0, (qKey_eq 0 a).trans (qKey_ok a y hg h)⟩
noncomputable def pr_B34 : Prims := extL [(163, qKey_p)] pr_B33
theorem pr_B34_ok : PrimOK Tryz.prog tb btsOK.sound pr_B34 := extL_ok pr_B33_ok (ok_cons qKey_c ok_nil)
end Su
end
section
namespace Su
open Go Go.Proofs Fly
set_option maxRecDepth 100000
theorem qCmp_eq (fu : Nat)  (a : Int) (b : Int) : shFn tb pr_B34 (shN tb pr_B34 fu 9) fu 93 ((dc (cI .u64) (d1 (cI .u64))).enc (a, b)) ((dc (cI .i64) (d1 cB))).dec = qCmp a b := by kernel_rfl
noncomputable def qCmp_p : PrimD := prim (dc (cI .u64) (d1 (cI .u64))) (dc (cI .i64) (d1 cB)) (qCmp_s)
theorem qCmp_c : Ok1 Tryz.prog tb btsOK.sound 93 qCmp_p := prim_ok k_ok pr_B34_ok (by kernel_rfl) fun a y hg h => ⟨0, 9, 0, (qCmp_eq 0 a.1 a.2).trans (qCmp_ok a y hg h)⟩
noncomputable def pr_B35 : Prims := extL [(93, qCmp_p)] pr_B34
theorem pr_B35_ok : PrimOK Tryz.prog tb btsOK.sound pr_B35 := extL_ok pr_B34_ok (ok_cons qCmp_c ok_nil)
end Su
end
section
namespace Su
open Go Go.Proofs Fly
set_option maxRecDepth 100000
theorem rMay14_eq (fu : Nat) (c : (Int × ((List Su.Cc) × ((List Su.T) × ((List Su.T) × ((List Su.T) × ((List Su.T) × Int))))))) (l : (List Su.Vl)) : shFn tb pr_B35 (shN tb pr_B35 fu 9) fu 33 ((dc cCo (d1 (cL rVl))).enc (c, l)) ((d1 cB)).dec = rMay14 fu c l := by kernel_rfl
noncomputable def rMay14_p : PrimD := prim (dc cCo (d1 (cL rVl))) (d1 cB) (rMay14_s)
theorem rMay14_c : Ok1 Tryz.prog tb btsOK.sound 33 rMay14_p := prim_ok k_ok pr_B35_ok (by kernel_rfl) fun a y hg h => by
 obtain ⟨n, hn⟩ := rMay14_ok a y hg h
 exact ⟨n, 9, n, (rMay14_eq n a.1 a.2).trans hn⟩
noncomputable def pr_B36 : Prims := extL [(33, rMay14_p)] pr_B35
theorem pr_B36_ok : PrimOK Tryz.prog tb btsOK.sound pr_B36 := extL_ok pr_B35_ok (ok_cons rMay14_c ok_nil)
end Su
end
section
namespace Su
open Go Go.Proofs Fly
set_option maxRecDepth 100000
noncomputable def PValO (f : Int) : Option (Rt × Bool) := some (bif noNum f.toNat then ((false, ([], [])), false) else (valR f.toNat, true))
noncomputable def PValW : PrimD := prim (d1 (cI .u64)) (dc cRt (d1 cB)) PValO
theorem PValO_eq : PValO = PVal_s := by
 funext f; unfold PValO PVal_s; rw [okS_nil]; rfl
theorem PValW_c : Ok1 Tryz.prog tb btsOK.sound 14 PValW := by unfold PValW; rw [PValO_eq]; exact PVal_c
noncomputable def prW : Prims := extL [(14, PValW)] pr_B16
theorem prW_ok : PrimOK Tryz.prog tb btsOK.sound prW := extL_ok pr_B16_ok (ok_cons PValW_c ok_nil)
theorem works_run : shFn tb prW (shN tb prW 60 25) 60 12 [] (d1 cB).dec = some true := by kernel_rfl
noncomputable def works_p : PrimD := prim d0 (d1 cB) fun _ => some true
theorem works_c : Ok1 Tryz.prog tb btsOK.sound 12 works_p := prim_ok k_ok prW_ok (by kernel_rfl) fun a y hg h => ⟨60, 25, 60, works_run.trans h⟩
noncomputable def pr_W22 : Prims := extL [(12, works_p)] pr_B36
theorem pr_W22_ok : PrimOK Tryz.prog tb btsOK.sound pr_W22 := extL_ok pr_B36_ok (ok_cons works_c ok_nil)
end Su
end
section
namespace Su
open Go Go.Proofs Fly
set_option maxRecDepth 100000
theorem lInp_eq (fu : Nat) (c : (Int × ((List Su.Cc) × ((List Su.T) × ((List Su.T) × ((List Su.T) × ((List Su.T) × Int))))))) (s : (Bool × (Bool × (Int × (Int × (List Su.Ce)))))) (row : (List Su.Vl)) (k : Int) (inputs : (List Su.Vl)) : shFn tb pr_W22 (shN tb pr_W22 fu 9) fu 7 ((dc cCo (dc cSt (dc (cL rVl) (dc (cI .i64) (d1 (cL rVl)))))).enc (c, s, row, k, inputs)) ((d1 cB)).dec = lInp fu c s row k inputs := by kernel_rfl
noncomputable def lInp_p : PrimD := prim (dc cCo (dc cSt (dc (cL rVl) (dc (cI .i64) (d1 (cL rVl)))))) (d1 cB) (lInp_s)
theorem lInp_c : Ok1 Tryz.prog tb btsOK.sound 7 lInp_p := prim_ok k_ok pr_W22_ok (by kernel_rfl) fun a y hg h => by
 obtain ⟨n, hn⟩ := lInp_ok a y hg h
 exact ⟨n, 9, n, (lInp_eq n a.1 a.2.1 a.2.2.1 a.2.2.2.1 a.2.2.2.2).trans hn⟩
end Su
end
section
namespace Su
open Go Fly
def isGroup (P : Program) (t : Nat) : Bool := match P.underlying t with
 | some (.struct _) => true
 | _ => false
def tiles (P : Program) (S : List Nat) (n : Nat) : Nat → List Field → Bool
 | o, [] => Nat.beq o n
 | o, f :: fs => Nat.beq f.offset o && (S.contains f.type && tiles P S n (o + P.cellsOf f.type) fs)
def okTy (P : Program) (S : List Nat) (t : Nat) : Bool := match P.underlying t with
 | some .bool => Nat.beq (P.cellsOf t) 1
 | some (.int _) => Nat.beq (P.cellsOf t) 1
 | some (.float _) => Nat.beq (P.cellsOf t) 1
 | some .string => Nat.beq (P.cellsOf t) 1
 | some (.slice e) => Nat.beq (P.cellsOf t) 1 && (S.contains e && Nat.blt 0 (P.cellsOf e))
 | some (.struct fs) => tiles P S (P.cellsOf t) 0 fs.toList
 | _ => false
inductive All2 {α β : Type} (R : α → β → Prop) : List α → List β → Prop
 | nil : All2 R [] []
 | cons {a : α} {b : β} {l : List α} {m : List β} (h : R a b) (h' : All2 R l m) : All2 R (a :: l) (b :: m)
def Shp (P : Program) : Nat → Nat → List T → Prop
 | 0, _, _ => False
 | fuel + 1, t, xs => match P.underlying t with
  | some .bool => ∃ b, xs = [.s (.bool b)]
  | some (.int k) => ∃ n, xs = [.s (.int k n)] ∧ (Lit.int k n).wf = true
  | some (.float k) => ∃ b, xs = [.s (.float k b)] ∧ (Lit.float k b).wf = true
  | some .string => ∃ s, xs = [.s (.string s)] ∧ s.size ≤ maxLen
  | some (.slice e) => ∃ l, xs = [.sl (P.cellsOf e) l] ∧ l.length ≤ maxLen ∧ ∀ x ∈ l, x.isAgg = isGroup P e ∧ Shp P fuel e x.cells
  | some (.struct fs) => ∃ parts : List (List T), xs = parts.flatten ∧ All2 (fun (f : Field) p => Shp P fuel f.type p) fs.toList parts
  | _ => False
def hv (w : World) : View := fun b => w.heap[b]?
theorem add_add {a : Addr} {m n : Nat} (h : n ≠ 0 ∨ m = 0 ∨ a.spot = none) : (a.add m).add n = a.add (m + n) := by
 unfold Addr.add
 by_cases hn : n = 0
 · subst hn; simp
 · by_cases hm : m = 0
   · subst hm; simp [hn]
   · simp [hn, hm, Nat.add_assoc]
theorem rd_of_cell {w : World} {a : Addr} {v : Value} (h : w.cell? a = some v) : a.spot = none ∧ rd (hv w) a.block a.off v := by
 unfold World.cell? at h
 split at h
 · rename_i c e f hb
   cases hs : a.spot with
   | some s => rw [hs] at h; simp at h
   | none => rw [hs] at h; exact ⟨rfl, c, e, f, hb, by simpa using h⟩
 · simp at h
theorem add_off (a : Addr) (n : Nat) : (a.add n).off = a.off + n ∧ (a.add n).block = a.block := by
 unfold Addr.add; split
 · rename_i h; subst h; exact ⟨rfl, rfl⟩
 · exact ⟨rfl, rfl⟩
theorem rows_rd {w : World} {a : Addr} {k : Nat} (hk : 0 < k) : ∀ (css : List (List Value)) (s : Nat), (∀ i cs, css[i]? = some cs → w.cells? 0 (a.add ((s + i) * k)) k = some cs) → ∀ j c, css.flatten[j]? = some c → rd (hv w) a.block (a.off + s * k + j) c ∧ w.cell? (a.add (s * k + j)) = some c
 | [], s, h, j, c, hj => by simp at hj
 | c0 :: css, s, h, j, c, hj => by
  obtain ⟨_, hl, hc⟩ := World.cells?_some (h 0 c0 rfl)
  simp only [Nat.add_zero] at hc
  rw [List.flatten_cons] at hj
  rcases Nat.lt_or_ge j k with hjk | hjk
  · rw [List.getElem?_append_left (by omega)] at hj
    have h1 := hc j hjk
    rw [hj] at h1
    have h3 : w.cell? (a.add (s * k + j)) = some c := by
     by_cases hj0 : j = 0
     · subst hj0
       have : (a.add (s * k)).add 0 = a.add (s * k) := by unfold Addr.add; simp
       rw [this] at h1; exact h1
     · rw [add_add (.inl hj0)] at h1; exact h1
    obtain ⟨_, h2⟩ := rd_of_cell h3
    rw [(add_off _ _).1, (add_off _ _).2] at h2
    exact ⟨by rw [Nat.add_assoc]; exact h2, h3⟩
  · rw [List.getElem?_append_right (by omega), hl] at hj
    have h2 := rows_rd hk css (s + 1) (fun i cs hi => by
     have := h (i + 1) cs (by simpa using hi)
     rw [show s + 1 + i = s + (i + 1) by omega]; exact this) (j - k) c hj
    have e1 : (s + 1) * k + (j - k) = s * k + j := by rw [Nat.add_mul]; omega
    rw [Nat.add_assoc, e1] at h2
    exact ⟨by rw [Nat.add_assoc]; exact h2.1, h2.2⟩
end Su
end
section
namespace Su
open Go Fly
theorem mapM_split {β γ : Type} {f : Nat → Option (List β)} {g : List β → Option γ} {n : Nat} {r : List γ} (h : (List.range n).mapM (fun i => (f i).bind g) = some r) :
 ∃ css : List (List β), css.length = n ∧ ∀ (i : Nat) (cs : List β), css[i]? = some cs → f i = some cs ∧ ∃ y, y ∈ r ∧ g cs = some y := by
 have hl : r.length = n := by simpa using mapM_some_length h
 refine ⟨(List.range n).map fun i => (f i).getD [], by simp, fun i cs hi => ?_⟩
 have hin : i < n := by
  have := (List.getElem?_eq_some_iff.1 hi).1
  simpa using this
 have h1 := mapM_some_get h i i (by simp [hin])
 rw [List.getElem?_eq_getElem (by omega)] at h1
 obtain ⟨c, hc, hg⟩ := Option.bind_eq_some_iff.1 h1
 have : cs = c := by
  rw [List.getElem?_map, List.getElem?_range hin] at hi
  simp [hc] at hi; exact hi.symm
 subst this
 exact ⟨hc, _, List.getElem_mem _, hg⟩
theorem all2_of {α β : Type} {R : α → β → Prop} : ∀ {l : List α}, (∀ x ∈ l, ∃ y, R x y) → ∃ m, All2 R l m
 | [], _ => ⟨[], .nil⟩
 | x :: l, h => by
  obtain ⟨y, hy⟩ := h x (List.mem_cons_self ..)
  obtain ⟨m, hm⟩ := all2_of (l := l) fun z hz => h z (List.mem_cons_of_mem _ hz)
  exact ⟨y :: m, .cons hy hm⟩
theorem All2.length {α β : Type} {R : α → β → Prop} {l : List α} {m : List β} (h : All2 R l m) : l.length = m.length := by
 induction h with
 | nil => rfl
 | cons _ _ ih => simp [ih]
theorem All2.right {α β : Type} {R : α → β → Prop} {l : List α} {m : List β} (h : All2 R l m) : ∀ y ∈ m, ∃ x, R x y := by
 induction h with
 | nil => intro y hy; simp at hy
 | cons hr _ ih =>
  intro y hy
  rcases List.mem_cons.1 hy with rfl | hy
  · exact ⟨_, hr⟩
  · exact ih y hy
section
variable {H : Type} {enc : TypeId × Value → H} {P : Program} {w : World} {S : List Nat}
def Good (enc : TypeId × Value → H) (P : Program) (w : World) (fuel t : Nat) (cs : List Value) (x : DataW H × List MemPlace) : Prop :=
 (∃ xs, RepA (hv w) xs cs ∧ (∀ y ∈ xs, y.isAgg = false) ∧ xs.length = P.cellsOf t ∧ Shp P fuel t xs) ∧ ∀ sp : Nat → Bool, (∀ p ∈ x.2, sp p.block = true) → DataW.trod enc P w 0 sp true fuel t cs = some x
theorem shp_one {fuel t : Nat} {xs : List T} (h : Shp P fuel t xs) (hg : isGroup P t = false) (hok : okTy P S t = true) : ∃ x, xs = [x] ∧ x.isAgg = false ∧ x.cells = [x] := by
 cases fuel with
 | zero => exact absurd h (by simp [Shp])
 | succ fuel =>
  unfold Shp at h
  unfold isGroup at hg
  split at h
  · obtain ⟨b, rfl⟩ := h; exact ⟨_, rfl, rfl, rfl⟩
  · obtain ⟨b, rfl, _⟩ := h; exact ⟨_, rfl, rfl, rfl⟩
  · obtain ⟨b, rfl, _⟩ := h; exact ⟨_, rfl, rfl, rfl⟩
  · obtain ⟨b, rfl, _⟩ := h; exact ⟨_, rfl, rfl, rfl⟩
  · obtain ⟨b, rfl, _⟩ := h; exact ⟨_, rfl, rfl, rfl⟩
  · rename_i hu; rw [hu] at hg; simp at hg
  · exact absurd h (by simp)
theorem good_elem {fuel e : Nat} {cs : List Value} {x : DataW H × List MemPlace} (hok : okTy P S e = true) (h : Good enc P w fuel e cs x) :
 ∃ z : T, RepA (hv w) z.cells cs ∧ (∀ y ∈ z.cells, y.isAgg = false) ∧ z.cells.length = P.cellsOf e ∧ z.isAgg = isGroup P e ∧ Shp P fuel e z.cells := by
 obtain ⟨⟨xs, h1, h2, h3, h4⟩, _⟩ := h
 cases hg : isGroup P e with
 | true => exact ⟨.agg xs, h1, h2, h3, rfl, h4⟩
 | false =>
  obtain ⟨z, rfl, hz, hzc⟩ := shp_one h4 hg hok
  exact ⟨z, by rw [hzc]; exact h1, by rw [hzc]; exact h2, by rw [hzc]; exact h3, hz, by rw [hzc]; exact h4⟩
theorem elems_rep {fuel e : Nat} : ∀ {css : List (List Value)} {l : List T}, All2 (fun cs z => RepA (hv w) z.cells cs ∧ (∀ y ∈ z.cells, y.isAgg = false) ∧ z.cells.length = P.cellsOf e ∧ z.isAgg = isGroup P e ∧ Shp P fuel e z.cells) css l →
 RepA (hv w) (l.flatMap T.cells) css.flatten ∧ (∀ y ∈ l.flatMap T.cells, y.isAgg = false)
 | _, _, .nil => ⟨.nil, by simp⟩
 | _, _, .cons h h' => by
  obtain ⟨h1, h2⟩ := elems_rep h'
  rw [List.flatMap_cons, List.flatten_cons]
  refine ⟨h.1.append h1, fun y hy => ?_⟩
  rcases List.mem_append.1 hy with hy | hy
  · exact h.2.1 y hy
  · exact h2 y hy
theorem fields_rep {fuel : Nat} {cs : List Value} (ih : ∀ t ∈ S, ∀ (cs : List Value) (x : DataW H × List MemPlace), DataW.trod enc P w 0 (fun _ => true) true fuel t cs = some x → Good enc P w fuel t cs x) : ∀ (fs : List Field) (o : Nat) (ys : List (DataW H × List MemPlace)),
 tiles P S cs.length o fs = true → fs.mapM (fun f => DataW.trod enc P w 0 (fun _ => true) true fuel f.type ((cs.drop f.offset).take (P.cellsOf f.type))) = some ys →
 ∃ parts : List (List T), RepA (hv w) parts.flatten (cs.drop o) ∧ (∀ y ∈ parts.flatten, y.isAgg = false) ∧ All2 (fun (f : Field) p => Shp P fuel f.type p) fs parts
 | [], o, ys, ht, _ => by
  have := Nat.eq_of_beq_eq_true ht; subst this
  rw [List.drop_of_length_le (Nat.le_refl _)]
  exact ⟨[], .nil, by simp, .nil⟩
 | f :: fs, o, ys, ht, h => by
  simp only [tiles, Bool.and_eq_true] at ht
  obtain ⟨h1, h2, h3⟩ := ht
  have := Nat.eq_of_beq_eq_true h1; subst this
  rw [List.mapM_cons] at h
  obtain ⟨y, hy, h⟩ := bsome (a := DataW.trod enc P w 0 (fun _ => true) true fuel f.type ((cs.drop f.offset).take (P.cellsOf f.type))) h
  obtain ⟨ys', hys, _⟩ := bsome (a := fs.mapM (fun f => DataW.trod enc P w 0 (fun _ => true) true fuel f.type ((cs.drop f.offset).take (P.cellsOf f.type)))) h
  obtain ⟨⟨xs, a1, a2, a3, a4⟩, _⟩ := ih f.type (by simpa using h2) _ _ hy
  obtain ⟨parts, b1, b2, b3⟩ := fields_rep ih fs _ _ h3 hys
  refine ⟨xs :: parts, ?_, fun z hz => ?_, .cons a4 b3⟩
  · rw [List.flatten_cons, ← List.take_append_drop (P.cellsOf f.type) (cs.drop f.offset), List.drop_drop]
    exact a1.append b1
  · rw [List.flatten_cons] at hz
    rcases List.mem_append.1 hz with hz | hz
    · exact a2 z hz
    · exact b2 z hz
theorem trod_good (hS : ∀ t ∈ S, okTy P S t = true) : ∀ (fuel t : Nat), t ∈ S → ∀ (cs : List Value) (x : DataW H × List MemPlace), DataW.trod enc P w 0 (fun _ => true) true fuel t cs = some x → Good enc P w fuel t cs x := by
 intro fuel
 induction fuel with
 | zero => intro t _ cs x h; simp [DataW.trod] at h
 | succ fuel ih =>
  intro t htS cs x h
  have hok := hS t htS
  have one : ∀ (v : Value), isSc v = true → cs = [v] → Nat.beq (P.cellsOf t) 1 = true → Shp P (fuel + 1) t [.s v] → (∀ sp : Nat → Bool, (∀ p ∈ x.2, sp p.block = true) → DataW.trod enc P w 0 sp true (fuel + 1) t cs = some x) → Good enc P w (fuel + 1) t cs x := by
   rintro v hv' rfl h1 h2 h3
   exact ⟨⟨[.s v], .cons (.s hv') .nil, by simp [T.isAgg], by rw [Nat.eq_of_beq_eq_true h1]; rfl, h2⟩, h3⟩
  have hh := h
  rw [DataW.trod_step] at h
  unfold DataW.trodStep at h
  split at h
  case h_1 b hu =>
   refine one _ rfl rfl (by simpa [okTy, hu] using hok) (by simp only [Shp, hu]; exact ⟨b, rfl⟩) fun sp _ => ?_
   rw [DataW.trod_step] at hh ⊢; unfold DataW.trodStep at hh ⊢; simp only [hu] at hh ⊢; exact hh
  case h_2 k k' n hu =>
   split at h
   · rename_i hc
     obtain ⟨rfl, hw⟩ := hc
     refine one (.int k' n) (show isSc (.int k' n) = true from hw) rfl (by simpa [okTy, hu] using hok) (by simp only [Shp, hu]; exact ⟨n, rfl, hw⟩) fun sp _ => ?_
     rw [DataW.trod_step] at hh ⊢; unfold DataW.trodStep at hh ⊢; simp only [hu] at hh ⊢; exact hh
   · simp at h
  case h_3 k k' b hu =>
   split at h
   · rename_i hc
     obtain ⟨rfl, hw⟩ := hc
     refine one _ rfl rfl (by simpa [okTy, hu] using hok) (by simp only [Shp, hu]; exact ⟨b, rfl, hw⟩) fun sp _ => ?_
     rw [DataW.trod_step] at hh ⊢; unfold DataW.trodStep at hh ⊢; simp only [hu] at hh ⊢; exact hh
   · simp at h
  case h_4 st hu =>
   split at h
   · rename_i hc
     refine one _ (by show Nat.ble _ _ = true; rw [Nat.ble_eq]; exact hc) rfl (by simpa [okTy, hu] using hok) (by simp only [Shp, hu]; exact ⟨st, rfl, hc⟩) fun sp _ => ?_
     rw [DataW.trod_step] at hh ⊢; unfold DataW.trodStep at hh ⊢; simp only [hu] at hh ⊢; exact hh
   · simp at h
  case h_7 e hu =>
   simp only [okTy, hu, Bool.and_eq_true] at hok
   refine ⟨⟨[.sl (P.cellsOf e) []], .cons (.sl (l := []) (vs := []) .nil (by simp) (by simp) (by simp) (by simp [maxLen]) (.inl rfl)) .nil, by simp [T.isAgg], by rw [Nat.eq_of_beq_eq_true hok.1]; rfl, ?_⟩, fun sp _ => ?_⟩
   · simp only [Shp, hu]; exact ⟨[], rfl, by simp, by simp⟩
   · rw [DataW.trod_step] at hh ⊢; unfold DataW.trodStep at hh ⊢; simp only [hu] at hh ⊢; exact hh
  case h_8 e a len cap hu =>
   simp only [okTy, hu, Bool.and_eq_true, List.contains_iff_mem] at hok
   obtain ⟨ho1, ho2, ho3⟩ := hok
   have hk : 0 < P.cellsOf e := by rw [Nat.blt_eq] at ho3; exact ho3
   simp only [] at h
   split at h
   · rename_i hc
     obtain ⟨hc0, hc1, hc2⟩ := hc
     simp only [Option.map_eq_some_iff, Option.bind_eq_some_iff] at h
     obtain ⟨elems, he, rest, hrest, rfl⟩ := h
     have hlen : elems.length = len := by simpa using mapM_some_length he
     obtain ⟨css, hcl, hcs⟩ := mapM_split he
     have hz : ∀ cs ∈ css, ∃ z : T, RepA (hv w) z.cells cs ∧ (∀ y ∈ z.cells, y.isAgg = false) ∧ z.cells.length = P.cellsOf e ∧ z.isAgg = isGroup P e ∧ Shp P fuel e z.cells := by
      intro cs hm
      obtain ⟨i, hi⟩ := List.mem_iff_getElem?.1 hm
      obtain ⟨_, y, _, hy⟩ := hcs i cs hi
      exact good_elem (hS e ho2) (ih e ho2 _ _ hy)
     obtain ⟨l, hl⟩ := all2_of hz
     obtain ⟨r1, r2⟩ := elems_rep hl
     have hll : l.length = len := by rw [← hl.length, hcl]
     have hrd := rows_rd (w := w) (a := a) hk css 0 fun i cs hi => by rw [Nat.zero_add]; exact (hcs i cs hi).1
     refine ⟨⟨[.sl (P.cellsOf e) l], .cons ?_ .nil, by simp [T.isAgg], by rw [Nat.eq_of_beq_eq_true ho1]; rfl, ?_⟩, fun sp hsp => ?_⟩
     · rw [← hll]
       refine .sl r1 r2 (fun x hx => ?_) (by rw [hll]; exact hc1) hc2 ?_
       · obtain ⟨cs, hx1⟩ := hl.right x hx
         exact hx1.2.2.1
       · cases hl0 : css with
         | nil => rw [hl0] at hcl; left; rw [← List.length_eq_zero_iff]; rw [hll, ← hcl]; rfl
         | cons c0 css' =>
          right
          have h0 := (hcs 0 c0 (by rw [hl0]; rfl)).1
          obtain ⟨_, hcl0, hcc⟩ := World.cells?_some h0
          have h00 := hcc 0 hk
          have hc00 : c0[0]? = some (c0[0]'(by omega)) := by rw [List.getElem?_eq_getElem]
          rw [hc00] at h00
          have hsp : a.spot = none := by
           have e0 : (a.add (0 * P.cellsOf e)).add 0 = a := by unfold Addr.add; simp
           rw [e0] at h00
           exact (rd_of_cell h00).1
          refine ⟨a.block, a.off, by cases a; simp at hsp; subst hsp; rfl, fun j c hj => ?_⟩
          rw [← hl0] at hj
          have := (hrd j c hj).1
          simpa using this
     · simp only [Shp, hu]
       refine ⟨l, rfl, by omega, fun x hx => ?_⟩
       obtain ⟨cs, hx1⟩ := hl.right x hx
       exact ⟨hx1.2.2.2.1, hx1.2.2.2.2⟩
     · rw [DataW.trod_step]
       unfold DataW.trodStep
       simp only [hu]
       rw [if_pos ⟨hc0, hc1, hc2⟩]
       simp only [Option.map_eq_some_iff, Option.bind_eq_some_iff]
       have elem : ∀ (i : Nat) (y : DataW H × List MemPlace), y ∈ elems ++ rest → (w.cells? 0 (a.add (i * P.cellsOf e)) (P.cellsOf e)).bind (DataW.trod enc P w 0 (fun _ => true) true fuel e) = some y →
        (w.cells? 0 (a.add (i * P.cellsOf e)) (P.cellsOf e)).bind (DataW.trod enc P w 0 sp true fuel e) = some y := by
        intro i y hy h1
        obtain ⟨cs, h2, h3⟩ := Option.bind_eq_some_iff.1 h1
        refine Option.bind_eq_some_iff.2 ⟨cs, h2, (ih e ho2 _ _ h3).2 sp fun p hp => hsp p ?_⟩
        exact List.mem_append_right _ (List.mem_flatMap.2 ⟨y, hy, hp⟩)
       refine ⟨elems, mapM_carry he fun i y _ hy h1 => elem i y (List.mem_append_left _ hy) h1, rest, ?_, rfl⟩
       simp only [if_true] at hrest
       by_cases h0 : cap - len = 0
       · rw [h0] at hrest ⊢
         simp at hrest
         subst hrest
         split <;> rfl
       · have hrl : rest.length = cap - len := by simpa using mapM_some_length hrest
         have : sp a.block = true := hsp (.cell a.block (a.off + 0)) (List.mem_append_left _ (MemPlace.mem_row.2 ⟨0, Nat.mul_pos (by omega) hk, rfl⟩))
         rw [if_pos this]
         exact mapM_carry hrest fun i y _ hy h1 => elem _ y (List.mem_append_right _ hy) h1
   · simp at h
  case h_9 fs hu =>
   simp only [okTy, hu] at hok
   split at h
   · rename_i hc
     simp only [Option.map_eq_some_iff] at h
     obtain ⟨ys, hy, rfl⟩ := h
     rw [← hc] at hok
     obtain ⟨parts, b1, b2, b3⟩ := fields_rep ih fs.toList 0 ys hok hy
     rw [List.drop_zero] at b1
     refine ⟨⟨parts.flatten, b1, b2, by rw [b1.length, hc], ?_⟩, fun sp hsp => ?_⟩
     · simp only [Shp, hu]; exact ⟨parts, rfl, b3⟩
     · rw [DataW.trod_step]
       unfold DataW.trodStep
       simp only [hu]
       rw [if_pos hc]
       simp only [Option.map_eq_some_iff]
       have inS : ∀ (N : Nat) (l : List Field) (o : Nat), tiles P S N o l = true → ∀ f ∈ l, f.type ∈ S := by
        intro N l
        induction l with
        | nil => intro o _ f hf; simp at hf
        | cons g l ihl =>
         intro o ht f hf
         simp only [tiles, Bool.and_eq_true] at ht
         rcases List.mem_cons.1 hf with rfl | hf
         · simpa using ht.2.1
         · exact ihl _ ht.2.2 f hf
       refine ⟨ys, mapM_carry hy fun f y hf hym h1 => (ih f.type (inS _ _ _ hok f hf) _ _ h1).2 sp fun p hp => hsp p (List.mem_flatMap.2 ⟨y, hym, hp⟩), rfl⟩
   · simp at h
  all_goals first
   | (rename_i hu; simp [okTy, hu] at hok; done)
   | (rename_i hu _; simp [okTy, hu] at hok; done)
   | (simp at h; done)
end
end Su
end
section
namespace Su
open Go Fly Go.RowKit Go.ChangeShapes
section
variable {H : Type} {enc : TypeId × Value → H} {P : Program} {w : World} {S : List Nat}
def IsTy (P : Program) (t : Nat) (x : T) : Prop := x.isAgg = isGroup P t ∧ ∃ fuel, Shp P fuel t x.cells
theorem not_agg {r : Reach} {b0 : Nat} {t : Nat} {cs : Array Value} (hok : okTy P S t = true) (hg : isGroup P t = false) (h : Value.okWide P w r b0 t (.agg cs)) : False := by
 unfold okTy at hok
 unfold Value.okWide Cell.okWide Cell.ok at h
 unfold isGroup at hg
 split at hok
 all_goals rename_i hu
 all_goals first
  | (simp [hu] at hok; done)
  | (simp [hu] at hg; done)
  | (simp [hu] at h; done)
theorem arg_tree (hS : ∀ t ∈ S, okTy P S t = true) {r : Reach} {b0 t : Nat} {v : Value} {d : DataW H} {p : List MemPlace} (ht : t ∈ S) (hval : Value.okWide P w r b0 t v) (h : DataW.Trod enc P w 0 (fun _ => true) true t v d p) :
 (∃ x, Rep (hv w) x v ∧ IsTy P t x) ∧ ∀ sp : Nat → Bool, (∀ q ∈ p, sp q.block = true) → DataW.Trod enc P w 0 sp true t v d p := by
 obtain ⟨fuel, hf⟩ := h
 have hgood := trod_good hS fuel t ht _ _ hf
 refine ⟨?_, fun sp hsp => ⟨fuel, hgood.2 sp hsp⟩⟩
 obtain ⟨⟨xs, h1, h2, h3, h4⟩, _⟩ := hgood
 cases hg : isGroup P t with
 | true =>
  have : ∃ cs, v = .agg cs := by
   unfold isGroup at hg
   split at hg
   · rename_i fs hu
     unfold Value.okWide at hval
     rw [hu] at hval
     obtain ⟨cs, rfl, _⟩ := hval
     exact ⟨cs, rfl⟩
   · simp at hg
  obtain ⟨cs, rfl⟩ := this
  simp only [Value.cells] at h1
  exact ⟨.agg xs, .agg h1 h2, by rw [hg]; rfl, fuel, h4⟩
 | false =>
  obtain ⟨z, rfl, hz, hzc⟩ := shp_one h4 hg (hS t ht)
  have hvc : v.cells = #[v] := by
   cases v with
   | agg cs => exact absurd hval fun h => not_agg (hS t ht) hg h
   | _ => rfl
  rw [hvc] at h1
  cases h1 with
  | cons h1 _ => exact ⟨z, h1, by rw [hz, hg], fuel, by rw [hzc]; exact h4⟩
theorem args_trees (hS : ∀ t ∈ S, okTy P S t = true) {r : Reach} {b0 : Nat} : ∀ (ts : List Nat) (vs : List Value) (ds : List (DataW H)) (p : List MemPlace), (∀ t ∈ ts, t ∈ S) → (∀ (j : Nat) t v, ts[j]? = some t → vs[j]? = some v → Value.okWide P w r b0 t v) →
 DataW.TrodAll enc P w 0 (fun _ => true) true ts vs ds p →
 (∃ xs, RepA (hv w) xs vs ∧ All2 (IsTy P) ts xs) ∧ ∀ sp : Nat → Bool, (∀ q ∈ p, sp q.block = true) → DataW.TrodAll enc P w 0 sp true ts vs ds p
 | [], vs, ds, p, _, _, h => by
  obtain ⟨rfl, rfl, rfl⟩ := trodAll_nil h
  exact ⟨⟨[], .nil, .nil⟩, fun _ _ => rfl⟩
 | t :: ts, vs, ds, p, hts, hval, h => by
  obtain ⟨v, vs1, d, ds1, a, b, rfl, rfl, rfl, h1, h2⟩ := trodAll_cons h
  obtain ⟨⟨x, a1, a2⟩, a3⟩ := arg_tree hS (hts t (List.mem_cons_self ..)) (hval 0 t v rfl rfl) h1
  obtain ⟨⟨xs, b1, b2⟩, b3⟩ := args_trees hS ts vs1 ds1 b (fun u hu => hts u (List.mem_cons_of_mem _ hu)) (fun j t v hj hv => hval (j + 1) t v (by simpa using hj) (by simpa using hv)) h2
  exact ⟨⟨x :: xs, .cons a1 b1, .cons a2 b2⟩, fun sp hsp => ⟨a, b, a3 sp fun q hq => hsp q (List.mem_append_left _ hq), b3 sp fun q hq => hsp q (List.mem_append_right _ hq), rfl⟩⟩
theorem trodAll_carry {w' : World} {base : Nat} {sp : Nat → Bool} : ∀ (ts : List Nat) (vs : List Value) (ds : List (DataW H)) (p : List MemPlace), DataW.TrodAll enc P w base sp true ts vs ds p → (∀ q ∈ p, w.sameAt w' q) → DataW.TrodAll enc P w' base sp true ts vs ds p
 | [], vs, ds, p, h, _ => by
  obtain ⟨rfl, rfl, rfl⟩ := trodAll_nil h
  exact rfl
 | t :: ts, vs, ds, p, h, hs => by
  obtain ⟨v, vs1, d, ds1, a, b, rfl, rfl, rfl, h1, h2⟩ := trodAll_cons h
  obtain ⟨fuel, hf⟩ := h1
  exact ⟨a, b, ⟨fuel, DataW.trod_carry _ _ _ _ hf fun q hq => hs q (List.mem_append_left _ hq)⟩, trodAll_carry ts vs1 ds1 b h2 fun q hq => hs q (List.mem_append_right _ hq), rfl⟩
end
end Su
end
