/-
  The evaluator computes what the plain functions say.
-/
import Derived.Test.YtfckjjffdfkelaaGreatNC07
import Derived.Test.YtfckjjffdfkelaaGreatSuTb
import Derived.Test.YtfckjjffdfkelaaGreatHSh3
import Derived.Test.YtfckjjffdfkelaaGreatNC10
import Derived.Test.YtfckjjffdfkelaaGreatNC13
import Derived.Test.YtfckjjffdfkelaaGreatNC14
import Derived.Test.YtfckjjffdfkelaaGreatNC19
import Derived.Test.YtfckjjffdfkelaaGreatNC26
import Derived.Test.YtfckjjffdfkelaaGreatRay
import Derived.Test.YtfckjjffdfkelaaGreatND27
import Derived.Test.YtfckjjffdfkelaaGreatSuP0
import Derived.ChangeSame
import Derived.ChangeOld
import Derived.DataReads
set_option maxRecDepth 10000
section
namespace Su
open Go Go.Proofs Fly
set_option maxRecDepth 100000
theorem wLen_eq (fu:Nat)  (a:(Int×Int)):shFn tb pr_C07 (shN tb pr_C07 fu 9) fu 225 ((d1 cW).enc (a)) ((d1 (cI .i64))).dec=wLen a:=by kernel_rfl
noncomputable def wLen_p:PrimD:=prim (d1 cW) (d1 (cI .i64)) (wLen_s)
theorem wLen_c:Ok1 Tryz.prog tb btsOK.sound 225 wLen_p:=prim_ok k_ok pr_C07_ok (by kernel_rfl) fun a y hg h=>⟨0,9,0,(wLen_eq 0 a).trans (wLen_ok a y hg h)⟩
theorem wShl_eq (fu:Nat) (a:(Int×Int)) (n:Int):shFn tb pr_C07 (shN tb pr_C07 fu 9) fu 221 ((dc cW (d1 (cI .i64))).enc (a,n)) ((d1 cW)).dec=wShl fu a n:=by kernel_rfl
noncomputable def wShl_p:PrimD:=prim (dc cW (d1 (cI .i64))) (d1 cW) (wShl_s)
theorem wShl_c:Ok1 Tryz.prog tb btsOK.sound 221 wShl_p:=prim_ok k_ok pr_C07_ok (by kernel_rfl) fun a y hg h=>by
 obtain ⟨n,hn⟩:=wShl_ok a y hg h
 exact ⟨n,9,n,(wShl_eq n a.1 a.2).trans hn⟩
theorem wShr_eq (fu:Nat) (a:(Int×Int)) (n:Int):shFn tb pr_C07 (shN tb pr_C07 fu 9) fu 222 ((dc cW (d1 (cI .i64))).enc (a,n)) ((dc cW (d1 cB))).dec=wShr fu a n:=by kernel_rfl
noncomputable def wShr_p:PrimD:=prim (dc cW (d1 (cI .i64))) (dc cW (d1 cB)) (wShr_s)
theorem wShr_c:Ok1 Tryz.prog tb btsOK.sound 222 wShr_p:=prim_ok k_ok pr_C07_ok (by kernel_rfl) fun a y hg h=>by
 obtain ⟨n,hn⟩:=wShr_ok a y hg h
 exact ⟨n,9,n,(wShr_eq n a.1 a.2).trans hn⟩
noncomputable def pr_C08:Prims:=extL [(225,wLen_p),(221,wShl_p),(222,wShr_p)] pr_C07
theorem pr_C08_ok:PrimOK Tryz.prog tb btsOK.sound pr_C08:=extL_ok pr_C07_ok (ok_cons wLen_c (ok_cons wShl_c (ok_cons wShr_c ok_nil)))
end Su
end
section
namespace Su
open Go Go.Proofs Fly
set_option maxRecDepth 100000
theorem rUp_eq (fu:Nat)  (x:(Bool×(Int×(Int×(Int×Bool))))) (mode:Int) (odd:Bool) (half:Bool) (rest:Bool):shFn tb pr_C08 (shN tb pr_C08 fu 9) fu 237 ((dc cNmb (dc (cI .u8) (dc cB (dc cB (d1 cB))))).enc (x,mode,odd,half,rest)) ((d1 cB)).dec=rUp x mode odd half rest:=by kernel_rfl
noncomputable def rUp_p:PrimD:=prim (dc cNmb (dc (cI .u8) (dc cB (dc cB (d1 cB))))) (d1 cB) (rUp_s)
theorem rUp_c:Ok1 Tryz.prog tb btsOK.sound 237 rUp_p:=prim_ok k_ok pr_C08_ok (by kernel_rfl) fun a y hg h=>⟨0,9,0,(rUp_eq 0 a.1 a.2.1 a.2.2.1 a.2.2.2.1 a.2.2.2.2).trans (rUp_ok a y hg h)⟩
theorem rOver_eq (fu:Nat)  (x:(Bool×(Int×(Int×(Int×Bool))))) (mode:Int):shFn tb pr_C08 (shN tb pr_C08 fu 9) fu 238 ((dc cNmb (d1 (cI .u8))).enc (x,mode)) ((dc (cI .u64) (d1 (cI .u8)))).dec=rOver x mode:=by kernel_rfl
noncomputable def rOver_p:PrimD:=prim (dc cNmb (d1 (cI .u8))) (dc (cI .u64) (d1 (cI .u8))) (rOver_s)
theorem rOver_c:Ok1 Tryz.prog tb btsOK.sound 238 rOver_p:=prim_ok k_ok pr_C08_ok (by kernel_rfl) fun a y hg h=>⟨0,9,0,(rOver_eq 0 a.1 a.2).trans (rOver_ok a y hg h)⟩
noncomputable def pr_C09:Prims:=extL [(237,rUp_p),(238,rOver_p)] pr_C08
theorem pr_C09_ok:PrimOK Tryz.prog tb btsOK.sound pr_C09:=extL_ok pr_C08_ok (ok_cons rUp_c (ok_cons rOver_c ok_nil))
end Su
end
section
namespace Su
open Go Go.Proofs Fly
set_option maxRecDepth 100000
theorem rFloat_eq (fu:Nat)  (x:(Bool×(Int×(Int×(Int×Bool))))) (mode:Int):shFn tb pr_C09 (shN tb pr_C09 fu 9) fu 226 ((dc cNmb (d1 (cI .u8))).enc (x,mode)) ((dc (cI .u64) (d1 (cI .u8)))).dec=rFloat x mode:=by kernel_rfl
noncomputable def rFloat_p:PrimD:=prim (dc cNmb (d1 (cI .u8))) (dc (cI .u64) (d1 (cI .u8))) (rFloat_s)
theorem rFloat_c:Ok1 Tryz.prog tb btsOK.sound 226 rFloat_p:=prim_ok k_ok pr_C09_ok (by kernel_rfl) fun a y hg h=>⟨0,9,0,(rFloat_eq 0 a.1 a.2).trans (rFloat_ok a y hg h)⟩
noncomputable def pr_C10:Prims:=extL [(226,rFloat_p)] pr_C09
theorem pr_C10_ok:PrimOK Tryz.prog tb btsOK.sound pr_C10:=extL_ok pr_C09_ok (ok_cons rFloat_c ok_nil)
end Su
end
section
namespace Su
open Go Go.Proofs Fly
set_option maxRecDepth 100000
theorem rRound_eq (fu:Nat)  (neg:Bool) (m:(Int×Int)) (e:Int) (rest:Bool) (mode:Int):shFn tb pr_C10 (shN tb pr_C10 fu 9) fu 208 ((dc cB (dc cW (dc (cI .i64) (dc cB (d1 (cI .u8)))))).enc (neg,m,e,rest,mode)) ((dc (cI .u64) (d1 (cI .u8)))).dec=rRound neg m e rest mode:=by kernel_rfl
noncomputable def rRound_p:PrimD:=prim (dc cB (dc cW (dc (cI .i64) (dc cB (d1 (cI .u8)))))) (dc (cI .u64) (d1 (cI .u8))) (rRound_s)
theorem rRound_c:Ok1 Tryz.prog tb btsOK.sound 208 rRound_p:=prim_ok k_ok pr_C10_ok (by kernel_rfl) fun a y hg h=>⟨0,9,0,(rRound_eq 0 a.1 a.2.1 a.2.2.1 a.2.2.2.1 a.2.2.2.2).trans (rRound_ok a y hg h)⟩
theorem sOf_eq (fu:Nat)  (f:Int):shFn tb pr_C10 (shN tb pr_C10 fu 9) fu 201 ((d1 (cI .u64)).enc (f)) ((d1 cNum)).dec=sOf f:=by kernel_rfl
noncomputable def sOf_p:PrimD:=prim (d1 (cI .u64)) (d1 cNum) (fun a=>sOf a)
theorem sOf_c:Ok1 Tryz.prog tb btsOK.sound 201 sOf_p:=prim_ok k_ok pr_C10_ok (by kernel_rfl) fun a y hg h=>⟨0,9,0,(sOf_eq 0 a).trans h⟩
theorem sZero_eq (fu:Nat)  (neg:Bool):shFn tb pr_C10 (shN tb pr_C10 fu 9) fu 205 ((d1 cB).enc (neg)) ((d1 (cI .u64))).dec=sZero neg:=by kernel_rfl
noncomputable def sZero_p:PrimD:=prim (d1 cB) (d1 (cI .u64)) (fun a=>sZero a)
theorem sZero_c:Ok1 Tryz.prog tb btsOK.sound 205 sZero_p:=prim_ok k_ok pr_C10_ok (by kernel_rfl) fun a y hg h=>⟨0,9,0,(sZero_eq 0 a).trans h⟩
noncomputable def pr_C11:Prims:=extL [(208,rRound_p),(201,sOf_p),(205,sZero_p)] pr_C10
theorem pr_C11_ok:PrimOK Tryz.prog tb btsOK.sound pr_C11:=extL_ok pr_C10_ok (ok_cons rRound_c (ok_cons sOf_c (ok_cons sZero_c ok_nil)))
end Su
end
section
namespace Su
open Go Go.Proofs Fly
set_option maxRecDepth 100000
theorem sNadd_eq (fu:Nat)  (x:(Int×(Int×(Bool×(Int×Int))))) (y:(Int×(Int×(Bool×(Int×Int))))) (mode:Int):shFn tb pr_C11 (shN tb pr_C11 fu 9) fu 206 ((dc cNum (dc cNum (d1 (cI .u8)))).enc (x,y,mode)) ((dc (cI .u64) (d1 (cI .u8)))).dec=sNadd x y mode:=by kernel_rfl
noncomputable def sNadd_p:PrimD:=prim (dc cNum (dc cNum (d1 (cI .u8)))) (dc (cI .u64) (d1 (cI .u8))) (fun a=>sNadd a.1 a.2.1 a.2.2)
theorem sNadd_c:Ok1 Tryz.prog tb btsOK.sound 206 sNadd_p:=prim_ok k_ok pr_C11_ok (by kernel_rfl) fun a y hg h=>⟨0,9,0,(sNadd_eq 0 a.1 a.2.1 a.2.2).trans h⟩
noncomputable def pr_C12:Prims:=extL [(206,sNadd_p)] pr_C11
theorem pr_C12_ok:PrimOK Tryz.prog tb btsOK.sound pr_C12:=extL_ok pr_C11_ok (ok_cons sNadd_c ok_nil)
end Su
end
section
namespace Su
open Go Go.Proofs Fly
set_option maxRecDepth 100000
theorem sAdd_eq (fu:Nat)  (a:Int) (b:Int) (mode:Int):shFn tb pr_C12 (shN tb pr_C12 fu 9) fu 174 ((dc (cI .u64) (dc (cI .u64) (d1 (cI .u8)))).enc (a,b,mode)) ((dc (cI .u64) (d1 (cI .u8)))).dec=sAdd a b mode:=by kernel_rfl
noncomputable def sAdd_p:PrimD:=prim (dc (cI .u64) (dc (cI .u64) (d1 (cI .u8)))) (dc (cI .u64) (d1 (cI .u8))) (fun a=>sAdd a.1 a.2.1 a.2.2)
theorem sAdd_c:Ok1 Tryz.prog tb btsOK.sound 174 sAdd_p:=prim_ok k_ok pr_C12_ok (by kernel_rfl) fun a y hg h=>⟨0,9,0,(sAdd_eq 0 a.1 a.2.1 a.2.2).trans h⟩
theorem sMul_eq (fu:Nat)  (a:Int) (b:Int) (mode:Int):shFn tb pr_C12 (shN tb pr_C12 fu 9) fu 179 ((dc (cI .u64) (dc (cI .u64) (d1 (cI .u8)))).enc (a,b,mode)) ((dc (cI .u64) (d1 (cI .u8)))).dec=sMul a b mode:=by kernel_rfl
noncomputable def sMul_p:PrimD:=prim (dc (cI .u64) (dc (cI .u64) (d1 (cI .u8)))) (dc (cI .u64) (d1 (cI .u8))) (fun a=>sMul a.1 a.2.1 a.2.2)
theorem sMul_c:Ok1 Tryz.prog tb btsOK.sound 179 sMul_p:=prim_ok k_ok pr_C12_ok (by kernel_rfl) fun a y hg h=>⟨0,9,0,(sMul_eq 0 a.1 a.2.1 a.2.2).trans h⟩
noncomputable def pr_C13:Prims:=extL [(174,sAdd_p),(179,sMul_p)] pr_C12
theorem pr_C13_ok:PrimOK Tryz.prog tb btsOK.sound pr_C13:=extL_ok pr_C12_ok (ok_cons sAdd_c (ok_cons sMul_c ok_nil))
end Su
end
section
namespace Su
open Go Go.Proofs Fly
set_option maxRecDepth 100000
theorem aAdd_eq (fu:Nat)  (a:Int) (b:Int) (mode:Int):shFn tb pr_C13 (shN tb pr_C13 fu 9) fu 114 ((dc (cI .u64) (dc (cI .u64) (d1 (cI .u8)))).enc (a,b,mode)) ((d1 (cI .u64))).dec=aAdd a b mode:=by kernel_rfl
noncomputable def aAdd_p:PrimD:=prim (dc (cI .u64) (dc (cI .u64) (d1 (cI .u8)))) (d1 (cI .u64)) (aAdd_s)
theorem aAdd_c:Ok1 Tryz.prog tb btsOK.sound 114 aAdd_p:=prim_ok k_ok pr_C13_ok (by kernel_rfl) fun a y hg h=>⟨0,9,0,(aAdd_eq 0 a.1 a.2.1 a.2.2).trans (aAdd_ok a y hg h)⟩
theorem aMul_eq (fu:Nat)  (a:Int) (b:Int) (mode:Int):shFn tb pr_C13 (shN tb pr_C13 fu 9) fu 121 ((dc (cI .u64) (dc (cI .u64) (d1 (cI .u8)))).enc (a,b,mode)) ((d1 (cI .u64))).dec=aMul a b mode:=by kernel_rfl
noncomputable def aMul_p:PrimD:=prim (dc (cI .u64) (dc (cI .u64) (d1 (cI .u8)))) (d1 (cI .u64)) (aMul_s)
theorem aMul_c:Ok1 Tryz.prog tb btsOK.sound 121 aMul_p:=prim_ok k_ok pr_C13_ok (by kernel_rfl) fun a y hg h=>⟨0,9,0,(aMul_eq 0 a.1 a.2.1 a.2.2).trans (aMul_ok a y hg h)⟩
theorem aUp_eq (fu:Nat) (l:(List Int)):shFn tb pr_C13 (shN tb pr_C13 fu 9) fu 112 ((d1 (cQ 2 1)).enc (l)) ((d1 (cI .u64))).dec=aUp fu l:=by kernel_rfl
noncomputable def aUp_p:PrimD:=prim (d1 (cQ 2 1)) (d1 (cI .u64)) (aUp_s)
theorem aUp_c:Ok1 Tryz.prog tb btsOK.sound 112 aUp_p:=prim_ok k_ok pr_C13_ok (by kernel_rfl) fun a y hg h=>by
 obtain ⟨n,hn⟩:=aUp_ok a y hg h
 exact ⟨n,9,n,(aUp_eq n a).trans hn⟩
noncomputable def pr_C14:Prims:=extL [(114,aAdd_p),(121,aMul_p),(112,aUp_p)] pr_C13
theorem pr_C14_ok:PrimOK Tryz.prog tb btsOK.sound pr_C14:=extL_ok pr_C13_ok (ok_cons aAdd_c (ok_cons aMul_c (ok_cons aUp_c ok_nil)))
end Su
end
section
namespace Su
open Go Go.Proofs Fly
set_option maxRecDepth 100000
theorem dDel_eq (fu:Nat) (l:(List Su.Tm)) (u:Unit):shFn4 tb pr_C14 fu 9 175 (0,103) ((dc cRow (d1 (cF 176))).enc (l,u)) ((d1 cTms)).dec=dDel fu l u:=by kernel_rfl
theorem dDelT_eq (fu:Nat) (l:(List Su.Tm)) (u:Unit):shFn tb pr_C14 (shN tb pr_C14 fu 9) fu 175 ((dc cTms (d1 (cF 176))).enc (l,u)) ((d1 cTms)).dec=dDelT fu l u:=by kernel_rfl
theorem aCont_eq (fu:Nat) (l:(List Su.Tm)) (u:Unit):shFn tb pr_C14 (shN tb pr_C14 fu 9) fu 177 ((dc cTms (d1 (cF 178))).enc (l,u)) ((d1 cB)).dec=aCont fu l u:=by kernel_rfl
noncomputable def aCont_p:PrimD:=prim (dc cTms (d1 (cF 178))) (d1 cB) (aCont_s)
theorem aCont_c:Ok1 Tryz.prog tb btsOK.sound 177 aCont_p:=prim_ok k_ok pr_C14_ok (by kernel_rfl) fun a y hg h=>by
 obtain ⟨n,hn⟩:=aCont_ok a y hg h
 exact ⟨n,9,n,(aCont_eq n a.1 a.2).trans hn⟩
theorem dDel_c4:Ok1 Tryz.prog tb btsOK.sound 175 (prim4 (0,103) (dc cRow (d1 (cF 176))) (d1 cTms) (dDel_s)):=prim4_ok k_ok pr_C14_ok (by kernel_rfl) (exc exRow (ex1 (exFn 176))) hnRow fun a y hg h=>by
 obtain ⟨n,hn⟩:=dDel_ok a y hg h
 exact ⟨n,9,(dDel_eq n a.1 a.2).trans hn⟩
noncomputable def dDel_p:PrimD:=prim4t (0,103) (dc cRow (d1 (cF 176))) (d1 cTms) (dDel_s) (dc cTms (d1 (cF 176))) dDelT_s
theorem dDel_c:Ok1 Tryz.prog tb btsOK.sound 175 dDel_p:=prim4t_ok k_ok pr_C14_ok dDel_c4 fun a y hg h=>by
 obtain ⟨n,hn⟩:=dDelT_ok a y hg h
 exact ⟨n,9,n,(dDelT_eq n a.1 a.2).trans hn⟩
noncomputable def pr_C15:Prims:=extL [(175,dDel_p),(177,aCont_p)] pr_C14
theorem pr_C15_ok:PrimOK Tryz.prog tb btsOK.sound pr_C15:=extL_ok pr_C14_ok (ok_cons dDel_c (ok_cons aCont_c ok_nil))
end Su
end
section
namespace Su
open Go Go.Proofs Fly
set_option maxRecDepth 100000
theorem aDone_eq (fu:Nat)  (a:(Bool×(Int×((List Su.Tm)×Int)))):shFn4 tb pr_C15 fu 9 117 (2,103) ((d1 cFrm4).enc (a)) ((d1 cFrm)).dec=aDone a:=by kernel_rfl
theorem aDoneT_eq (fu:Nat)  (a:(Bool×(Int×((List Su.Tm)×Int)))):shFn tb pr_C15 (shN tb pr_C15 fu 9) fu 117 ((d1 cFrm).enc (a)) ((d1 cFrm)).dec=aDoneT a:=by kernel_rfl
theorem aMay_eq (fu:Nat) (a:(Bool×(Int×((List Su.Tm)×Int)))):shFn tb pr_C15 (shN tb pr_C15 fu 9) fu 39 ((d1 cFrm).enc (a)) ((d1 cB)).dec=aMay fu a:=by kernel_rfl
noncomputable def aMay_p:PrimD:=prim (d1 cFrm) (d1 cB) (aMay_s)
theorem aMay_c:Ok1 Tryz.prog tb btsOK.sound 39 aMay_p:=prim_ok k_ok pr_C15_ok (by kernel_rfl) fun a y hg h=>by
 obtain ⟨n,hn⟩:=aMay_ok a y hg h
 exact ⟨n,9,n,(aMay_eq n a).trans hn⟩
theorem aDone_c4:Ok1 Tryz.prog tb btsOK.sound 117 (prim4 (2,103) (d1 cFrm4) (d1 cFrm) (aDone_s)):=prim4_ok k_ok pr_C15_ok (by kernel_rfl) exF4 hnA fun a y hg h=>⟨0,9,(aDone_eq 0 a).trans (aDone_ok a y hg h)⟩
noncomputable def aDone_p:PrimD:=prim4t (2,103) (d1 cFrm4) (d1 cFrm) (aDone_s) (d1 cFrm) aDoneT_s
theorem aDone_c:Ok1 Tryz.prog tb btsOK.sound 117 aDone_p:=prim4t_ok k_ok pr_C15_ok aDone_c4 fun a y hg h=>⟨0,9,0,(aDoneT_eq 0 a).trans (aDoneT_ok a y hg h)⟩
noncomputable def pr_C16:Prims:=extL [(117,aDone_p),(39,aMay_p)] pr_C15
theorem pr_C16_ok:PrimOK Tryz.prog tb btsOK.sound pr_C16:=extL_ok pr_C15_ok (ok_cons aDone_c (ok_cons aMay_c ok_nil))
end Su
end
section
namespace Su
open Go Go.Proofs Fly
set_option maxRecDepth 100000
theorem aUnfit_eq (fu:Nat) (l:(List (Bool×(Int×((List Su.Tm)×Int))))):shFn tb pr_C16 (shN tb pr_C16 fu 9) fu 110 ((d1 cFms).enc (l)) ((d1 cB)).dec=aUnfit fu l:=by kernel_rfl
noncomputable def aUnfit_p:PrimD:=prim (d1 cFms) (d1 cB) (aUnfit_s)
theorem aUnfit_c:Ok1 Tryz.prog tb btsOK.sound 110 aUnfit_p:=prim_ok k_ok pr_C16_ok (by kernel_rfl) fun a y hg h=>by
 obtain ⟨n,hn⟩:=aUnfit_ok a y hg h
 exact ⟨n,9,n,(aUnfit_eq n a).trans hn⟩
noncomputable def pr_C17:Prims:=extL [(110,aUnfit_p)] pr_C16
theorem pr_C17_ok:PrimOK Tryz.prog tb btsOK.sound pr_C17:=extL_ok pr_C16_ok (ok_cons aUnfit_c ok_nil)
end Su
end
section
namespace Su
open Go Go.Proofs Fly
set_option maxRecDepth 100000
theorem aNeg_eq (fu:Nat) (a:(Bool×(Int×((List Su.Tm)×Int)))):shFn tb pr_C17 (shN tb pr_C17 fu 9) fu 47 ((d1 cFrm).enc (a)) ((d1 cFrm)).dec=aNeg fu a:=by kernel_rfl
noncomputable def aNeg_p:PrimD:=prim (d1 cFrm) (d1 cFrm) (aNeg_s)
theorem aNeg_c:Ok1 Tryz.prog tb btsOK.sound 47 aNeg_p:=prim_ok k_ok pr_C17_ok (by kernel_rfl) fun a y hg h=>by
 obtain ⟨n,hn⟩:=aNeg_ok a y hg h
 exact ⟨n,9,n,(aNeg_eq n a).trans hn⟩
theorem aConst_eq (fu:Nat)  (f:Int):shFn tb pr_C17 (shN tb pr_C17 fu 9) fu 81 ((d1 (cI .u64)).enc (f)) ((d1 cFrm)).dec=aConst f:=by kernel_rfl
noncomputable def aConst_p:PrimD:=prim (d1 (cI .u64)) (d1 cFrm) (aConst_s)
theorem aConst_c:Ok1 Tryz.prog tb btsOK.sound 81 aConst_p:=prim_ok k_ok pr_C17_ok (by kernel_rfl) fun a y hg h=>⟨0,9,0,(aConst_eq 0 a).trans (aConst_ok a y hg h)⟩
noncomputable def pr_C18:Prims:=extL [(47,aNeg_p),(81,aConst_p)] pr_C17
theorem pr_C18_ok:PrimOK Tryz.prog tb btsOK.sound pr_C18:=extL_ok pr_C17_ok (ok_cons aNeg_c (ok_cons aConst_c ok_nil))
end Su
end
section
namespace Su
open Go Go.Proofs Fly
set_option maxRecDepth 100000
noncomputable def pr_C18z:Prims:=extL [] pr_C18
theorem pr_C18z_ok:PrimOK Tryz.prog tb btsOK.sound pr_C18z:=extL_ok pr_C18_ok ok_nil
end Su
end
section
namespace Su
open Go Go.Proofs Fly
set_option maxRecDepth 100000
theorem aSum_eq (fu:Nat) (a:(Bool×(Int×((List Su.Tm)×Int)))) (b:(Bool×(Int×((List Su.Tm)×Int)))):shFn tb pr_C18z (shN tb pr_C18z fu 9) fu 42 ((dc cFrm (d1 cFrm)).enc (a,b)) ((d1 cFrm)).dec=aSum fu a b:=by kernel_rfl
noncomputable def aSum_p:PrimD:=prim (dc cFrm (d1 cFrm)) (d1 cFrm) (aSum_s)
theorem aSum_c:Ok1 Tryz.prog tb btsOK.sound 42 aSum_p:=prim_ok k_ok pr_C18z_ok (by kernel_rfl) fun a y hg h=>by
 obtain ⟨n,hn⟩:=aSum_ok a y hg h
 exact ⟨n,9,n,(aSum_eq n a.1 a.2).trans hn⟩
noncomputable def pr_C19:Prims:=extL [(42,aSum_p)] pr_C18z
theorem pr_C19_ok:PrimOK Tryz.prog tb btsOK.sound pr_C19:=extL_ok pr_C18z_ok (ok_cons aSum_c ok_nil)
end Su
end
section
namespace Su
open Go Go.Proofs Fly
set_option maxRecDepth 100000
theorem aSub_eq (fu:Nat)  (a:(Bool×(Int×((List Su.Tm)×Int)))) (b:(Bool×(Int×((List Su.Tm)×Int)))):shFn tb pr_C19 (shN tb pr_C19 fu 9) fu 44 ((dc cFrm (d1 cFrm)).enc (a,b)) ((d1 cFrm)).dec=aSub a b:=by kernel_rfl
noncomputable def aSub_p:PrimD:=prim (dc cFrm (d1 cFrm)) (d1 cFrm) (aSub_s)
theorem aSub_c:Ok1 Tryz.prog tb btsOK.sound 44 aSub_p:=prim_ok k_ok pr_C19_ok (by kernel_rfl) fun a y hg h=>⟨0,9,0,(aSub_eq 0 a.1 a.2).trans (aSub_ok a y hg h)⟩
noncomputable def pr_C20:Prims:=extL [(44,aSub_p)] pr_C19
theorem pr_C20_ok:PrimOK Tryz.prog tb btsOK.sound pr_C20:=extL_ok pr_C19_ok (ok_cons aSub_c ok_nil)
end Su
end
section
namespace Su
open Go Go.Proofs Fly
set_option maxRecDepth 100000
theorem spAt_eq (fu:Nat)  (a:Int) (b:Int):shFn tb pr_C20 (shN tb pr_C20 fu 9) fu 129 ((dc (cI .u64) (d1 (cI .u64))).enc (a,b)) ((d1 cB)).dec=spAt a b:=by kernel_rfl
noncomputable def spAt_p:PrimD:=prim (dc (cI .u64) (d1 (cI .u64))) (d1 cB) (spAt_s)
theorem spAt_c:Ok1 Tryz.prog tb btsOK.sound 129 spAt_p:=prim_ok k_ok pr_C20_ok (by kernel_rfl) fun a y hg h=>⟨0,9,0,(spAt_eq 0 a.1 a.2).trans (spAt_ok a y hg h)⟩
noncomputable def pr_C21:Prims:=extL [(129,spAt_p)] pr_C20
theorem pr_C21_ok:PrimOK Tryz.prog tb btsOK.sound pr_C21:=extL_ok pr_C20_ok (ok_cons spAt_c ok_nil)
end Su
end
section
namespace Su
open Go Go.Proofs Fly
set_option maxRecDepth 100000
theorem spNorm_eq (fu:Nat) (s:(Bool×(Int×Int))):shFn tb pr_C21 (shN tb pr_C21 fu 9) fu 128 ((d1 cSpn).enc (s)) ((d1 cSpn)).dec=spNorm fu s:=by kernel_rfl
noncomputable def spNorm_p:PrimD:=prim (d1 cSpn) (d1 cSpn) (spNorm_s)
theorem spNorm_c:Ok1 Tryz.prog tb btsOK.sound 128 spNorm_p:=prim_ok k_ok pr_C21_ok (by kernel_rfl) fun a y hg h=>by
 obtain ⟨n,hn⟩:=spNorm_ok a y hg h
 exact ⟨n,9,n,(spNorm_eq n a).trans hn⟩
noncomputable def pr_C22:Prims:=extL [(128,spNorm_p)] pr_C21
theorem pr_C22_ok:PrimOK Tryz.prog tb btsOK.sound pr_C22:=extL_ok pr_C21_ok (ok_cons spNorm_c ok_nil)
end Su
end
section
namespace Su
open Go Go.Proofs Fly
set_option maxRecDepth 100000
theorem aRad_eq (fu:Nat) (a:(Bool×(Int×((List Su.Tm)×Int)))):shFn tb pr_C22 (shN tb pr_C22 fu 9) fu 104 ((d1 cFrm).enc (a)) ((d1 (cI .u64))).dec=aRad fu a:=by kernel_rfl
noncomputable def aRad_p:PrimD:=prim (d1 cFrm) (d1 (cI .u64)) (aRad_s)
theorem aRad_c:Ok1 Tryz.prog tb btsOK.sound 104 aRad_p:=prim_ok k_ok pr_C22_ok (by kernel_rfl) fun a y hg h=>by
 obtain ⟨n,hn⟩:=aRad_ok a y hg h
 exact ⟨n,9,n,(aRad_eq n a).trans hn⟩
noncomputable def pr_C24:Prims:=extL [(104,aRad_p)] pr_C22
theorem pr_C24_ok:PrimOK Tryz.prog tb btsOK.sound pr_C24:=extL_ok pr_C22_ok (ok_cons aRad_c ok_nil)
end Su
end
section
namespace Su
open Go Go.Proofs Fly
set_option maxRecDepth 100000
theorem aRest_eq (fu:Nat)  (a:(Bool×(Int×((List Su.Tm)×Int)))):shFn tb pr_C24 (shN tb pr_C24 fu 9) fu 120 ((d1 cFrm).enc (a)) ((d1 (cI .u64))).dec=aRest a:=by kernel_rfl
noncomputable def aRest_p:PrimD:=prim (d1 cFrm) (d1 (cI .u64)) (aRest_s)
theorem aRest_c:Ok1 Tryz.prog tb btsOK.sound 120 aRest_p:=prim_ok k_ok pr_C24_ok (by kernel_rfl) fun a y hg h=>⟨0,9,0,(aRest_eq 0 a).trans (aRest_ok a y hg h)⟩
theorem aMid_eq (fu:Nat)  (a:Int) (b:Int):shFn tb pr_C24 (shN tb pr_C24 fu 9) fu 126 ((dc (cI .u64) (d1 (cI .u64))).enc (a,b)) ((d1 (cI .u64))).dec=aMid a b:=by kernel_rfl
noncomputable def aMid_p:PrimD:=prim (dc (cI .u64) (d1 (cI .u64))) (d1 (cI .u64)) (aMid_s)
theorem aMid_c:Ok1 Tryz.prog tb btsOK.sound 126 aMid_p:=prim_ok k_ok pr_C24_ok (by kernel_rfl) fun a y hg h=>⟨0,9,0,(aMid_eq 0 a.1 a.2).trans (aMid_ok a y hg h)⟩
noncomputable def pr_C25:Prims:=extL [(120,aRest_p),(126,aMid_p)] pr_C24
theorem pr_C25_ok:PrimOK Tryz.prog tb btsOK.sound pr_C25:=extL_ok pr_C24_ok (ok_cons aRest_c (ok_cons aMid_c ok_nil))
end Su
end
section
namespace Su
open Go Go.Proofs Fly
set_option maxRecDepth 100000
theorem aMulF_eq (fu:Nat) (a:(Bool×(Int×((List Su.Tm)×Int)))) (b:(Bool×(Int×((List Su.Tm)×Int)))):shFn tb pr_C25 (shN tb pr_C25 fu 9) fu 45 ((dc cFrm (d1 cFrm)).enc (a,b)) ((d1 cFrm)).dec=aMulF fu a b:=by kernel_rfl
noncomputable def aMulF_p:PrimD:=prim (dc cFrm (d1 cFrm)) (d1 cFrm) (aMulF_s)
theorem aMulF_c:Ok1 Tryz.prog tb btsOK.sound 45 aMulF_p:=prim_ok k_ok pr_C25_ok (by kernel_rfl) fun a y hg h=>by
 obtain ⟨n,hn⟩:=aMulF_ok a y hg h
 exact ⟨n,9,n,(aMulF_eq n a.1 a.2).trans hn⟩
noncomputable def pr_C26:Prims:=extL [(45,aMulF_p)] pr_C25
theorem pr_C26_ok:PrimOK Tryz.prog tb btsOK.sound pr_C26:=extL_ok pr_C25_ok (ok_cons aMulF_c ok_nil)
end Su
end
section
namespace Su
open Go Go.Proofs Fly
set_option maxRecDepth 100000
theorem aSpan_eq (fu:Nat)  (a:(Bool×(Int×((List Su.Tm)×Int)))):shFn tb pr_C26 (shN tb pr_C26 fu 9) fu 50 ((d1 cFrm).enc (a)) ((d1 cSpn)).dec=aSpan a:=by kernel_rfl
noncomputable def aSpan_p:PrimD:=prim (d1 cFrm) (d1 cSpn) (aSpan_s)
theorem aSpan_c:Ok1 Tryz.prog tb btsOK.sound 50 aSpan_p:=prim_ok k_ok pr_C26_ok (by kernel_rfl) fun a y hg h=>⟨0,9,0,(aSpan_eq 0 a).trans (aSpan_ok a y hg h)⟩
noncomputable def pr_C27:Prims:=extL [(50,aSpan_p)] pr_C26
theorem pr_C27_ok:PrimOK Tryz.prog tb btsOK.sound pr_C27:=extL_ok pr_C26_ok (ok_cons aSpan_c ok_nil)
end Su
end
section
namespace Fly
open Go Go.Proofs Su
set_option maxRecDepth 10000
noncomputable def tb:Tabs Tryz.prog:=Su.btsOK.sound.tb
section
variable {P:Program} {n:Nat} {X:Cx} {L:Lo} {V:View} {G:Own} {Q:Value→View→Own→Prop}
variable {ty:TypeId} {pos:String} {af:Array Edge} {gd:Option (Nat×Bool)} {ds:Option Tmp}
theorem equal_slice {t e:TypeId} {a:Option Addr} {len cap:Nat} (hu:P.underlying t=some (.slice e)) (w:World):(Op.equal t (.slice a len cap) (.slice none 0 0)).run P w = .ok a.isNone w:=by
 show (Op.equalIn (9999+1) t (.slice a len cap) (.slice none 0 0)).run P w=_
 unfold Op.equalIn
 rw [Sem.run_bind,run_underlying hu]
 cases a <;> rfl
theorem op_eqsl {t u e:TypeId} {x y:Operand} {a:Option Addr} {len cap:Nat} (hx:ev L x=some (.slice a len cap)) (hy:ev L y=some (.slice none 0 0)) (hu:P.underlying t=some (.slice e)) (k:Q (.bool a.isNone) V G) :
 Opr P n X L V G ⟨ds,.binOp .eql t x y u,ty,pos,af,gd⟩ Q:=op_eqg hx hy rfl (fun w=>by simp [eqGuard]) (equal_slice hu) k
end
attribute [local irreducible] WC WE WR Opr St Go.Calls Fine Pure PureV Rel Fing FingD FinL Owe One Does Go.CallsD
theorem c53n {V:View} {len cap:Nat} {Q:Value→View→Own→Prop} (hQ:Q (.slice none 0 0) V []):Fing Tryz.prog 133 #[.slice none len cap] V [] Q:=by
 refine fing_enter (args:=[_]) Tryz.func133 rfl Tryz.ntmps133 rfl ?_
 intro X w hM hb hw hV0 hR;dsimp only [argL,Nat.zero_add,Nat.reduceAdd]
 (repeat' (first | refine wc_seq ?_ | refine wc_region ?_ | refine wr_nil ?_ | refine we_code ?_ | refine wc_block ?_ | refine wc_skip ?_ | refine we_blk ?_ | refine wc_exit ?_ | refine we_exit_code ?_ | refine we_exit_here ?_ | refine we_exit_on rfl ?_ | refine we_exit_lp ?_ | refine wc_ret ?_ | ((first | refine w_cons rfl ?_ | refine w_cons0 ?_ | refine w_yes rfl rfl rfl ?_);(first | (refine op_eqsl (e:=103) rfl rfl (by kernel_rfl) ?_) | refine op_move rfl ?_ | refine op_assign rfl ?_ | refine op_eql rfl rfl ?_ | refine op_neq rfl rfl ?_ | refine op_lss rfl rfl ?_ | refine op_leq rfl rfl ?_ | refine op_gtr rfl rfl ?_ | refine op_geq rfl rfl ?_ | refine op_extract rfl rfl ?_ | refine op_not rfl ?_ | refine op_pick_t rfl rfl ?_ | refine op_pick_f rfl rfl ?_ | refine op_addi rfl rfl (by omega) (by omega) ?_ | refine op_subi rfl rfl (by omega) (by omega) ?_ | refine op_muli rfl rfl (by omega) (by omega) ?_ | refine op_add rfl rfl ?_ | refine op_sub rfl rfl ?_ | refine op_mul rfl rfl ?_ | refine op_fieldAddr tb rfl rfl ?_ | refine op_field1 tb rfl rfl rfl ?_ | refine op_and rfl rfl ?_ | refine op_or rfl rfl ?_ | refine op_xor rfl rfl ?_ | refine op_andNot rfl rfl ?_ | refine op_shl rfl rfl (by decide) ?_ | refine op_shr rfl rfl (by decide) ?_ | refine op_eqs rfl rfl ?_ | refine op_neqs rfl rfl ?_ | refine op_eqbd rfl rfl (by kernel_rfl) ?_ | refine op_neqbd rfl rfl (by kernel_rfl) ?_ | refine op_convert tb rfl rfl rfl ?_ | refine op_neg rfl ?_ | refine op_len tb rfl rfl rfl ?_ | (apply op_load1 tb rfl rfl;(· (first | (refine At.own (?_);repeat (first | exact Has.here | refine Has.there ?_)) | exact At.seen (by assumption)));(· exact rfl)) | (apply op_loadN tb rfl rfl;(· (first | (refine At.own (?_);repeat (first | exact Has.here | refine Has.there ?_)) | exact At.seen (by assumption)));(· exact rfl)) | (apply op_store1 tb rfl rfl rfl rfl rfl;(· (repeat (first | exact Upd.here | apply Upd.there)));(· exact rfl)) | (apply op_storeN tb rfl rfl rfl rfl rfl;(· (repeat (first | exact Upd.here | apply Upd.there)));(· exact rfl)) | (apply op_build tb (by kernel_rfl) rfl (rfl:tb.fo _ 0=_);(· (repeat (first | exact Fill.nil | (apply Fill.cons;(· exact rfl);(· exact rfl);(· exact rfl);(· exact rfl);(· exact rfl)))))) | (refine op_boxN rfl ?_;intro b) | (refine op_box1 rfl rfl ?_;intro b) | (refine op_alloc tb rfl ?_;intro b) | (apply op_buildSlice tb;(· exact rfl);(· exact rfl);(· exact rfl);(· decide);(· (repeat (first | exact Cat.nil | (apply Cat.cons;(· exact rfl);(· exact rfl);(· exact rfl)) | exact App.nil | apply App.cons)));intro b))) | refine w_no rfl rfl rfl rfl ?_ | refine wc_cond_t rfl ?_ | refine wc_cond_f rfl ?_ | refine wc_if rfl (fun _=>?_) (fun _=>?_) | refine wc_ifn rfl (fun _=>?_) (fun _=>?_) | refine w_splitd rfl rfl (fun _=>?_) (fun _=>?_) | refine w_splitn rfl rfl (fun _=>?_) (fun _=>?_) | refine wc_ifnb rfl (fun _=>?_) (fun _=>?_) | refine wc_ifb rfl (fun _=>?_) (fun _=>?_) | refine w_splitnb rfl rfl (fun _=>?_) (fun _=>?_) | refine w_splitb rfl rfl (fun _=>?_) (fun _=>?_)))
 exact fing_ret hM hw hV0 hR [] (List.Sublist.refl _) (res1 rfl rfl) hQ
theorem c53e {V:View} {a:Addr} {cap:Nat} {Q:Value→View→Own→Prop} (hQ:∀ b,Q (.slice (some ⟨b,0,none⟩) 0 0) V [(b,.cells #[] 103 (0,0))]):Fing Tryz.prog 133 #[.slice (some a) 0 cap] V [] Q:=by
 refine fing_enter (args:=[_]) Tryz.func133 rfl Tryz.ntmps133 rfl ?_
 intro X w hM hb hw hV0 hR;dsimp only [argL,Nat.zero_add,Nat.reduceAdd]
 (repeat' (first | refine wc_seq ?_ | refine wc_region ?_ | refine wr_nil ?_ | refine we_code ?_ | refine wc_block ?_ | refine wc_skip ?_ | refine we_blk ?_ | refine wc_exit ?_ | refine we_exit_code ?_ | refine we_exit_here ?_ | refine we_exit_on rfl ?_ | refine we_exit_lp ?_ | refine wc_ret ?_ | ((first | refine w_cons rfl ?_ | refine w_cons0 ?_ | refine w_yes rfl rfl rfl ?_);(first | (refine op_eqsl (e:=103) rfl rfl (by kernel_rfl) ?_) | refine op_move rfl ?_ | refine op_assign rfl ?_ | refine op_eql rfl rfl ?_ | refine op_neq rfl rfl ?_ | refine op_lss rfl rfl ?_ | refine op_leq rfl rfl ?_ | refine op_gtr rfl rfl ?_ | refine op_geq rfl rfl ?_ | refine op_extract rfl rfl ?_ | refine op_not rfl ?_ | refine op_pick_t rfl rfl ?_ | refine op_pick_f rfl rfl ?_ | refine op_addi rfl rfl (by omega) (by omega) ?_ | refine op_subi rfl rfl (by omega) (by omega) ?_ | refine op_muli rfl rfl (by omega) (by omega) ?_ | refine op_add rfl rfl ?_ | refine op_sub rfl rfl ?_ | refine op_mul rfl rfl ?_ | refine op_fieldAddr tb rfl rfl ?_ | refine op_field1 tb rfl rfl rfl ?_ | refine op_and rfl rfl ?_ | refine op_or rfl rfl ?_ | refine op_xor rfl rfl ?_ | refine op_andNot rfl rfl ?_ | refine op_shl rfl rfl (by decide) ?_ | refine op_shr rfl rfl (by decide) ?_ | refine op_eqs rfl rfl ?_ | refine op_neqs rfl rfl ?_ | refine op_eqbd rfl rfl (by kernel_rfl) ?_ | refine op_neqbd rfl rfl (by kernel_rfl) ?_ | refine op_convert tb rfl rfl rfl ?_ | refine op_neg rfl ?_ | refine op_len tb rfl rfl rfl ?_ | (apply op_load1 tb rfl rfl;(· (first | (refine At.own (?_);repeat (first | exact Has.here | refine Has.there ?_)) | exact At.seen (by assumption)));(· exact rfl)) | (apply op_loadN tb rfl rfl;(· (first | (refine At.own (?_);repeat (first | exact Has.here | refine Has.there ?_)) | exact At.seen (by assumption)));(· exact rfl)) | (apply op_store1 tb rfl rfl rfl rfl rfl;(· (repeat (first | exact Upd.here | apply Upd.there)));(· exact rfl)) | (apply op_storeN tb rfl rfl rfl rfl rfl;(· (repeat (first | exact Upd.here | apply Upd.there)));(· exact rfl)) | (apply op_build tb (by kernel_rfl) rfl (rfl:tb.fo _ 0=_);(· (repeat (first | exact Fill.nil | (apply Fill.cons;(· exact rfl);(· exact rfl);(· exact rfl);(· exact rfl);(· exact rfl)))))) | (refine op_boxN rfl ?_;intro b) | (refine op_box1 rfl rfl ?_;intro b) | (refine op_alloc tb rfl ?_;intro b) | (apply op_buildSlice tb;(· exact rfl);(· exact rfl);(· exact rfl);(· decide);(· (repeat (first | exact Cat.nil | (apply Cat.cons;(· exact rfl);(· exact rfl);(· exact rfl)) | exact App.nil | apply App.cons)));intro b))) | refine w_no rfl rfl rfl rfl ?_ | refine wc_cond_t rfl ?_ | refine wc_cond_f rfl ?_ | refine wc_if rfl (fun _=>?_) (fun _=>?_) | refine wc_ifn rfl (fun _=>?_) (fun _=>?_) | refine w_splitd rfl rfl (fun _=>?_) (fun _=>?_) | refine w_splitn rfl rfl (fun _=>?_) (fun _=>?_) | refine wc_ifnb rfl (fun _=>?_) (fun _=>?_) | refine wc_ifb rfl (fun _=>?_) (fun _=>?_) | refine w_splitnb rfl rfl (fun _=>?_) (fun _=>?_) | refine w_splitb rfl rfl (fun _=>?_) (fun _=>?_)))
 refine w_cons rfl (op_append0 (e:=103) (k:=2) tb rfl rfl rfl (Nat.le_refl 0) ?_)
 (repeat' (first | refine wc_seq ?_ | refine wc_region ?_ | refine wr_nil ?_ | refine we_code ?_ | refine wc_block ?_ | refine wc_skip ?_ | refine we_blk ?_ | refine wc_exit ?_ | refine we_exit_code ?_ | refine we_exit_here ?_ | refine we_exit_on rfl ?_ | refine we_exit_lp ?_ | refine wc_ret ?_ | ((first | refine w_cons rfl ?_ | refine w_cons0 ?_ | refine w_yes rfl rfl rfl ?_);(first | refine op_move rfl ?_ | refine op_assign rfl ?_ | refine op_eql rfl rfl ?_ | refine op_neq rfl rfl ?_ | refine op_lss rfl rfl ?_ | refine op_leq rfl rfl ?_ | refine op_gtr rfl rfl ?_ | refine op_geq rfl rfl ?_ | refine op_extract rfl rfl ?_ | refine op_not rfl ?_ | refine op_pick_t rfl rfl ?_ | refine op_pick_f rfl rfl ?_ | refine op_addi rfl rfl (by omega) (by omega) ?_ | refine op_subi rfl rfl (by omega) (by omega) ?_ | refine op_muli rfl rfl (by omega) (by omega) ?_ | refine op_add rfl rfl ?_ | refine op_sub rfl rfl ?_ | refine op_mul rfl rfl ?_ | refine op_fieldAddr tb rfl rfl ?_ | refine op_field1 tb rfl rfl rfl ?_ | refine op_and rfl rfl ?_ | refine op_or rfl rfl ?_ | refine op_xor rfl rfl ?_ | refine op_andNot rfl rfl ?_ | refine op_shl rfl rfl (by decide) ?_ | refine op_shr rfl rfl (by decide) ?_ | refine op_eqs rfl rfl ?_ | refine op_neqs rfl rfl ?_ | refine op_eqbd rfl rfl (by kernel_rfl) ?_ | refine op_neqbd rfl rfl (by kernel_rfl) ?_ | refine op_convert tb rfl rfl rfl ?_ | refine op_neg rfl ?_ | refine op_len tb rfl rfl rfl ?_ | (apply op_load1 tb rfl rfl;(· (first | (refine At.own (?_);repeat (first | exact Has.here | refine Has.there ?_)) | exact At.seen (by assumption)));(· exact rfl)) | (apply op_loadN tb rfl rfl;(· (first | (refine At.own (?_);repeat (first | exact Has.here | refine Has.there ?_)) | exact At.seen (by assumption)));(· exact rfl)) | (apply op_store1 tb rfl rfl rfl rfl rfl;(· (repeat (first | exact Upd.here | apply Upd.there)));(· exact rfl)) | (apply op_storeN tb rfl rfl rfl rfl rfl;(· (repeat (first | exact Upd.here | apply Upd.there)));(· exact rfl)) | (apply op_build tb (by kernel_rfl) rfl (rfl:tb.fo _ 0=_);(· (repeat (first | exact Fill.nil | (apply Fill.cons;(· exact rfl);(· exact rfl);(· exact rfl);(· exact rfl);(· exact rfl)))))) | (refine op_boxN rfl ?_;intro b) | (refine op_box1 rfl rfl ?_;intro b) | (refine op_alloc tb rfl ?_;intro b) | (apply op_buildSlice tb;(· exact rfl);(· exact rfl);(· exact rfl);(· decide);(· (repeat (first | exact Cat.nil | (apply Cat.cons;(· exact rfl);(· exact rfl);(· exact rfl)) | exact App.nil | apply App.cons)));intro b))) | refine w_no rfl rfl rfl rfl ?_ | refine wc_cond_t rfl ?_ | refine wc_cond_f rfl ?_ | refine wc_if rfl (fun _=>?_) (fun _=>?_) | refine wc_ifn rfl (fun _=>?_) (fun _=>?_) | refine w_splitd rfl rfl (fun _=>?_) (fun _=>?_) | refine w_splitn rfl rfl (fun _=>?_) (fun _=>?_) | refine wc_ifnb rfl (fun _=>?_) (fun _=>?_) | refine wc_ifb rfl (fun _=>?_) (fun _=>?_) | refine w_splitnb rfl rfl (fun _=>?_) (fun _=>?_) | refine w_splitb rfl rfl (fun _=>?_) (fun _=>?_)))
 exact fing_ret hM hw hV0 hR [(b,.cells #[] 103 (0,0))] (List.Sublist.refl _) (res1 rfl rfl) (hQ b)
theorem c53s {V:View} {bb off len cap:Nat} {news:List Value} {Q:Value→View→Own→Prop} (hn:news.length=len*2) (h1:∀ u∈news,u.oneCell'=true) (hr:∀ (j:Nat) (u:Value),news[j]?=some u→rd V bb (off+j) u) (h0:0<len) (hl:len≤549755813888)
 (hQ:∀ v' Gr',Row 103 2 v' Gr' len news→Q v' V Gr'):Fing Tryz.prog 133 #[.slice (some ⟨bb,off,none⟩) len cap] V [] Q:=by
 refine fing_enter (args:=[_]) Tryz.func133 rfl Tryz.ntmps133 rfl ?_
 intro X w hM hb hw hV0 hR;dsimp only [argL,Nat.zero_add,Nat.reduceAdd]
 (repeat' (first | refine wc_seq ?_ | refine wc_region ?_ | refine wr_nil ?_ | refine we_code ?_ | refine wc_block ?_ | refine wc_skip ?_ | refine we_blk ?_ | refine wc_exit ?_ | refine we_exit_code ?_ | refine we_exit_here ?_ | refine we_exit_on rfl ?_ | refine we_exit_lp ?_ | refine wc_ret ?_ | ((first | refine w_cons rfl ?_ | refine w_cons0 ?_ | refine w_yes rfl rfl rfl ?_);(first | (refine op_eqsl (e:=103) rfl rfl (by kernel_rfl) ?_) | refine op_move rfl ?_ | refine op_assign rfl ?_ | refine op_eql rfl rfl ?_ | refine op_neq rfl rfl ?_ | refine op_lss rfl rfl ?_ | refine op_leq rfl rfl ?_ | refine op_gtr rfl rfl ?_ | refine op_geq rfl rfl ?_ | refine op_extract rfl rfl ?_ | refine op_not rfl ?_ | refine op_pick_t rfl rfl ?_ | refine op_pick_f rfl rfl ?_ | refine op_addi rfl rfl (by omega) (by omega) ?_ | refine op_subi rfl rfl (by omega) (by omega) ?_ | refine op_muli rfl rfl (by omega) (by omega) ?_ | refine op_add rfl rfl ?_ | refine op_sub rfl rfl ?_ | refine op_mul rfl rfl ?_ | refine op_fieldAddr tb rfl rfl ?_ | refine op_field1 tb rfl rfl rfl ?_ | refine op_and rfl rfl ?_ | refine op_or rfl rfl ?_ | refine op_xor rfl rfl ?_ | refine op_andNot rfl rfl ?_ | refine op_shl rfl rfl (by decide) ?_ | refine op_shr rfl rfl (by decide) ?_ | refine op_eqs rfl rfl ?_ | refine op_neqs rfl rfl ?_ | refine op_eqbd rfl rfl (by kernel_rfl) ?_ | refine op_neqbd rfl rfl (by kernel_rfl) ?_ | refine op_convert tb rfl rfl rfl ?_ | refine op_neg rfl ?_ | refine op_len tb rfl rfl rfl ?_ | (apply op_load1 tb rfl rfl;(· (first | (refine At.own (?_);repeat (first | exact Has.here | refine Has.there ?_)) | exact At.seen (by assumption)));(· exact rfl)) | (apply op_loadN tb rfl rfl;(· (first | (refine At.own (?_);repeat (first | exact Has.here | refine Has.there ?_)) | exact At.seen (by assumption)));(· exact rfl)) | (apply op_store1 tb rfl rfl rfl rfl rfl;(· (repeat (first | exact Upd.here | apply Upd.there)));(· exact rfl)) | (apply op_storeN tb rfl rfl rfl rfl rfl;(· (repeat (first | exact Upd.here | apply Upd.there)));(· exact rfl)) | (apply op_build tb (by kernel_rfl) rfl (rfl:tb.fo _ 0=_);(· (repeat (first | exact Fill.nil | (apply Fill.cons;(· exact rfl);(· exact rfl);(· exact rfl);(· exact rfl);(· exact rfl)))))) | (refine op_boxN rfl ?_;intro b) | (refine op_box1 rfl rfl ?_;intro b) | (refine op_alloc tb rfl ?_;intro b) | (apply op_buildSlice tb;(· exact rfl);(· exact rfl);(· exact rfl);(· decide);(· (repeat (first | exact Cat.nil | (apply Cat.cons;(· exact rfl);(· exact rfl);(· exact rfl)) | exact App.nil | apply App.cons)));intro b))) | refine w_no rfl rfl rfl rfl ?_ | refine wc_cond_t rfl ?_ | refine wc_cond_f rfl ?_ | refine wc_if rfl (fun _=>?_) (fun _=>?_) | refine wc_ifn rfl (fun _=>?_) (fun _=>?_) | refine w_splitd rfl rfl (fun _=>?_) (fun _=>?_) | refine w_splitn rfl rfl (fun _=>?_) (fun _=>?_) | refine wc_ifnb rfl (fun _=>?_) (fun _=>?_) | refine wc_ifb rfl (fun _=>?_) (fun _=>?_) | refine w_splitnb rfl rfl (fun _=>?_) (fun _=>?_) | refine w_splitb rfl rfl (fun _=>?_) (fun _=>?_)))
 refine w_cons rfl (op_appendG (e:=103) (k:=2) (m:=0) (z:=[.int .i64 0,.int .u64 0]) (Gr:=[(b,.cells #[] 103 (0,0))]) (G1:=[]) (xs:=[]) (news:=news) tb rfl rfl rfl (Nat.le_of_ble_eq_true (by kernel_rfl)) rfl rfl (fun w hw j u hj=>?_) hn h1 (Row.some (g:=b) (cur:=#[]) (Nat.le_refl 0) (by simp [maxLen]) rfl rfl) (List.Perm.refl _) h0 (by omega) fun v' Gr' hR'=>?_)
 · obtain ⟨arr,e,f0,q1,q2⟩:=hr j u hj
   rw [addr_add,cell_of (hw.view _ _ q1)];exact q2
 · (repeat' (first | refine wc_seq ?_ | refine wc_region ?_ | refine wr_nil ?_ | refine we_code ?_ | refine wc_block ?_ | refine wc_skip ?_ | refine we_blk ?_ | refine wc_exit ?_ | refine we_exit_code ?_ | refine we_exit_here ?_ | refine we_exit_on rfl ?_ | refine we_exit_lp ?_ | refine wc_ret ?_ | ((first | refine w_cons rfl ?_ | refine w_cons0 ?_ | refine w_yes rfl rfl rfl ?_);(first | refine op_move rfl ?_ | refine op_assign rfl ?_ | refine op_eql rfl rfl ?_ | refine op_neq rfl rfl ?_ | refine op_lss rfl rfl ?_ | refine op_leq rfl rfl ?_ | refine op_gtr rfl rfl ?_ | refine op_geq rfl rfl ?_ | refine op_extract rfl rfl ?_ | refine op_not rfl ?_ | refine op_pick_t rfl rfl ?_ | refine op_pick_f rfl rfl ?_ | refine op_addi rfl rfl (by omega) (by omega) ?_ | refine op_subi rfl rfl (by omega) (by omega) ?_ | refine op_muli rfl rfl (by omega) (by omega) ?_ | refine op_add rfl rfl ?_ | refine op_sub rfl rfl ?_ | refine op_mul rfl rfl ?_ | refine op_fieldAddr tb rfl rfl ?_ | refine op_field1 tb rfl rfl rfl ?_ | refine op_and rfl rfl ?_ | refine op_or rfl rfl ?_ | refine op_xor rfl rfl ?_ | refine op_andNot rfl rfl ?_ | refine op_shl rfl rfl (by decide) ?_ | refine op_shr rfl rfl (by decide) ?_ | refine op_eqs rfl rfl ?_ | refine op_neqs rfl rfl ?_ | refine op_eqbd rfl rfl (by kernel_rfl) ?_ | refine op_neqbd rfl rfl (by kernel_rfl) ?_ | refine op_convert tb rfl rfl rfl ?_ | refine op_neg rfl ?_ | refine op_len tb rfl rfl rfl ?_ | (apply op_load1 tb rfl rfl;(· (first | (refine At.own (?_);repeat (first | exact Has.here | refine Has.there ?_)) | exact At.seen (by assumption)));(· exact rfl)) | (apply op_loadN tb rfl rfl;(· (first | (refine At.own (?_);repeat (first | exact Has.here | refine Has.there ?_)) | exact At.seen (by assumption)));(· exact rfl)) | (apply op_store1 tb rfl rfl rfl rfl rfl;(· (repeat (first | exact Upd.here | apply Upd.there)));(· exact rfl)) | (apply op_storeN tb rfl rfl rfl rfl rfl;(· (repeat (first | exact Upd.here | apply Upd.there)));(· exact rfl)) | (apply op_build tb (by kernel_rfl) rfl (rfl:tb.fo _ 0=_);(· (repeat (first | exact Fill.nil | (apply Fill.cons;(· exact rfl);(· exact rfl);(· exact rfl);(· exact rfl);(· exact rfl)))))) | (refine op_boxN rfl ?_;intro b) | (refine op_box1 rfl rfl ?_;intro b) | (refine op_alloc tb rfl ?_;intro b) | (apply op_buildSlice tb;(· exact rfl);(· exact rfl);(· exact rfl);(· decide);(· (repeat (first | exact Cat.nil | (apply Cat.cons;(· exact rfl);(· exact rfl);(· exact rfl)) | exact App.nil | apply App.cons)));intro b))) | refine w_no rfl rfl rfl rfl ?_ | refine wc_cond_t rfl ?_ | refine wc_cond_f rfl ?_ | refine wc_if rfl (fun _=>?_) (fun _=>?_) | refine wc_ifn rfl (fun _=>?_) (fun _=>?_) | refine w_splitd rfl rfl (fun _=>?_) (fun _=>?_) | refine w_splitn rfl rfl (fun _=>?_) (fun _=>?_) | refine wc_ifnb rfl (fun _=>?_) (fun _=>?_) | refine wc_ifb rfl (fun _=>?_) (fun _=>?_) | refine w_splitnb rfl rfl (fun _=>?_) (fun _=>?_) | refine w_splitb rfl rfl (fun _=>?_) (fun _=>?_)))
   rw [List.append_nil]
   refine fing_ret hM hw hV0 hR Gr' (List.Sublist.refl _) (res1 rfl rfl) (hQ _ _ ?_)
   rw [Nat.zero_add,List.nil_append] at hR'
   exact hR'
end Fly
namespace Su
open Go Go.Proofs Fly
theorem fresh_plain {P:Program} {f:Nat} {V:View} {vs:List Value} {l:List T} {e w:Nat}
 (h:Fing P f vs.toArray V [] fun v V' G'=>∃ ie,RepOB V' [ie] (.row false e w l) ie G'∧RepS V' [ie] (.osl 0 0 l.length) v):Fing P f vs.toArray V [] fun v V' _=>∃ rvs,RepA V' [.sl w l] rvs∧v=resV rvs:=by
 intro w0 hs hG hV hnd
 refine (h w0 hs hG hV hnd).mono ?_
 rintro ex w' ⟨v,V',G',rfl,hh,ie,m1,m2⟩
 have hsub:sub l 0 l.length=some l:=sub_whole l _ rfl
 have hz:toTs 64 ⟨[],[],[.row false e w l]⟩ [.osl 0 0 l.length]=some ([.sl w l],(St.mk [] [] [.row false e w l]).frow 0 w l):=by
  simp only [toTs,toT,List.getElem?_cons_zero,hsub,Option.bind_some]
 obtain ⟨V2,G2,g2,s2,r2,_⟩:=(toT_both (I:=[ie]) (L:=[]) 64).2 ⟨[],[],[.row false e w l]⟩ _ [.osl 0 0 l.length] _ hz V' G' [v] (.cons m2 .nil) ⟨⟨G'++[],.cons m1 .nil,by rw [List.append_nil]⟩,fun d sv hd _=>by simp [St.look] at hd⟩ ⟨fun p hp=>(hh.free p (by simp [hp])).2,by have:=hh.nodup;simpa using this⟩
 exact ⟨_,V2,G2,rfl,g2.holds _ _ hh,[v],r2,rfl⟩
noncomputable def aClone_p:PrimD:=⟨List Tm,fun xs=>((d1 cTms).dec xs).bind fun l=>bif lenOK l then some l else none,fun l=>[.sl 2 (l.map vT)],none,some (103,2),fun _=>none⟩
theorem clone_law {V:View} {v:Value} {l:List T} (hl:l.length≤549755813888) (h:Rep V (.sl 2 l) v) :
 Fing Tryz.prog 133 #[v] V [] fun v' V' G'=>∃ ie,RepOB V' [ie] (.row false 103 2 l) ie G'∧RepS V' [ie] (.osl 0 0 l.length) v':=by
 cases h with | @sl _ _ vs a cap a1 a2 a3 a4 a5 a6 =>
 have hn:vs.length=l.length*2:=by rw [← a1.length,flat_len a3]
 by_cases h0:l=[]
 · subst h0
   cases a with
   | none=>exact c53n ⟨.vrow,.vrow,.oslv rfl⟩
   | some a=>exact c53e fun b=>⟨.row b 2 0,.row (by simp) (by simp [maxLen]) (by simp) (by simpa using RepA.nil) (by simp) (by simp),by
    have:=RepS.osl (V:=V) (I:=[IE.row b 2 0]) (n:=0) (off:=0) (len:=0) (b:=b) (k:=2) (ct:=0) rfl (by omega) (by simp [maxLen])
    simpa using this⟩
 · have hpos:0<l.length:=List.length_pos_iff.2 h0
   rcases a6 with a6 | ⟨b,off,rfl,a6⟩
   · exact absurd a6 h0
   · refine c53s hn (repA_one a1 a2) a6 hpos hl fun v' Gr' hR=>?_
     obtain ⟨b',ct,rfl,b1,b2,b3⟩:=rowOf (V:=V) (I:=[.row 0 0 0]) (l:=l) hR hpos rfl a1 a2 a3
     refine ⟨.row b' 2 ct,b3.row_any,?_⟩
     have:=RepS.osl (V:=V) (I:=[IE.row b' 2 ct]) (n:=0) (off:=0) (len:=l.length) (b:=b') (k:=2) (ct:=ct) rfl (by omega) b2
     rw [Nat.zero_mul,Nat.sub_zero] at this
     exact this
theorem aClone_f (xs:List T) (y:List Tm) (h:((d1 cTms).dec xs).bind (fun l=>bif lenOK l then some l else none)=some y) (V:View) (vs:List Value) (hr:RepA V xs vs) :
 Fing Tryz.prog 133 vs.toArray V [] fun v V' G'=>∃ ie,RepOB V' [ie] (.row false 103 2 (y.map vT)) ie G'∧RepS V' [ie] (.osl 0 0 (y.map vT).length) v:=by
 obtain ⟨l,h1,h2⟩:=osm h
 obtain ⟨h3,h4⟩:=bif_some h2
 have:=soi h4;subst this
 have hr2:=(d1 cTms).rep h1 hr
 cases hr2 with | cons k1 k2=>cases k2 with | nil =>
 cases k1 with | ql k1 =>
 exact clone_law (l:=l.map vT) (by have h5:(l.map (view 10)).length=l.length:=List.length_map ..;rw [show (List.map vT l).length=l.length from h5];exact Nat.le_of_ble_eq_true h3) k1
theorem aClone_c:Ok1 Tryz.prog Su.tb btsOK.sound 133 aClone_p:=by
 refine ⟨by kernel_rfl,fun xs y h V vs _ hr=>fresh_plain (aClone_f xs y h V vs hr),fun j hj xs y h V vs _ hr=>?_⟩
 have hj:some ((103,2):Nat×Nat)=some j:=hj
 simp only [Option.some.injEq] at hj;subst hj
 intro w0 a1 a2 a3 a4
 refine (aClone_f xs y h V vs hr w0 a1 a2 a3 a4).mono ?_
 rintro e w' ⟨v,V',G',rfl,hh,ie,m1,m2⟩
 refine ⟨v,V',G',rfl,hh,fun w l he hw=>?_⟩
 have he:[T.sl 2 (y.map vT)]=[.sl w l]:=he
 simp only [List.cons.injEq,T.sl.injEq,and_true] at he
 obtain ⟨rfl,rfl⟩:=he
 exact ⟨ie,m1,m2⟩
end Su
end
section
namespace Su
open Go Go.Proofs Fly
set_option maxRecDepth 100000
abbrev dFF:Dec (Int×(Int×Int)):=dc (cI .u64) (dc (cI .u64) (d1 (cI .u8)))
noncomputable def frcN (n:Nat):Option Int:=Nat.rec (motive:=fun _=>Option Int) (some ((0:Nat):Int)) (fun m _=>some ((m+1:Nat):Int)) n
theorem frcN_eq (n:Nat):frcN n=some (n:Int):=by cases n <;> rfl
noncomputable def aAddO (p:Int×(Int×Int)):Option Int:=frcN (addF p.1.toNat p.2.1.toNat p.2.2)
noncomputable def aMulO (p:Int×(Int×Int)):Option Int:=frcN (mulF p.1.toNat p.2.1.toNat p.2.2)
noncomputable def upO (s:Nat):List Int→Nat
 | []=>s
 | x::l=>upO (addF s x.toNat 1) l
noncomputable def aUpO (l:List Int):Option Int:=frcN (upO 0 l)
noncomputable def doneO (a:Fm):Fm:=bif (fI (nzI a.2.1)&&fI (nzI a.2.2.2))&&!((delZ a.2.2.1).any fun t=>!fI t.c) then (a.1,(nzI a.2.1,(delZ a.2.2.1,nzI a.2.2.2))) else badF
theorem upO_eq:∀ (l:List Int) (s:Nat),upO s l=upS s l
 | [],s=>rfl
 | x::l,s=>by show upO (addF s x.toNat 1) l=upS (addN s x.toNat 1) l;rw [upO_eq l,addN_eq]
noncomputable def aAddW:PrimD:=prim dFF (d1 (cI .u64)) aAddO
noncomputable def aMulW:PrimD:=prim dFF (d1 (cI .u64)) aMulO
noncomputable def aUpW:PrimD:=prim (d1 (cQ 2 1)) (d1 (cI .u64)) aUpO
noncomputable def aDoneW:PrimD:=prim4t (2,103) (d1 cFrm4) (d1 cFrm) (fun a=>some (doneO a)) (d1 cFrm) (fun a=>bif a.2.2.1.all fun t=>!zI t.c then some (doneO a) else none)
theorem aAddW_c:Ok1 Tryz.prog tb btsOK.sound 114 aAddW:=by
 have e:aAddO=aAdd_s:=by funext p;unfold aAddO aAdd_s;rw [addN_eq,frcN_eq]
 unfold aAddW;rw [e];exact aAdd_c
theorem aMulW_c:Ok1 Tryz.prog tb btsOK.sound 121 aMulW:=by
 have e:aMulO=aMul_s:=by funext p;unfold aMulO aMul_s;rw [mulN_eq,frcN_eq]
 unfold aMulW;rw [e];exact aMul_c
theorem aUpW_c:Ok1 Tryz.prog tb btsOK.sound 112 aUpW:=by
 have e:aUpO=aUp_s:=by funext l;unfold aUpO aUp_s;rw [upO_eq,frcN_eq]
 unfold aUpW;rw [e];exact aUp_c
theorem aDoneW_c:Ok1 Tryz.prog tb btsOK.sound 117 aDoneW:=by
 have e:doneO=doneF:=by funext a;rw [doneF_eq];rfl
 unfold aDoneW;rw [e];exact aDone_c
noncomputable def prB:Prims:=extL [(114,aAddW),(121,aMulW),(112,aUpW),(117,aDoneW),(133,aClone_p),(128,spNorm_p),(129,spAt_p),(175,dDel_p),(177,aCont_p),(107,aFin_p),(106,aZero_p)] pr_C13
theorem prB_ok:PrimOK Tryz.prog tb btsOK.sound prB:=extL_ok pr_C13_ok (ok_cons aAddW_c (ok_cons aMulW_c (ok_cons aUpW_c (ok_cons aDoneW_c (ok_cons aClone_c (ok_cons spNorm_c (ok_cons spAt_c (ok_cons dDel_c (ok_cons aCont_c (ok_cons aFin_c (ok_cons aZero_c ok_nil)))))))))))
theorem works18_run:shFn tb prB (shN tb prB 60 9) 60 38 [] (d1 cB).dec=some true:=by kernel_rfl
noncomputable def works18_p:PrimD:=prim d0 (d1 cB) fun _=>some true
theorem works18_c:Ok1 Tryz.prog tb btsOK.sound 38 works18_p:=prim_ok k_ok prB_ok (by kernel_rfl) fun a y hg h=>⟨60,9,60,works18_run.trans h⟩
noncomputable def pr_W18:Prims:=extL [(38,works18_p),(133,aClone_p)] pr_C27
theorem pr_W18_ok:PrimOK Tryz.prog tb btsOK.sound pr_W18:=extL_ok pr_C27_ok (ok_cons works18_c (ok_cons aClone_c ok_nil))
end Su
end
section
namespace Su
open Go Go.Proofs Fly
set_option maxRecDepth 100000
theorem rDiv_eq (fu:Nat)  (a:(Bool×((List Int)×(List Int)))) (b:(Bool×((List Int)×(List Int)))):shFn tb pr_W18 (shN tb pr_W18 fu 9) fu 108 ((dc cRt (d1 cRt)).enc (a,b)) ((dc cRt (d1 (cI .i64)))).dec=rDiv a b:=by kernel_rfl
noncomputable def rDiv_p:PrimD:=prim (dc cRt (d1 cRt)) (dc cRt (d1 (cI .i64))) (rDiv_s)
theorem rDiv_c:Ok1 Tryz.prog tb btsOK.sound 108 rDiv_p:=prim_ok k_ok pr_W18_ok (by kernel_rfl) fun a y hg h=>⟨0,9,0,(rDiv_eq 0 a.1 a.2).trans (rDiv_ok a y hg h)⟩
noncomputable def pr_D25:Prims:=extL [(108,rDiv_p)] pr_W18
theorem pr_D25_ok:PrimOK Tryz.prog tb btsOK.sound pr_D25:=extL_ok pr_W18_ok (ok_cons rDiv_c ok_nil)
end Su
end
section
namespace Su
open Go Go.Proofs Fly
set_option maxRecDepth 100000
theorem noise_eq (fu:Nat)  (l:(List Int)) (id:Int):shFn tb pr_D25 (shN tb pr_D25 fu 9) fu 170 ((dc (cQ 3 1) (d1 (cI .i64))).enc (l,id)) ((d1 cRt)).dec=noise l id:=by kernel_rfl
noncomputable def noise_p:PrimD:=prim (dc (cQ 3 1) (d1 (cI .i64))) (d1 cRt) (noise_s)
theorem noise_c:Ok1 Tryz.prog tb btsOK.sound 170 noise_p:=prim_ok k_ok pr_D25_ok (by kernel_rfl) fun a y hg h=>⟨0,9,0,(noise_eq 0 a.1 a.2).trans (noise_ok a y hg h)⟩
noncomputable def pr_D26:Prims:=extL [(170,noise_p)] pr_D25
theorem pr_D26_ok:PrimOK Tryz.prog tb btsOK.sound pr_D26:=extL_ok pr_D25_ok (ok_cons noise_c ok_nil)
end Su
end
section
namespace Su
open Go Go.Proofs Fly
set_option maxRecDepth 100000
theorem wit_eq (fu:Nat)  (r:(Bool×((List Int)×(List Int)))) (s:(Bool×(Int×Int))):shFn tb pr_D26 (shN tb pr_D26 fu 9) fu 49 ((dc cRt (d1 cSpn)).enc (r,s)) ((d1 cB)).dec=wit r s:=by kernel_rfl
noncomputable def wit_p:PrimD:=prim (dc cRt (d1 cSpn)) (d1 cB) (wit_s)
theorem wit_c:Ok1 Tryz.prog tb btsOK.sound 49 wit_p:=prim_ok k_ok pr_D26_ok (by kernel_rfl) fun a y hg h=>⟨0,9,0,(wit_eq 0 a.1 a.2).trans (wit_ok a y hg h)⟩
theorem sumf_eq (fu:Nat) (a:(Bool×(Int×((List Su.Tm)×Int)))) (l:(List Int)):shFn tb pr_D26 (shN tb pr_D26 fu 9) fu 109 ((dc cFrm (d1 (cQ 3 1))).enc (a,l)) ((d1 cRt)).dec=sumf fu a l:=by kernel_rfl
noncomputable def sumf_p:PrimD:=prim (dc cFrm (d1 (cQ 3 1))) (d1 cRt) (sumf_s)
theorem sumf_c:Ok1 Tryz.prog tb btsOK.sound 109 sumf_p:=prim_ok k_ok pr_D26_ok (by kernel_rfl) fun a y hg h=>by
 obtain ⟨n,hn⟩:=sumf_ok a y hg h
 exact ⟨n,9,n,(sumf_eq n a.1 a.2).trans hn⟩
noncomputable def pr_D27:Prims:=extL [(49,wit_p),(109,sumf_p)] pr_D26
theorem pr_D27_ok:PrimOK Tryz.prog tb btsOK.sound pr_D27:=extL_ok pr_D26_ok (ok_cons wit_c (ok_cons sumf_c ok_nil))
end Su
end
section
namespace Su
open Go Go.Proofs Fly
set_option maxRecDepth 100000
theorem numb_eq (fu:Nat)  (a:(Bool×(Int×((List Su.Tm)×Int)))) (l:(List Int)) (rest:Int):shFn tb pr_D27 (shN tb pr_D27 fu 9) fu 40 ((dc cFrm (dc (cQ 3 1) (d1 (cI .i64)))).enc (a,l,rest)) ((d1 cRt)).dec=numb a l rest:=by kernel_rfl
noncomputable def numb_p:PrimD:=prim (dc cFrm (dc (cQ 3 1) (d1 (cI .i64)))) (d1 cRt) (numb_s)
theorem numb_c:Ok1 Tryz.prog tb btsOK.sound 40 numb_p:=prim_ok k_ok pr_D27_ok (by kernel_rfl) fun a y hg h=>⟨0,9,0,(numb_eq 0 a.1 a.2.1 a.2.2).trans (numb_ok a y hg h)⟩
theorem hasq_eq (fu:Nat)  (a:(Bool×(Int×((List Su.Tm)×Int)))) (l:(List Int)) (r:(Bool×((List Int)×(List Int)))):shFn tb pr_D27 (shN tb pr_D27 fu 9) fu 41 ((dc cFrm (dc (cQ 3 1) (d1 cRt))).enc (a,l,r)) ((d1 cB)).dec=hasq a l r:=by kernel_rfl
noncomputable def hasq_p:PrimD:=prim (dc cFrm (dc (cQ 3 1) (d1 cRt))) (d1 cB) (hasq_s)
theorem hasq_c:Ok1 Tryz.prog tb btsOK.sound 41 hasq_p:=prim_ok k_ok pr_D27_ok (by kernel_rfl) fun a y hg h=>⟨0,9,0,(hasq_eq 0 a.1 a.2.1 a.2.2).trans (hasq_ok a y hg h)⟩
noncomputable def pr_D28:Prims:=extL [(40,numb_p),(41,hasq_p)] pr_D27
theorem pr_D28_ok:PrimOK Tryz.prog tb btsOK.sound pr_D28:=extL_ok pr_D27_ok (ok_cons numb_c (ok_cons hasq_c ok_nil))
end Su
end
section
namespace Su
open Go Go.Proofs Fly
set_option maxRecDepth 100000
theorem lSnd_eq (fu:Nat)  (a:(Bool×(Int×((List Su.Tm)×Int)))) (b:(Bool×(Int×((List Su.Tm)×Int)))) (noises:(List Int)) (p:Int) (q:Int):shFn tb pr_D28 (shN tb pr_D28 fu 9) fu 9 ((dc cFrm (dc cFrm (dc (cQ 3 1) (dc (cI .i64) (d1 (cI .i64)))))).enc (a,b,noises,p,q)) ((d1 cB)).dec=lSnd a b noises p q:=by kernel_rfl
noncomputable def lSnd_p:PrimD:=prim (dc cFrm (dc cFrm (dc (cQ 3 1) (dc (cI .i64) (d1 (cI .i64)))))) (d1 cB) (lSnd_s)
theorem lSnd_c:Ok1 Tryz.prog tb btsOK.sound 9 lSnd_p:=prim_ok k_ok pr_D28_ok (by kernel_rfl) fun a y hg h=>⟨0,9,0,(lSnd_eq 0 a.1 a.2.1 a.2.2.1 a.2.2.2.1 a.2.2.2.2).trans (lSnd_ok a y hg h)⟩
end Su
end
section
namespace Su
open Go Fly
def isGroup (P:Program) (t:Nat):Bool:=match P.underlying t with
 | some (.struct _)=>true
 | _=>false
def tiles (P:Program) (S:List Nat) (n:Nat):Nat→List Field→Bool
 | o,[]=>Nat.beq o n
 | o,f::fs=>Nat.beq f.offset o&&(S.contains f.type&&tiles P S n (o+P.cellsOf f.type) fs)
def okTy (P:Program) (S:List Nat) (t:Nat):Bool:=match P.underlying t with
 | some .bool=>Nat.beq (P.cellsOf t) 1
 | some (.int _)=>Nat.beq (P.cellsOf t) 1
 | some (.float _)=>Nat.beq (P.cellsOf t) 1
 | some .string=>Nat.beq (P.cellsOf t) 1
 | some (.slice e)=>Nat.beq (P.cellsOf t) 1&&(S.contains e&&Nat.blt 0 (P.cellsOf e))
 | some (.struct fs)=>tiles P S (P.cellsOf t) 0 fs.toList
 | _=>false
inductive All2 {α β:Type} (R:α→β→Prop):List α→List β→Prop
 | nil:All2 R [] []
 | cons {a:α} {b:β} {l:List α} {m:List β} (h:R a b) (h':All2 R l m):All2 R (a::l) (b::m)
def Shp (P:Program):Nat→Nat→List T→Prop
 | 0,_,_=>False
 | fuel+1,t,xs=>match P.underlying t with
  | some .bool=>∃ b,xs=[.s (.bool b)]
  | some (.int k)=>∃ n,xs=[.s (.int k n)]∧(Lit.int k n).wf=true
  | some (.float k)=>∃ b,xs=[.s (.float k b)]∧(Lit.float k b).wf=true
  | some .string=>∃ s,xs=[.s (.string s)]∧s.size≤maxLen
  | some (.slice e)=>∃ l,xs=[.sl (P.cellsOf e) l]∧l.length≤maxLen∧∀ x∈l,x.isAgg=isGroup P e∧Shp P fuel e x.cells
  | some (.struct fs)=>∃ parts:List (List T),xs=parts.flatten∧All2 (fun (f:Field) p=>Shp P fuel f.type p) fs.toList parts
  | _=>False
def hv (w:World):View:=fun b=>w.heap[b]?
theorem add_add {a:Addr} {m n:Nat} (h:n≠0∨m=0∨a.spot=none):(a.add m).add n=a.add (m+n):=by
 unfold Addr.add
 by_cases hn:n=0
 · subst hn;simp
 · by_cases hm:m=0
   · subst hm;simp [hn]
   · simp [hn,hm,Nat.add_assoc]
theorem rd_of_cell {w:World} {a:Addr} {v:Value} (h:w.cell? a=some v):a.spot=none∧rd (hv w) a.block a.off v:=by
 unfold World.cell? at h
 split at h
 · rename_i c e f hb
   cases hs:a.spot with
   | some s=>rw [hs] at h;simp at h
   | none=>rw [hs] at h;exact ⟨rfl,c,e,f,hb,by simpa using h⟩
 · simp at h
theorem add_off (a:Addr) (n:Nat):(a.add n).off=a.off+n∧(a.add n).block=a.block:=by
 unfold Addr.add;split
 · rename_i h;subst h;exact ⟨rfl,rfl⟩
 · exact ⟨rfl,rfl⟩
theorem rows_rd {w:World} {a:Addr} {k:Nat} (hk:0<k):∀ (css:List (List Value)) (s:Nat),(∀ i cs,css[i]?=some cs→w.cells? 0 (a.add ((s+i)*k)) k=some cs)→∀ j c,css.flatten[j]?=some c→rd (hv w) a.block (a.off+s*k+j) c∧w.cell? (a.add (s*k+j))=some c
 | [],s,h,j,c,hj=>by simp at hj
 | c0::css,s,h,j,c,hj=>by
  obtain ⟨_,hl,hc⟩:=World.cells?_some (h 0 c0 rfl)
  simp only [Nat.add_zero] at hc
  rw [List.flatten_cons] at hj
  rcases Nat.lt_or_ge j k with hjk | hjk
  · rw [List.getElem?_append_left (by omega)] at hj
    have h1:=hc j hjk
    rw [hj] at h1
    have h3:w.cell? (a.add (s*k+j))=some c:=by
     by_cases hj0:j=0
     · subst hj0
       have:(a.add (s*k)).add 0=a.add (s*k):=by unfold Addr.add;simp
       rw [this] at h1;exact h1
     · rw [add_add (.inl hj0)] at h1;exact h1
    obtain ⟨_,h2⟩:=rd_of_cell h3
    rw [(add_off _ _).1,(add_off _ _).2] at h2
    exact ⟨by rw [Nat.add_assoc];exact h2,h3⟩
  · rw [List.getElem?_append_right (by omega),hl] at hj
    have h2:=rows_rd hk css (s+1) (fun i cs hi=>by
     have:=h (i+1) cs (by simpa using hi)
     rw [show s+1+i=s+(i+1) by omega];exact this) (j-k) c hj
    have e1:(s+1)*k+(j-k)=s*k+j:=by rw [Nat.add_mul];omega
    rw [Nat.add_assoc,e1] at h2
    exact ⟨by rw [Nat.add_assoc];exact h2.1,h2.2⟩
end Su
end
