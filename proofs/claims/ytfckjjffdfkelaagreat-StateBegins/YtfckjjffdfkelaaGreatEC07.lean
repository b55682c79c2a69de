/-
  The evaluator computes what the plain functions say.
-/
import Derived.Test.YtfckjjffdfkelaaGreatRw
import Derived.Test.YtfckjjffdfkelaaGreatSuTb
import Derived.Test.YtfckjjffdfkelaaGreatHSh3
import Derived.Test.YtfckjjffdfkelaaGreatNC10
import Derived.Test.YtfckjjffdfkelaaGreatNC13
import Derived.Test.YtfckjjffdfkelaaGreatNC14
import Derived.Test.YtfckjjffdfkelaaGreatNC24
import Derived.Test.YtfckjjffdfkelaaGreatNB25
import Derived.Test.YtfckjjffdfkelaaGreatNB27
import Derived.Test.YtfckjjffdfkelaaGreatNB30
import Derived.Test.YtfckjjffdfkelaaGreatRin
import Derived.Test.YtfckjjffdfkelaaGreatNB39
import Derived.Test.YtfckjjffdfkelaaGreatSuP0
import Derived.ChangeSame
import Derived.ChangeOld
import Derived.DataReads
set_option maxRecDepth 10000
section
namespace Su
open Go Go.Proofs Fly
set_option maxRecDepth 100000
theorem qvo (fu:Nat)  (x:Int):qu tb y5 (shN tb y5 fu 9) fu 219 ((d1 (cI .u64)).enc (x)) ((d1 (cI .i64))).dec=qsY x:=by kernel_rfl
noncomputable def qoL:PrimD:=prim (d1 (cI .u64)) (d1 (cI .i64)) (qnL)
theorem qzQ:Ok1 Tryz.prog tb qi.sound 219 qoL:=qh qx Q6 (by kernel_rfl) fun a y hg h=>⟨0,9,0,(qvo 0 a).trans (qs0 a y hg h)⟩
theorem qzR (fu:Nat)  (a:Int) (b:Int):qu tb y5 (shN tb y5 fu 9) fu 209 ((dc (cI .u64) (d1 (cI .u64))).enc (a,b)) ((d1 cW)).dec=qDo a b:=by kernel_rfl
noncomputable def qvp:PrimD:=prim (dc (cI .u64) (d1 (cI .u64))) (d1 cW) (qs1)
theorem qER:Ok1 Tryz.prog tb qi.sound 209 qvp:=qh qx Q6 (by kernel_rfl) fun a y hg h=>⟨0,9,0,(qzR 0 a.1 a.2).trans (qx7 a y hg h)⟩
theorem qzS (fu:Nat)  (a:(Int×Int)) (b:(Int×Int)):qu tb y5 (shN tb y5 fu 9) fu 223 ((dc cW (d1 cW)).enc (a,b)) ((dc cW (d1 (cI .u64)))).dec=qDp a b:=by kernel_rfl
noncomputable def qvq:PrimD:=prim (dc cW (d1 cW)) (dc cW (d1 (cI .u64))) (qs2)
theorem qES:Ok1 Tryz.prog tb qi.sound 223 qvq:=qh qx Q6 (by kernel_rfl) fun a y hg h=>⟨0,9,0,(qzS 0 a.1 a.2).trans (qx8 a y hg h)⟩
theorem qzT (fu:Nat)  (a:(Int×Int)) (b:(Int×Int)):qu tb y5 (shN tb y5 fu 9) fu 224 ((dc cW (d1 cW)).enc (a,b)) ((dc cW (d1 (cI .u64)))).dec=qDq a b:=by kernel_rfl
noncomputable def qvr:PrimD:=prim (dc cW (d1 cW)) (dc cW (d1 (cI .u64))) (qs3)
theorem qET:Ok1 Tryz.prog tb qi.sound 224 qvr:=qh qx Q6 (by kernel_rfl) fun a y hg h=>⟨0,9,0,(qzT 0 a.1 a.2).trans (qya a y hg h)⟩
noncomputable def Zk:qy:=qM [(219,qoL),(209,qvp),(223,qvq),(224,qvr)] y5
theorem ZV:qn Tryz.prog tb qi.sound Zk:=qm Q6 (qe qzQ (qe qER (qe qES (qe qET qw))))
end Su
end
section
namespace Su
open Go Go.Proofs Fly
set_option maxRecDepth 100000
theorem qzU (fu:Nat)  (a:(Int×Int)):qu tb Zk (shN tb Zk fu 9) fu 225 ((d1 cW).enc (a)) ((d1 (cI .i64))).dec=qDr a:=by kernel_rfl
noncomputable def qvs:PrimD:=prim (d1 cW) (d1 (cI .i64)) (qs4)
theorem qEU:Ok1 Tryz.prog tb qi.sound 225 qvs:=qh qx ZV (by kernel_rfl) fun a y hg h=>⟨0,9,0,(qzU 0 a).trans (qyb a y hg h)⟩
theorem qzV (fu:Nat) (a:(Int×Int)) (n:Int):qu tb Zk (shN tb Zk fu 9) fu 221 ((dc cW (d1 (cI .i64))).enc (a,n)) ((d1 cW)).dec=qDs fu a n:=by kernel_rfl
noncomputable def qvt:PrimD:=prim (dc cW (d1 (cI .i64))) (d1 cW) (qs5)
theorem qEV:Ok1 Tryz.prog tb qi.sound 221 qvt:=qh qx ZV (by kernel_rfl) fun a y hg h=>by
 obtain ⟨n,hn⟩:=qyc a y hg h
 exact ⟨n,9,n,(qzV n a.1 a.2).trans hn⟩
theorem qzW (fu:Nat) (a:(Int×Int)) (n:Int):qu tb Zk (shN tb Zk fu 9) fu 222 ((dc cW (d1 (cI .i64))).enc (a,n)) ((dc cW (d1 cB))).dec=qDt fu a n:=by kernel_rfl
noncomputable def qvu:PrimD:=prim (dc cW (d1 (cI .i64))) (dc cW (d1 cB)) (qs6)
theorem qEW:Ok1 Tryz.prog tb qi.sound 222 qvu:=qh qx ZV (by kernel_rfl) fun a y hg h=>by
 obtain ⟨n,hn⟩:=qyd a y hg h
 exact ⟨n,9,n,(qzW n a.1 a.2).trans hn⟩
noncomputable def qc1:qy:=qM [(225,qvs),(221,qvt),(222,qvu)] Zk
theorem qc2:qn Tryz.prog tb qi.sound qc1:=qm ZV (qe qEU (qe qEV (qe qEW qw)))
end Su
end
section
namespace Su
open Go Go.Proofs Fly
set_option maxRecDepth 100000
theorem qEX (fu:Nat)  (x:(Bool×(Int×(Int×(Int×Bool))))) (mode:Int) (odd:Bool) (half:Bool) (rest:Bool):qu tb qc1 (shN tb qc1 fu 9) fu 237 ((dc qh0 (dc (cI .u8) (dc cB (dc cB (d1 cB))))).enc (x,mode,odd,half,rest)) ((d1 cB)).dec=rUp x mode odd half rest:=by kernel_rfl
noncomputable def qBN:PrimD:=prim (dc qh0 (dc (cI .u8) (dc cB (dc cB (d1 cB))))) (d1 cB) (qBf)
theorem qGw:Ok1 Tryz.prog tb qi.sound 237 qBN:=qh qx qc2 (by kernel_rfl) fun a y hg h=>⟨0,9,0,(qEX 0 a.1 a.2.1 a.2.2.1 a.2.2.2.1 a.2.2.2.2).trans (qDv a y hg h)⟩
theorem qvv (fu:Nat)  (x:(Bool×(Int×(Int×(Int×Bool))))) (mode:Int):qu tb qc1 (shN tb qc1 fu 9) fu 238 ((dc qh0 (d1 (cI .u8))).enc (x,mode)) ((dc (cI .u64) (d1 (cI .u8)))).dec=qs8 x mode:=by kernel_rfl
noncomputable def qoM:PrimD:=prim (dc qh0 (d1 (cI .u8))) (dc (cI .u64) (d1 (cI .u8))) (qnQ)
theorem qzX:Ok1 Tryz.prog tb qi.sound 238 qoM:=qh qx qc2 (by kernel_rfl) fun a y hg h=>⟨0,9,0,(qvv 0 a.1 a.2).trans (qs9 a y hg h)⟩
noncomputable def qiM:qy:=qM [(237,qBN),(238,qoM)] qc1
theorem qg7:qn Tryz.prog tb qi.sound qiM:=qm qc2 (qe qGw (qe qzX qw))
end Su
end
section
namespace Su
open Go Go.Proofs Fly
set_option maxRecDepth 100000
theorem qqp (fu:Nat)  (x:(Bool×(Int×(Int×(Int×Bool))))) (mode:Int):qu tb qiM (shN tb qiM fu 9) fu 226 ((dc qh0 (d1 (cI .u8))).enc (x,mode)) ((dc (cI .u64) (d1 (cI .u8)))).dec=qme x mode:=by kernel_rfl
noncomputable def qk6:PrimD:=prim (dc qh0 (d1 (cI .u8))) (dc (cI .u64) (d1 (cI .u8))) (JR)
theorem qvw:Ok1 Tryz.prog tb qi.sound 226 qk6:=qh qx qg7 (by kernel_rfl) fun a y hg h=>⟨0,9,0,(qqp 0 a.1 a.2).trans (qpQ a y hg h)⟩
noncomputable def Zl:qy:=qM [(226,qk6)] qiM
theorem ZW:qn Tryz.prog tb qi.sound Zl:=qm qg7 (qe qvw qw)
end Su
end
section
namespace Su
open Go Go.Proofs Fly
set_option maxRecDepth 100000
theorem qqq (fu:Nat)  (neg:Bool) (m:(Int×Int)) (e:Int) (rest:Bool) (mode:Int):qu tb Zl (shN tb Zl fu 9) fu 208 ((dc cB (dc cW (dc (cI .i64) (dc cB (d1 (cI .u8)))))).enc (neg,m,e,rest,mode)) ((dc (cI .u64) (d1 (cI .u8)))).dec=qmf neg m e rest mode:=by kernel_rfl
noncomputable def qk7:PrimD:=prim (dc cB (dc cW (dc (cI .i64) (dc cB (d1 (cI .u8)))))) (dc (cI .u64) (d1 (cI .u8))) (qkv)
theorem qvx:Ok1 Tryz.prog tb qi.sound 208 qk7:=qh qx ZW (by kernel_rfl) fun a y hg h=>⟨0,9,0,(qqq 0 a.1 a.2.1 a.2.2.1 a.2.2.2.1 a.2.2.2.2).trans (qpR a y hg h)⟩
theorem qEY (fu:Nat)  (f:Int):qu tb Zl (shN tb Zl fu 9) fu 201 ((d1 (cI .u64)).enc (f)) ((d1 qpF)).dec=sOf f:=by kernel_rfl
noncomputable def qBO:PrimD:=prim (d1 (cI .u64)) (d1 qpF) (fun a=>sOf a)
theorem qGx:Ok1 Tryz.prog tb qi.sound 201 qBO:=qh qx ZW (by kernel_rfl) fun a y hg h=>⟨0,9,0,(qEY 0 a).trans h⟩
theorem qvy (fu:Nat)  (neg:Bool):qu tb Zl (shN tb Zl fu 9) fu 205 ((d1 cB).enc (neg)) ((d1 (cI .u64))).dec=qBg neg:=by kernel_rfl
noncomputable def qoN:PrimD:=prim (d1 cB) (d1 (cI .u64)) (fun a=>qBg a)
theorem qzY:Ok1 Tryz.prog tb qi.sound 205 qoN:=qh qx ZW (by kernel_rfl) fun a y hg h=>⟨0,9,0,(qvy 0 a).trans h⟩
noncomputable def qiN:qy:=qM [(208,qk7),(201,qBO),(205,qoN)] Zl
theorem qg8:qn Tryz.prog tb qi.sound qiN:=qm ZW (qe qvx (qe qGx (qe qzY qw)))
end Su
end
section
namespace Su
open Go Go.Proofs Fly
set_option maxRecDepth 100000
theorem qvz (fu:Nat)  (x:(Int×(Int×(Bool×(Int×Int))))) (y:(Int×(Int×(Bool×(Int×Int))))) (mode:Int):qu tb qiN (shN tb qiN fu 9) fu 206 ((dc qpF (dc qpF (d1 (cI .u8)))).enc (x,y,mode)) ((dc (cI .u64) (d1 (cI .u8)))).dec=qbE x y mode:=by kernel_rfl
noncomputable def qoO:PrimD:=prim (dc qpF (dc qpF (d1 (cI .u8)))) (dc (cI .u64) (d1 (cI .u8))) (fun a=>qbE a.1 a.2.1 a.2.2)
theorem qzZ:Ok1 Tryz.prog tb qi.sound 206 qoO:=qh qx qg8 (by kernel_rfl) fun a y hg h=>⟨0,9,0,(qvz 0 a.1 a.2.1 a.2.2).trans h⟩
noncomputable def qc3:qy:=qM [(206,qoO)] qiN
theorem qc4:qn Tryz.prog tb qi.sound qc3:=qm qg8 (qe qzZ qw)
end Su
end
section
namespace Su
open Go Go.Proofs Fly
set_option maxRecDepth 100000
theorem qz0 (fu:Nat)  (a:Int) (b:Int) (mode:Int):qu tb qc3 (shN tb qc3 fu 9) fu 174 ((dc (cI .u64) (dc (cI .u64) (d1 (cI .u8)))).enc (a,b,mode)) ((dc (cI .u64) (d1 (cI .u8)))).dec=qpT a b mode:=by kernel_rfl
noncomputable def qvA:PrimD:=prim (dc (cI .u64) (dc (cI .u64) (d1 (cI .u8)))) (dc (cI .u64) (d1 (cI .u8))) (fun a=>qpT a.1 a.2.1 a.2.2)
theorem qEZ:Ok1 Tryz.prog tb qi.sound 174 qvA:=qh qx qc4 (by kernel_rfl) fun a y hg h=>⟨0,9,0,(qz0 0 a.1 a.2.1 a.2.2).trans h⟩
theorem qz1 (fu:Nat)  (a:Int) (b:Int) (mode:Int):qu tb qc3 (shN tb qc3 fu 9) fu 179 ((dc (cI .u64) (dc (cI .u64) (d1 (cI .u8)))).enc (a,b,mode)) ((dc (cI .u64) (d1 (cI .u8)))).dec=qtc a b mode:=by kernel_rfl
noncomputable def qvB:PrimD:=prim (dc (cI .u64) (dc (cI .u64) (d1 (cI .u8)))) (dc (cI .u64) (d1 (cI .u8))) (fun a=>qtc a.1 a.2.1 a.2.2)
theorem qE0:Ok1 Tryz.prog tb qi.sound 179 qvB:=qh qx qc4 (by kernel_rfl) fun a y hg h=>⟨0,9,0,(qz1 0 a.1 a.2.1 a.2.2).trans h⟩
noncomputable def Zm:qy:=qM [(174,qvA),(179,qvB)] qc3
theorem ZX:qn Tryz.prog tb qi.sound Zm:=qm qc4 (qe qEZ (qe qE0 qw))
end Su
end
section
namespace Su
open Go Go.Proofs Fly
set_option maxRecDepth 100000
theorem qz2 (fu:Nat)  (a:Int) (b:Int) (mode:Int):qu tb Zm (shN tb Zm fu 9) fu 114 ((dc (cI .u64) (dc (cI .u64) (d1 (cI .u8)))).enc (a,b,mode)) ((d1 (cI .u64))).dec=qDy a b mode:=by kernel_rfl
noncomputable def qvC:PrimD:=prim (dc (cI .u64) (dc (cI .u64) (d1 (cI .u8)))) (d1 (cI .u64)) (qti)
theorem qE1:Ok1 Tryz.prog tb qi.sound 114 qvC:=qh qx ZX (by kernel_rfl) fun a y hg h=>⟨0,9,0,(qz2 0 a.1 a.2.1 a.2.2).trans (qyh a y hg h)⟩
theorem qz3 (fu:Nat)  (a:Int) (b:Int) (mode:Int):qu tb Zm (shN tb Zm fu 9) fu 121 ((dc (cI .u64) (dc (cI .u64) (d1 (cI .u8)))).enc (a,b,mode)) ((d1 (cI .u64))).dec=qDz a b mode:=by kernel_rfl
noncomputable def qvD:PrimD:=prim (dc (cI .u64) (dc (cI .u64) (d1 (cI .u8)))) (d1 (cI .u64)) (qtj)
theorem qE2:Ok1 Tryz.prog tb qi.sound 121 qvD:=qh qx ZX (by kernel_rfl) fun a y hg h=>⟨0,9,0,(qz3 0 a.1 a.2.1 a.2.2).trans (qyi a y hg h)⟩
theorem qE3 (fu:Nat) (l:(List Int)):qu tb Zm (shN tb Zm fu 9) fu 112 ((d1 (cQ 2 1)).enc (l)) ((d1 (cI .u64))).dec=aUp fu l:=by kernel_rfl
noncomputable def qBP:PrimD:=prim (d1 (cQ 2 1)) (d1 (cI .u64)) (qBi)
theorem qGy:Ok1 Tryz.prog tb qi.sound 112 qBP:=qh qx ZX (by kernel_rfl) fun a y hg h=>by
 obtain ⟨n,hn⟩:=qDA a y hg h
 exact ⟨n,9,n,(qE3 n a).trans hn⟩
noncomputable def qaP:qy:=qM [(114,qvC),(121,qvD),(112,qBP)] Zm
theorem ZY:qn Tryz.prog tb qi.sound qaP:=qm ZX (qe qE1 (qe qE2 (qe qGy qw)))
end Su
end
section
namespace Su
open Go Go.Proofs Fly
set_option maxRecDepth 100000
theorem qz4 (fu:Nat) (l:(List Su.Tm)) (u:Unit):qnn tb qaP fu 9 175 (0,103) ((dc qh2 (d1 (cF 176))).enc (l,u)) ((d1 qav)).dec=qDB fu l u:=by kernel_rfl
theorem qvE (fu:Nat) (l:(List Su.Tm)) (u:Unit):qu tb qaP (shN tb qaP fu 9) fu 175 ((dc qav (d1 (cF 176))).enc (l,u)) ((d1 qav)).dec=qtl fu l u:=by kernel_rfl
theorem qvF (fu:Nat) (l:(List Su.Tm)) (u:Unit):qu tb qaP (shN tb qaP fu 9) fu 177 ((dc qav (d1 (cF 178))).enc (l,u)) ((d1 cB)).dec=qtm fu l u:=by kernel_rfl
noncomputable def qoP:PrimD:=prim (dc qav (d1 (cF 178))) (d1 cB) (qnV)
theorem qz5:Ok1 Tryz.prog tb qi.sound 177 qoP:=qh qx ZY (by kernel_rfl) fun a y hg h=>by
 obtain ⟨n,hn⟩:=qtn a y hg h
 exact ⟨n,9,n,(qvF n a.1 a.2).trans hn⟩
theorem qz6:Ok1 Tryz.prog tb qi.sound 175 (qgq (0,103) (dc qh2 (d1 (cF 176))) (d1 qav) (qmj)):=qj0 qx ZY (by kernel_rfl) (exc qA7 (ex1 (exFn 176))) qFX fun a y hg h=>by
 obtain ⟨n,hn⟩:=qym a y hg h
 exact ⟨n,9,(qz4 n a.1 a.2).trans hn⟩
noncomputable def qvG:PrimD:=qlW (0,103) (dc qh2 (d1 (cF 176))) (d1 qav) (qmj) (dc qav (d1 (cF 176))) qnW
theorem qE4:Ok1 Tryz.prog tb qi.sound 175 qvG:=qgr qx ZY qz6 fun a y hg h=>by
 obtain ⟨n,hn⟩:=qto a y hg h
 exact ⟨n,9,n,(qvE n a.1 a.2).trans hn⟩
noncomputable def qaQ:qy:=qM [(175,qvG),(177,qoP)] qaP
theorem ZZ:qn Tryz.prog tb qi.sound qaQ:=qm ZY (qe qE4 (qe qz5 qw))
end Su
end
section
namespace Su
open Go Go.Proofs Fly
set_option maxRecDepth 100000
theorem qvH (fu:Nat)  (a:(Bool×(Int×((List Su.Tm)×Int)))):qnn tb qaQ fu 9 117 (2,103) ((d1 qgs).enc (a)) ((d1 yc)).dec=qtp a:=by kernel_rfl
theorem qqr (fu:Nat)  (a:(Bool×(Int×((List Su.Tm)×Int)))):qu tb qaQ (shN tb qaQ fu 9) fu 117 ((d1 yc).enc (a)) ((d1 yc)).dec=qml a:=by kernel_rfl
theorem qz7 (fu:Nat) (a:(Bool×(Int×((List Su.Tm)×Int)))):qu tb qaQ (shN tb qaQ fu 9) fu 39 ((d1 yc).enc (a)) ((d1 cB)).dec=qDC fu a:=by kernel_rfl
noncomputable def qvI:PrimD:=prim (d1 yc) (d1 cB) (qtr)
theorem qE5:Ok1 Tryz.prog tb qi.sound 39 qvI:=qh qx ZZ (by kernel_rfl) fun a y hg h=>by
 obtain ⟨n,hn⟩:=qyo a y hg h
 exact ⟨n,9,n,(qz7 n a).trans hn⟩
theorem qvJ:Ok1 Tryz.prog tb qi.sound 117 (qgq (2,103) (d1 qgs) (d1 yc) (qip)):=qj0 qx ZZ (by kernel_rfl) exF4 hnA fun a y hg h=>⟨0,9,(qvH 0 a).trans (qtq a y hg h)⟩
noncomputable def qoQ:PrimD:=qlW (2,103) (d1 qgs) (d1 yc) (qip) (d1 yc) qky
theorem qz8:Ok1 Tryz.prog tb qi.sound 117 qoQ:=qgr qx ZZ qvJ fun a y hg h=>⟨0,9,0,(qqr 0 a).trans (qpV a y hg h)⟩
noncomputable def qiO:qy:=qM [(117,qoQ),(39,qvI)] qaQ
theorem qg9:qn Tryz.prog tb qi.sound qiO:=qm ZZ (qe qz8 (qe qE5 qw))
end Su
end
section
namespace Su
open Go Go.Proofs Fly
set_option maxRecDepth 100000
theorem qqs (fu:Nat) (l:(List (Bool×(Int×((List Su.Tm)×Int))))):qu tb qiO (shN tb qiO fu 9) fu 110 ((d1 qCL).enc (l)) ((d1 cB)).dec=qmm fu l:=by kernel_rfl
noncomputable def qk8:PrimD:=prim (d1 qCL) (d1 cB) (qkz)
theorem qvK:Ok1 Tryz.prog tb qi.sound 110 qk8:=qh qx qg9 (by kernel_rfl) fun a y hg h=>by
 obtain ⟨n,hn⟩:=qpW a y hg h
 exact ⟨n,9,n,(qqs n a).trans hn⟩
noncomputable def qc5:qy:=qM [(110,qk8)] qiO
theorem qc6:qn Tryz.prog tb qi.sound qc5:=qm qg9 (qe qvK qw)
end Su
end
section
namespace Su
open Go Go.Proofs Fly
set_option maxRecDepth 100000
theorem qz9 (fu:Nat) (a:(Bool×(Int×((List Su.Tm)×Int)))):qu tb qc5 (shN tb qc5 fu 9) fu 47 ((d1 yc).enc (a)) ((d1 yc)).dec=qDE fu a:=by kernel_rfl
noncomputable def qvL:PrimD:=prim (d1 yc) (d1 yc) (qtv)
theorem qE6:Ok1 Tryz.prog tb qi.sound 47 qvL:=qh qx qc6 (by kernel_rfl) fun a y hg h=>by
 obtain ⟨n,hn⟩:=qyp a y hg h
 exact ⟨n,9,n,(qz9 n a).trans hn⟩
theorem qqt (fu:Nat)  (f:Int):qu tb qc5 (shN tb qc5 fu 9) fu 81 ((d1 (cI .u64)).enc (f)) ((d1 yc)).dec=qtt f:=by kernel_rfl
noncomputable def qk9:PrimD:=prim (d1 (cI .u64)) (d1 yc) (qkA)
theorem qvM:Ok1 Tryz.prog tb qi.sound 81 qk9:=qh qx qc6 (by kernel_rfl) fun a y hg h=>⟨0,9,0,(qqt 0 a).trans (qpX a y hg h)⟩
noncomputable def qvN:qy:=qM [(47,qvL),(81,qk9)] qc5
theorem qqu:qn Tryz.prog tb qi.sound qvN:=qm qc6 (qe qE6 (qe qvM qw))
end Su
end
section
namespace Su
open Go Go.Proofs Fly
set_option maxRecDepth 100000
noncomputable def qeb:qy:=qM [] qvN
theorem qfx:qn Tryz.prog tb qi.sound qeb:=qm qqu qw
end Su
end
section
namespace Su
open Go Go.Proofs Fly
set_option maxRecDepth 100000
theorem qAa (fu:Nat)  (a:Int) (b:Int):qu tb qeb (shN tb qeb fu 9) fu 129 ((dc (cI .u64) (d1 (cI .u64))).enc (a,b)) ((d1 cB)).dec=qDG a b:=by kernel_rfl
noncomputable def qvO:PrimD:=prim (dc (cI .u64) (d1 (cI .u64))) (d1 cB) (qtw)
theorem qE7:Ok1 Tryz.prog tb qi.sound 129 qvO:=qh qx qfx (by kernel_rfl) fun a y hg h=>⟨0,9,0,(qAa 0 a.1 a.2).trans (qyq a y hg h)⟩
noncomputable def qiP:qy:=qM [(129,qvO)] qeb
theorem qha:qn Tryz.prog tb qi.sound qiP:=qm qfx (qe qE7 qw)
end Su
end
section
namespace Su
open Go Go.Proofs Fly
set_option maxRecDepth 100000
theorem qqv (fu:Nat) (s:(Bool×(Int×Int))):qu tb qiP (shN tb qiP fu 9) fu 128 ((d1 yC).enc (s)) ((d1 yC)).dec=qmn fu s:=by kernel_rfl
noncomputable def qla:PrimD:=prim (d1 yC) (d1 yC) (qkC)
theorem qvP:Ok1 Tryz.prog tb qi.sound 128 qla:=qh qx qha (by kernel_rfl) fun a y hg h=>by
 obtain ⟨n,hn⟩:=qpY a y hg h
 exact ⟨n,9,n,(qqv n a).trans hn⟩
noncomputable def qiQ:qy:=qM [(128,qla)] qiP
theorem qhb:qn Tryz.prog tb qi.sound qiQ:=qm qha (qe qvP qw)
end Su
end
section
namespace Su
open Go Go.Proofs Fly
set_option maxRecDepth 100000
theorem qAb (fu:Nat) (a:(Bool×(Int×((List Su.Tm)×Int)))):qu tb qiQ (shN tb qiQ fu 9) fu 104 ((d1 yc).enc (a)) ((d1 (cI .u64))).dec=qDH fu a:=by kernel_rfl
noncomputable def qvQ:PrimD:=prim (d1 yc) (d1 (cI .u64)) (qcG)
theorem qE8:Ok1 Tryz.prog tb qi.sound 104 qvQ:=qh qx qhb (by kernel_rfl) fun a y hg h=>by
 obtain ⟨n,hn⟩:=qyt a y hg h
 exact ⟨n,9,n,(qAb n a).trans hn⟩
noncomputable def qc7:qy:=qM [(104,qvQ)] qiQ
theorem qc8:qn Tryz.prog tb qi.sound qc7:=qm qhb (qe qE8 qw)
end Su
end
section
namespace Su
open Go Go.Proofs Fly
set_option maxRecDepth 100000
theorem qvR (fu:Nat)  (a:(Bool×(Int×((List Su.Tm)×Int)))):qu tb qc7 (shN tb qc7 fu 9) fu 120 ((d1 yc).enc (a)) ((d1 (cI .u64))).dec=qty a:=by kernel_rfl
noncomputable def qoR:PrimD:=prim (d1 yc) (d1 (cI .u64)) (qnX)
theorem qAc:Ok1 Tryz.prog tb qi.sound 120 qoR:=qh qx qc8 (by kernel_rfl) fun a y hg h=>⟨0,9,0,(qvR 0 a).trans (qtz a y hg h)⟩
theorem qAd (fu:Nat)  (a:Int) (b:Int):qu tb qc7 (shN tb qc7 fu 9) fu 126 ((dc (cI .u64) (d1 (cI .u64))).enc (a,b)) ((d1 (cI .u64))).dec=aMid a b:=by kernel_rfl
noncomputable def qvS:PrimD:=prim (dc (cI .u64) (d1 (cI .u64))) (d1 (cI .u64)) (qtA)
theorem qE9:Ok1 Tryz.prog tb qi.sound 126 qvS:=qh qx qc8 (by kernel_rfl) fun a y hg h=>⟨0,9,0,(qAd 0 a.1 a.2).trans (qyu a y hg h)⟩
noncomputable def qiR:qy:=qM [(120,qoR),(126,qvS)] qc7
theorem qhc:qn Tryz.prog tb qi.sound qiR:=qm qc8 (qe qAc (qe qE9 qw))
end Su
end
section
namespace Su
open Go Go.Proofs Fly
set_option maxRecDepth 100000
theorem qvT (fu:Nat)  (a:(Bool×(Int×((List Su.Tm)×Int)))):qu tb qiR (shN tb qiR fu 9) fu 50 ((d1 yc).enc (a)) ((d1 yC)).dec=qtB a:=by kernel_rfl
noncomputable def qoS:PrimD:=prim (d1 yc) (d1 yC) (ZN)
theorem qAe:Ok1 Tryz.prog tb qi.sound 50 qoS:=qh qx qhc (by kernel_rfl) fun a y hg h=>⟨0,9,0,(qvT 0 a).trans (qtC a y hg h)⟩
noncomputable def qiS:qy:=qM [(50,qoS)] qiR
theorem qhd:qn Tryz.prog tb qi.sound qiS:=qm qhc (qe qAe qw)
end Su
end
section
namespace Su
open Go Go.Proofs Fly
set_option maxRecDepth 100000
theorem qvU (fu:Nat)  (s:(Bool×(Int×Int))):qu tb qiS (shN tb qiS fu 9) fu 141 ((d1 cIn).enc (s)) ((d1 cIn)).dec=qtE s:=by kernel_rfl
noncomputable def qoT:PrimD:=prim (d1 cIn) (d1 cIn) (qnY)
theorem qAf:Ok1 Tryz.prog tb qi.sound 141 qoT:=qh qx qhd (by kernel_rfl) fun a y hg h=>⟨0,9,0,(qvU 0 a).trans (qtF a y hg h)⟩
noncomputable def jP:qy:=qM [(141,qoT)] qiS
theorem jY:qn Tryz.prog tb qi.sound jP:=qm qhd (qe qAf qw)
end Su
end
section
namespace Su
open Go Go.Proofs Fly
set_option maxRecDepth 100000
theorem qvV (fu:Nat)  (lo:Int) (hi:Int):qu tb jP (shN tb jP fu 9) fu 60 ((dc (cI .i64) (d1 (cI .i64))).enc (lo,hi)) ((d1 cIn)).dec=qBl lo hi:=by kernel_rfl
noncomputable def qoU:PrimD:=prim (dc (cI .i64) (d1 (cI .i64))) (d1 cIn) (qnZ)
theorem qAg:Ok1 Tryz.prog tb qi.sound 60 qoU:=qh qx jY (by kernel_rfl) fun a y hg h=>⟨0,9,0,(qvV 0 a.1 a.2).trans (qtI a y hg h)⟩
theorem qAh (fu:Nat)  (s:(Bool×(Int×Int))) (n:Int):qu tb jP (shN tb jP fu 9) fu 75 ((dc cIn (d1 (cI .i64))).enc (s,n)) ((d1 cB)).dec=qDI s n:=by kernel_rfl
noncomputable def qvW:PrimD:=prim (dc cIn (d1 (cI .i64))) (d1 cB) (qtJ)
theorem qFa:Ok1 Tryz.prog tb qi.sound 75 qvW:=qh qx jY (by kernel_rfl) fun a y hg h=>⟨0,9,0,(qAh 0 a.1 a.2).trans (qyv a y hg h)⟩
theorem qAi (fu:Nat)  (a:(Bool×(Int×Int))) (b:(Bool×(Int×Int))):qu tb jP (shN tb jP fu 9) fu 74 ((dc cIn (d1 cIn)).enc (a,b)) ((d1 cB)).dec=qDJ a b:=by kernel_rfl
noncomputable def qvX:PrimD:=prim (dc cIn (d1 cIn)) (d1 cB) (qtK)
theorem qFb:Ok1 Tryz.prog tb qi.sound 74 qvX:=qh qx jY (by kernel_rfl) fun a y hg h=>⟨0,9,0,(qAi 0 a.1 a.2).trans (qyw a y hg h)⟩
theorem qvY (fu:Nat) (l:(List (Bool×(Int×Int)))):qu tb jP (shN tb jP fu 9) fu 87 ((d1 (cL rIn)).enc (l)) ((d1 cIn)).dec=qtG fu l:=by kernel_rfl
noncomputable def qoV:PrimD:=prim (d1 (cL rIn)) (d1 cIn) (qn1)
theorem qAj:Ok1 Tryz.prog tb qi.sound 87 qoV:=qh qx jY (by kernel_rfl) fun a y hg h=>by
 obtain ⟨n,hn⟩:=qtL a y hg h
 exact ⟨n,9,n,(qvY n a).trans hn⟩
theorem qAk (fu:Nat)  (a:(Bool×(Int×Int))):qu tb jP (shN tb jP fu 9) fu 196 ((d1 cIn).enc (a)) ((d1 cIn)).dec=qDK a:=by kernel_rfl
noncomputable def qvZ:PrimD:=prim (d1 cIn) (d1 cIn) (qtM)
theorem qFc:Ok1 Tryz.prog tb qi.sound 196 qvZ:=qh qx jY (by kernel_rfl) fun a y hg h=>⟨0,9,0,(qAk 0 a).trans (qyz a y hg h)⟩
theorem qv0 (fu:Nat)  (a:(Bool×(Int×Int))) (b:(Bool×(Int×Int))):qu tb jP (shN tb jP fu 9) fu 164 ((dc cIn (d1 cIn)).enc (a,b)) ((d1 cIn)).dec=qtH a b:=by kernel_rfl
noncomputable def qoW:PrimD:=prim (dc cIn (d1 cIn)) (d1 cIn) (qn2)
theorem qAl:Ok1 Tryz.prog tb qi.sound 164 qoW:=qh qx jY (by kernel_rfl) fun a y hg h=>⟨0,9,0,(qv0 0 a.1 a.2).trans (qtN a y hg h)⟩
theorem qAm (fu:Nat)  (x:Int) (y:Int):qu tb jP (shN tb jP fu 9) fu 167 ((dc (cI .i64) (d1 (cI .i64))).enc (x,y)) ((d1 (cI .i64))).dec=qDL x y:=by kernel_rfl
noncomputable def qv1:PrimD:=prim (dc (cI .i64) (d1 (cI .i64))) (d1 (cI .i64)) (qtO)
theorem qFd:Ok1 Tryz.prog tb qi.sound 167 qv1:=qh qx jY (by kernel_rfl) fun a y hg h=>⟨0,9,0,(qAm 0 a.1 a.2).trans (qyA a y hg h)⟩
theorem qv2 (fu:Nat)  (lo:Int) (hi:Int):qu tb jP (shN tb jP fu 9) fu 166 ((dc (cI .i64) (d1 (cI .i64))).enc (lo,hi)) ((d1 cIn)).dec=qBm lo hi:=by kernel_rfl
noncomputable def qoX:PrimD:=prim (dc (cI .i64) (d1 (cI .i64))) (d1 cIn) (qn3)
theorem qAn:Ok1 Tryz.prog tb qi.sound 166 qoX:=qh qx jY (by kernel_rfl) fun a y hg h=>⟨0,9,0,(qv2 0 a.1 a.2).trans (qtP a y hg h)⟩
noncomputable def qiT:qy:=qM [(60,qoU),(75,qvW),(74,qvX),(87,qoV),(196,qvZ),(164,qoW),(167,qv1),(166,qoX)] jP
theorem qhe:qn Tryz.prog tb qi.sound qiT:=qm jY (qe qAg (qe qFa (qe qFb (qe qAj (qe qFc (qe qAl (qe qFd (qe qAn qw))))))))
end Su
end
section
namespace Su
open Go Go.Proofs Fly
set_option maxRecDepth 100000
theorem qAo (fu:Nat)  (a:(Bool×(Int×Int))) (b:(Bool×(Int×Int))):qu tb qiT (shN tb qiT fu 9) fu 103 ((dc cIn (d1 cIn)).enc (a,b)) ((d1 cIn)).dec=qDM a b:=by kernel_rfl
noncomputable def qv3:PrimD:=prim (dc cIn (d1 cIn)) (d1 cIn) (qtQ)
theorem qFe:Ok1 Tryz.prog tb qi.sound 103 qv3:=qh qx qhe (by kernel_rfl) fun a y hg h=>⟨0,9,0,(qAo 0 a.1 a.2).trans (qyB a y hg h)⟩
noncomputable def Zn:qy:=qM [(103,qv3)] qiT
theorem Z0:qn Tryz.prog tb qi.sound Zn:=qm qhe (qe qFe qw)
end Su
end
section
namespace Su
open Go Go.Proofs Fly
set_option maxRecDepth 100000
theorem qAp (fu:Nat)  (a:(Bool×(Int×Int))) (b:(Bool×(Int×Int))):qu tb Zn (shN tb Zn fu 9) fu 156 ((dc cIn (d1 cIn)).enc (a,b)) ((d1 cIn)).dec=iSub a b:=by kernel_rfl
noncomputable def qv4:PrimD:=prim (dc cIn (d1 cIn)) (d1 cIn) (qtS)
theorem qFf:Ok1 Tryz.prog tb qi.sound 156 qv4:=qh qx Z0 (by kernel_rfl) fun a y hg h=>⟨0,9,0,(qAp 0 a.1 a.2).trans (qyD a y hg h)⟩
theorem qFg (fu:Nat)  (n:Int):qu tb Zn (shN tb Zn fu 9) fu 28 ((d1 (cI .i64)).enc (n)) ((d1 cIn)).dec=iPt n:=by kernel_rfl
noncomputable def qBQ:PrimD:=prim (d1 (cI .i64)) (d1 cIn) (qBn)
theorem qGz:Ok1 Tryz.prog tb qi.sound 28 qBQ:=qh qx Z0 (by kernel_rfl) fun a y hg h=>⟨0,9,0,(qFg 0 a).trans (qDN a y hg h)⟩
theorem qv5 (fu:Nat)  (c:((Bool×(Int×Int))×(Bool×(Int×Int)))):qu tb Zn (shN tb Zn fu 9) fu 155 ((d1 jE).enc (c)) ((d1 jE)).dec=qtR c:=by kernel_rfl
noncomputable def qoY:PrimD:=prim (d1 jE) (d1 jE) (qn4)
theorem qAq:Ok1 Tryz.prog tb qi.sound 155 qoY:=qh qx Z0 (by kernel_rfl) fun a y hg h=>⟨0,9,0,(qv5 0 a).trans (qtT a y hg h)⟩
noncomputable def j8:qy:=qM [(156,qv4),(28,qBQ),(155,qoY)] Zn
theorem ym:qn Tryz.prog tb qi.sound j8:=qm Z0 (qe qFf (qe qGz (qe qAq qw)))
end Su
end
section
namespace Su
open Go Go.Proofs Fly
set_option maxRecDepth 100000
theorem qFh (fu:Nat)  (v:(Bool×(Int×Int))) (k:(Bool×(Int×Int))):qu tb j8 (shN tb j8 fu 9) fu 79 ((dc cIn (d1 cIn)).enc (v,k)) ((d1 jE)).dec=kOf v k:=by kernel_rfl
noncomputable def qBR:PrimD:=prim (dc cIn (d1 cIn)) (d1 jE) (qBp)
theorem qGA:Ok1 Tryz.prog tb qi.sound 79 qBR:=qh qx ym (by kernel_rfl) fun a y hg h=>⟨0,9,0,(qFh 0 a.1 a.2).trans (qDP a y hg h)⟩
theorem qv6 (fu:Nat)  (c:((Bool×(Int×Int))×(Bool×(Int×Int)))):qu tb j8 (shN tb j8 fu 9) fu 102 ((d1 jE).enc (c)) ((d1 jE)).dec=qBo c:=by kernel_rfl
noncomputable def qoZ:PrimD:=prim (d1 jE) (d1 jE) (qn5)
theorem qAr:Ok1 Tryz.prog tb qi.sound 102 qoZ:=qh qx ym (by kernel_rfl) fun a y hg h=>⟨0,9,0,(qv6 0 a).trans (qtU a y hg h)⟩
theorem qAs (fu:Nat)  (v:(Bool×(Int×Int))) (c:((Bool×(Int×Int))×(Bool×(Int×Int)))) (k:(Bool×(Int×Int))):qu tb j8 (shN tb j8 fu 9) fu 97 ((dc cIn (dc jE (d1 cIn))).enc (v,c,k)) ((d1 cIn)).dec=kRed v c k:=by kernel_rfl
noncomputable def qv7:PrimD:=prim (dc cIn (dc jE (d1 cIn))) (d1 cIn) (qtV)
theorem qFi:Ok1 Tryz.prog tb qi.sound 97 qv7:=qh qx ym (by kernel_rfl) fun a y hg h=>⟨0,9,0,(qAs 0 a.1 a.2.1 a.2.2).trans (qyE a y hg h)⟩
theorem qFj (fu:Nat)  (a:((Bool×(Int×Int))×(Bool×(Int×Int)))) (b:((Bool×(Int×Int))×(Bool×(Int×Int)))):qu tb j8 (shN tb j8 fu 9) fu 165 ((dc jE (d1 jE)).enc (a,b)) ((d1 jE)).dec=kMt a b:=by kernel_rfl
noncomputable def qBS:PrimD:=prim (dc jE (d1 jE)) (d1 jE) (qBq)
theorem qGB:Ok1 Tryz.prog tb qi.sound 165 qBS:=qh qx ym (by kernel_rfl) fun a y hg h=>⟨0,9,0,(qFj 0 a.1 a.2).trans (qDQ a y hg h)⟩
theorem qFk (fu:Nat)  (a:((Bool×(Int×Int))×(Bool×(Int×Int)))) (b:((Bool×(Int×Int))×(Bool×(Int×Int)))):qu tb j8 (shN tb j8 fu 9) fu 90 ((dc jE (d1 jE)).enc (a,b)) ((d1 jE)).dec=kJn a b:=by kernel_rfl
noncomputable def qBT:PrimD:=prim (dc jE (d1 jE)) (d1 jE) (qBr)
theorem qGC:Ok1 Tryz.prog tb qi.sound 90 qBT:=qh qx ym (by kernel_rfl) fun a y hg h=>⟨0,9,0,(qFk 0 a.1 a.2).trans (qDR a y hg h)⟩
theorem qFl (fu:Nat)  (a:((Bool×(Int×Int))×(Bool×(Int×Int)))) (b:((Bool×(Int×Int))×(Bool×(Int×Int)))):qu tb j8 (shN tb j8 fu 9) fu 153 ((dc jE (d1 jE)).enc (a,b)) ((d1 cB)).dec=kIn a b:=by kernel_rfl
noncomputable def qBU:PrimD:=prim (dc jE (d1 jE)) (d1 cB) (qBs)
theorem qGD:Ok1 Tryz.prog tb qi.sound 153 qBU:=qh qx ym (by kernel_rfl) fun a y hg h=>⟨0,9,0,(qFl 0 a.1 a.2).trans (qDS a y hg h)⟩
theorem qAt (fu:Nat)  (c:((Bool×(Int×Int))×(Bool×(Int×Int)))) (v:Int) (k:Int):qu tb j8 (shN tb j8 fu 9) fu 154 ((dc jE (dc (cI .i64) (d1 (cI .i64)))).enc (c,v,k)) ((d1 cB)).dec=qDO c v k:=by kernel_rfl
noncomputable def qv8:PrimD:=prim (dc jE (dc (cI .i64) (d1 (cI .i64)))) (d1 cB) (qtW)
theorem qFm:Ok1 Tryz.prog tb qi.sound 154 qv8:=qh qx ym (by kernel_rfl) fun a y hg h=>⟨0,9,0,(qAt 0 a.1 a.2.1 a.2.2).trans (qyF a y hg h)⟩
noncomputable def yB:qy:=qM [(79,qBR),(102,qoZ),(97,qv7),(165,qBS),(90,qBT),(153,qBU),(154,qv8)] j8
theorem yV:qn Tryz.prog tb qi.sound yB:=qm ym (qe qGA (qe qAr (qe qFi (qe qGB (qe qGC (qe qGD (qe qFm qw)))))))
end Su
end
section
namespace Su
open Go Go.Proofs Fly
set_option maxRecDepth 100000
theorem qv9 (fu:Nat)  (lo:Int) (hi:Int):qu tb yB (shN tb yB fu 9) fu 95 ((dc (cI .u64) (d1 (cI .u64))).enc (lo,hi)) ((d1 yC)).dec=qBt lo hi:=by kernel_rfl
noncomputable def qo0:PrimD:=prim (dc (cI .u64) (d1 (cI .u64))) (d1 yC) (qn8)
theorem qAu:Ok1 Tryz.prog tb qi.sound 95 qo0:=qh qx yV (by kernel_rfl) fun a y hg h=>⟨0,9,0,(qv9 0 a.1 a.2).trans (qt1 a y hg h)⟩
theorem qFn (fu:Nat)  (a:(Bool×(Int×Int))) (b:(Bool×(Int×Int))):qu tb yB (shN tb yB fu 9) fu 52 ((dc yC (d1 yC)).enc (a,b)) ((d1 cB)).dec=zIn a b:=by kernel_rfl
noncomputable def qBV:PrimD:=prim (dc yC (d1 yC)) (d1 cB) (qBu)
theorem qGE:Ok1 Tryz.prog tb qi.sound 52 qBV:=qh qx yV (by kernel_rfl) fun a y hg h=>⟨0,9,0,(qFn 0 a.1 a.2).trans (qDV a y hg h)⟩
theorem qAv (fu:Nat)  (s:(Bool×(Int×Int))) (f:Int):qu tb yB (shN tb yB fu 9) fu 57 ((dc yC (d1 (cI .u64))).enc (s,f)) ((d1 cB)).dec=qDU s f:=by kernel_rfl
noncomputable def qwa:PrimD:=prim (dc yC (d1 (cI .u64))) (d1 cB) (qt2)
theorem qFo:Ok1 Tryz.prog tb qi.sound 57 qwa:=qh qx yV (by kernel_rfl) fun a y hg h=>⟨0,9,0,(qAv 0 a.1 a.2).trans (qyG a y hg h)⟩
theorem qwb (fu:Nat)  (a:(Bool×(Int×Int))) (b:(Bool×(Int×Int))):qu tb yB (shN tb yB fu 9) fu 99 ((dc yC (d1 yC)).enc (a,b)) ((d1 yC)).dec=qtZ a b:=by kernel_rfl
noncomputable def qo1:PrimD:=prim (dc yC (d1 yC)) (d1 yC) (qn9)
theorem qAw:Ok1 Tryz.prog tb qi.sound 99 qo1:=qh qx yV (by kernel_rfl) fun a y hg h=>⟨0,9,0,(qwb 0 a.1 a.2).trans (qt3 a y hg h)⟩
theorem qwc (fu:Nat) (l:(List (Bool×(Int×Int)))):qu tb yB (shN tb yB fu 9) fu 91 ((d1 (cL rSp)).enc (l)) ((d1 yC)).dec=qt0 fu l:=by kernel_rfl
noncomputable def qo2:PrimD:=prim (d1 (cL rSp)) (d1 yC) (qob)
theorem qAx:Ok1 Tryz.prog tb qi.sound 91 qo2:=qh qx yV (by kernel_rfl) fun a y hg h=>by
 obtain ⟨n,hn⟩:=qt4 a y hg h
 exact ⟨n,9,n,(qwc n a).trans hn⟩
theorem qqw (fu:Nat) (l:(List Int)):qu tb yB (shN tb yB fu 9) fu 92 ((d1 (cQ 2 1)).enc (l)) ((d1 (cI .u64))).dec=qmq fu l:=by kernel_rfl
noncomputable def qlb:PrimD:=prim (d1 (cQ 2 1)) (d1 (cI .u64)) (qkH)
theorem qwd:Ok1 Tryz.prog tb qi.sound 92 qlb:=qh qx yV (by kernel_rfl) fun a y hg h=>by
 obtain ⟨n,hn⟩:=qp3 a y hg h
 exact ⟨n,9,n,(qqw n a).trans hn⟩
noncomputable def qc9:qy:=qM [(95,qo0),(52,qBV),(57,qwa),(99,qo1),(91,qo2),(92,qlb)] yB
theorem qda:qn Tryz.prog tb qi.sound qc9:=qm yV (qe qAu (qe qGE (qe qFo (qe qAw (qe qAx (qe qwd qw))))))
end Su
end
section
namespace Su
open Go Go.Proofs Fly
set_option maxRecDepth 100000
theorem qwe (fu:Nat)  (x:Su.Ce) (t:Int):qu tb qc9 (shN tb qc9 fu 9) fu 151 ((dc cCe (d1 (cI .u8))).enc (x,t)) ((d1 cCe)).dec=qt5 x t:=by kernel_rfl
noncomputable def qo3:PrimD:=prim (dc cCe (d1 (cI .u8))) (d1 cCe) (qoc)
theorem qAy:Ok1 Tryz.prog tb qi.sound 151 qo3:=qh qx qda (by kernel_rfl) fun a y hg h=>⟨0,9,0,(qwe 0 a.1 a.2).trans (qt7 a y hg h)⟩
theorem qwf (fu:Nat)  (x:Su.Ce) (t:Int):qu tb qc9 (shN tb qc9 fu 9) fu 152 ((dc cCe (d1 (cI .u8))).enc (x,t)) ((d1 cB)).dec=qt6 x t:=by kernel_rfl
noncomputable def qo4:PrimD:=prim (dc cCe (d1 (cI .u8))) (d1 cB) (qod)
theorem qAz:Ok1 Tryz.prog tb qi.sound 152 qo4:=qh qx qda (by kernel_rfl) fun a y hg h=>⟨0,9,0,(qwf 0 a.1 a.2).trans (qt8 a y hg h)⟩
noncomputable def qiU:qy:=qM [(151,qo3),(152,qo4)] qc9
theorem qhf:qn Tryz.prog tb qi.sound qiU:=qm qda (qe qAy (qe qAz qw))
end Su
end
section
namespace Su
open Go Go.Proofs Fly
set_option maxRecDepth 100000
theorem qwg (fu:Nat) (c:(Int×((List Su.Cc)×((List Su.T)×((List Su.T)×((List Su.T)×((List Su.T)×Int))))))) (l:(List (Bool×(Bool×(Int×(Int×(List Su.Ce))))))):qu tb qiU (shN tb qiU fu 9) fu 13 ((dc cCo (d1 (cL rSt))).enc (c,l)) ((d1 cB)).dec=qoe fu c l:=by kernel_rfl
noncomputable def qo5:PrimD:=prim (dc cCo (d1 (cL rSt))) (d1 cB) (qof)
theorem qAA:Ok1 Tryz.prog tb qi.sound 13 qo5:=qh qx qhf (by kernel_rfl) fun a y hg h=>by
 obtain ⟨n,hn⟩:=qua a y hg h
 exact ⟨n,9,n,(qwg n a.1 a.2).trans hn⟩
noncomputable def qiV:qy:=qM [(13,qo5)] qiU
theorem qhg:qn Tryz.prog tb qi.sound qiV:=qm qhf (qe qAA qw)
end Su
end
section
namespace Su
open Go Go.Proofs Fly
set_option maxRecDepth 100000
theorem qwh (fu:Nat) (c:(Int×((List Su.Cc)×((List Su.T)×((List Su.T)×((List Su.T)×((List Su.T)×Int))))))) (s:(Bool×(Bool×(Int×(Int×(List Su.Ce)))))) (row:(List Su.Pr)):qu tb qiV (shN tb qiV fu 9) fu 19 ((dc cCo (dc cSt (d1 (cL rPr)))).enc (c,s,row)) ((d1 cB)).dec=qoo fu c s row:=by kernel_rfl
noncomputable def qo6:PrimD:=prim (dc cCo (dc cSt (d1 (cL rPr)))) (d1 cB) (qop)
theorem qAB:Ok1 Tryz.prog tb qi.sound 19 qo6:=qh qx qhg (by kernel_rfl) fun a y hg h=>by
 obtain ⟨n,hn⟩:=quh a y hg h
 exact ⟨n,9,n,(qwh n a.1 a.2.1 a.2.2).trans hn⟩
noncomputable def qiW:qy:=qM [(19,qo6)] qiV
theorem qhh:qn Tryz.prog tb qi.sound qiW:=qm qhg (qe qAB qw)
end Su
end
section
namespace Su
open Go Go.Proofs Fly
set_option maxRecDepth 100000
theorem qwi (fu:Nat) (c:(Int×((List Su.Cc)×((List Su.T)×((List Su.T)×((List Su.T)×((List Su.T)×Int))))))) (s:(Bool×(Bool×(Int×(Int×(List Su.Ce)))))):qu tb qiW (shN tb qiW fu 9) fu 37 ((dc cCo (d1 cSt)).enc (c,s)) ((d1 cSt)).dec=qoq fu c s:=by kernel_rfl
noncomputable def qo7:PrimD:=prim (dc cCo (d1 cSt)) (d1 cSt) (qor)
theorem qAC:Ok1 Tryz.prog tb qi.sound 37 qo7:=qh qx qhh (by kernel_rfl) fun a y hg h=>by
 obtain ⟨n,hn⟩:=quk a y hg h
 exact ⟨n,9,n,(qwi n a.1 a.2).trans hn⟩
noncomputable def qiX:qy:=qM [(37,qo7)] qiW
theorem qhi:qn Tryz.prog tb qi.sound qiX:=qm qhh (qe qAC qw)
end Su
end
section
namespace Su
open Go Go.Proofs Fly
set_option maxRecDepth 100000
theorem qAD (fu:Nat) (c:(Int×((List Su.Cc)×((List Su.T)×((List Su.T)×((List Su.T)×((List Su.T)×Int))))))) (s:(Bool×(Bool×(Int×(Int×(List Su.Ce)))))):qu tb qiX (shN tb qiX fu 9) fu 34 ((dc cCo (d1 cSt)).enc (c,s)) ((d1 cSt)).dec=qyS fu c s:=by kernel_rfl
noncomputable def qwj:PrimD:=prim (dc cCo (d1 cSt)) (d1 cSt) (qul)
theorem qFp:Ok1 Tryz.prog tb qi.sound 34 qwj:=qh qx qhi (by kernel_rfl) fun a y hg h=>by
 obtain ⟨n,hn⟩:=qyU a y hg h
 exact ⟨n,9,n,(qAD n a.1 a.2).trans hn⟩
noncomputable def qiY:qy:=qM [(34,qwj)] qiX
theorem qhj:qn Tryz.prog tb qi.sound qiY:=qm qhi (qe qFp qw)
end Su
end
section
namespace Su
open Go Go.Proofs Fly
set_option maxRecDepth 100000
theorem qqx (fu:Nat) (c:(Int×((List Su.Cc)×((List Su.T)×((List Su.T)×((List Su.T)×((List Su.T)×Int))))))):qu tb qiY (shN tb qiY fu 9) fu 24 ((d1 cCo).enc (c)) ((d1 cSt)).dec=qmt fu c:=by kernel_rfl
noncomputable def qlc:PrimD:=prim (d1 cCo) (d1 cSt) (qbT)
theorem qwk:Ok1 Tryz.prog tb qi.sound 24 qlc:=qh qx qhj (by kernel_rfl) fun a y hg h=>by
 obtain ⟨n,hn⟩:=qp5 a y hg h
 exact ⟨n,9,n,(qqx n a).trans hn⟩
noncomputable def qiZ:qy:=qM [(24,qlc)] qiY
theorem qhk:qn Tryz.prog tb qi.sound qiZ:=qm qhj (qe qwk qw)
end Su
end
section
namespace Su
open Go Go.Proofs Fly
set_option maxRecDepth 100000
theorem qAE (fu:Nat) (c:(Int×((List Su.Cc)×((List Su.T)×((List Su.T)×((List Su.T)×((List Su.T)×Int))))))) (s:(Bool×(Bool×(Int×(Int×(List Su.Ce)))))):qu tb qiZ (shN tb qiZ fu 9) fu 35 ((dc cCo (d1 cSt)).enc (c,s)) ((d1 cSt)).dec=qyV fu c s:=by kernel_rfl
noncomputable def qwl:PrimD:=prim (dc cCo (d1 cSt)) (d1 cSt) (qfr)
theorem qFq:Ok1 Tryz.prog tb qi.sound 35 qwl:=qh qx qhk (by kernel_rfl) fun a y hg h=>by
 obtain ⟨n,hn⟩:=qyX a y hg h
 exact ⟨n,9,n,(qAE n a.1 a.2).trans hn⟩
noncomputable def qi0:qy:=qM [(35,qwl)] qiZ
theorem qhl:qn Tryz.prog tb qi.sound qi0:=qm qhk (qe qFq qw)
end Su
end
section
namespace Su
open Go Go.Proofs Fly
set_option maxRecDepth 100000
theorem qqy (fu:Nat) (c:(Int×((List Su.Cc)×((List Su.T)×((List Su.T)×((List Su.T)×((List Su.T)×Int))))))) (s:(Bool×(Bool×(Int×(Int×(List Su.Ce)))))):qu tb qi0 (shN tb qi0 fu 9) fu 20 ((dc cCo (d1 cSt)).enc (c,s)) ((d1 cSt)).dec=qiv fu c s:=by kernel_rfl
noncomputable def qld:PrimD:=prim (dc cCo (d1 cSt)) (d1 cSt) (qkL)
theorem qwm:Ok1 Tryz.prog tb qi.sound 20 qld:=qh qx qhl (by kernel_rfl) fun a y hg h=>by
 obtain ⟨n,hn⟩:=qp8 a y hg h
 exact ⟨n,9,n,(qqy n a.1 a.2).trans hn⟩
noncomputable def qi1:qy:=qM [(20,qld)] qi0
theorem qhm:qn Tryz.prog tb qi.sound qi1:=qm qhl (qe qwm qw)
end Su
end
section
namespace Su
open Go Go.Proofs Fly
set_option maxRecDepth 100000
theorem qwn (fu:Nat)  (f:Int):qu tb qi1 (shN tb qi1 fu 9) fu 140 ((d1 (cI .u64)).enc (f)) ((d1 cRt)).dec=qBw f:=by kernel_rfl
noncomputable def qo8:PrimD:=prim (d1 (cI .u64)) (d1 cRt) (ZQ)
theorem qAF:Ok1 Tryz.prog tb qi.sound 140 qo8:=qh qx qhm (by kernel_rfl) fun a y hg h=>⟨0,9,0,(qwn 0 a).trans (qup a y hg h)⟩
noncomputable def qec:qy:=qM [(140,qo8)] qi1
theorem qfy:qn Tryz.prog tb qi.sound qec:=qm qhm (qe qAF qw)
end Su
end
section
namespace Su
open Go Go.Proofs Fly
set_option maxRecDepth 100000
theorem qFr (fu:Nat) (a:(Bool×(Int×((List Su.Tm)×Int)))) (f:Int):qu tb qec (shN tb qec fu 9) fu 56 ((dc yc (d1 (cI .u64))).enc (a,f)) ((d1 cB)).dec=aOf fu a f:=by kernel_rfl
noncomputable def qBW:PrimD:=prim (dc yc (d1 (cI .u64))) (d1 cB) (qkQ)
theorem qGF:Ok1 Tryz.prog tb qi.sound 56 qBW:=qh qx qfy (by kernel_rfl) fun a y hg h=>by
 obtain ⟨n,hn⟩:=qD3 a y hg h
 exact ⟨n,9,n,(qFr n a.1 a.2).trans hn⟩
noncomputable def qi2:qy:=qM [(56,qBW)] qec
theorem qhn:qn Tryz.prog tb qi.sound qi2:=qm qfy (qe qGF qw)
end Su
end
section
namespace Su
open Go Go.Proofs Fly
set_option maxRecDepth 100000
theorem qAG (fu:Nat) (c:(Int×((List Su.Cc)×((List Su.T)×((List Su.T)×((List Su.T)×((List Su.T)×Int))))))) (s:(Bool×(Bool×(Int×(Int×(List Su.Ce)))))) (row:(List Su.Vl)) (k:Int):qu tb qi2 (shN tb qi2 fu 9) fu 22 ((dc cCo (dc cSt (dc (cL rVl) (d1 (cI .i64))))).enc (c,s,row,k)) ((d1 cB)).dec=qy3 fu c s row k:=by kernel_rfl
noncomputable def qwo:PrimD:=prim (dc cCo (dc cSt (dc (cL rVl) (d1 (cI .i64))))) (d1 cB) (quq)
theorem qFs:Ok1 Tryz.prog tb qi.sound 22 qwo:=qh qx qhn (by kernel_rfl) fun a y hg h=>by
 obtain ⟨n,hn⟩:=qy4 a y hg h
 exact ⟨n,9,n,(qAG n a.1 a.2.1 a.2.2.1 a.2.2.2).trans hn⟩
noncomputable def qwp:qy:=qM [(22,qwo)] qi2
theorem qqz:qn Tryz.prog tb qi.sound qwp:=qm qhn (qe qFs qw)
end Su
end
section
namespace Su
open Go Go.Proofs Fly
set_option maxRecDepth 100000
noncomputable def qwq (f:Int):Option (Rt×Bool):=some (bif jR f.toNat then ((false,([],[])),false) else (QZ f.toNat,true))
noncomputable def qwr:PrimD:=prim (d1 (cI .u64)) (dc cRt (d1 cB)) qwq
theorem qws:qwq=Q0:=by
 funext f;unfold qwq Q0;rw [qdV];rfl
theorem qAH:Ok1 Tryz.prog tb qi.sound 14 qwr:=by unfold qwr;rw [qws];exact qvf
noncomputable def prW:qy:=qM [(14,qwr)] qaO
theorem qFt:qn Tryz.prog tb qi.sound prW:=qm ZU (qe qAH qw)
theorem qqA:qu tb prW (shN tb prW 60 25) 60 12 [] (d1 cB).dec=some true:=by kernel_rfl
noncomputable def qo9:PrimD:=prim d0 (d1 cB) fun _=>some true
theorem qAI:Ok1 Tryz.prog tb qi.sound 12 qo9:=qh qx qFt (by kernel_rfl) fun a y hg h=>⟨60,25,60,qqA.trans h⟩
noncomputable def qi3:qy:=qM [(12,qo9)] qwp
theorem qho:qn Tryz.prog tb qi.sound qi3:=qm qqz (qe qAI qw)
end Su
end
section
namespace Su
open Go Go.Proofs Fly
set_option maxRecDepth 100000
theorem qAJ (fu:Nat)  (v:Su.Vl) (k:(Bool×(Int×Int))):qu tb qi3 (shN tb qi3 fu 9) fu 29 ((dc cVl (d1 cIn)).enc (v,k)) ((d1 cCe)).dec=qEc v k:=by kernel_rfl
noncomputable def qwt:PrimD:=prim (dc cVl (d1 cIn)) (d1 cCe) (quz)
theorem qFu:Ok1 Tryz.prog tb qi.sound 29 qwt:=qh qx qho (by kernel_rfl) fun a y hg h=>⟨0,9,0,(qAJ 0 a.1 a.2).trans (qzc a y hg h)⟩
noncomputable def qmJ:qy:=qM [(29,qwt)] qi3
theorem qqB:qn Tryz.prog tb qi.sound qmJ:=qm qho (qe qFu qw)
end Su
end
section
namespace Su
open Go Go.Proofs Fly
set_option maxRecDepth 100000
theorem qAK (fu:Nat) (c:(Int×((List Su.Cc)×((List Su.T)×((List Su.T)×((List Su.T)×((List Su.T)×Int))))))) (v:Su.Vl) (w:Su.Vl) (k:Int):qu tb qmJ (shN tb qmJ fu 9) fu 5 ((dc cCo (dc cVl (dc cVl (d1 (cI .i64))))).enc (c,v,w,k)) ((d1 cB)).dec=qzd fu c v w k:=by kernel_rfl
noncomputable def qFv:PrimD:=prim (dc cCo (dc cVl (dc cVl (d1 (cI .i64))))) (d1 cB) (quD)
theorem qFw:Ok1 Tryz.prog tb qi.sound 5 qFv:=qh qx qqB (by kernel_rfl) fun a y hg h=>by
 obtain ⟨n,hn⟩:=qzh a y hg h
 exact ⟨n,9,n,(qAK n a.1 a.2.1 a.2.2.1 a.2.2.2).trans hn⟩
end Su
end
section
namespace Su
open Go Fly
def jy (P:Program) (t:Nat):Bool:=match P.underlying t with
 | some (.struct _)=>true
 | _=>false
def qhp (P:Program) (S:List Nat) (n:Nat):Nat→List Field→Bool
 | o,[]=>Nat.beq o n
 | o,f::fs=>Nat.beq f.offset o&&(S.contains f.type&&qhp P S n (o+P.cellsOf f.type) fs)
def J5 (P:Program) (S:List Nat) (t:Nat):Bool:=match P.underlying t with
 | some .bool=>Nat.beq (P.cellsOf t) 1
 | some (.int _)=>Nat.beq (P.cellsOf t) 1
 | some (.float _)=>Nat.beq (P.cellsOf t) 1
 | some .string=>Nat.beq (P.cellsOf t) 1
 | some (.slice e)=>Nat.beq (P.cellsOf t) 1&&(S.contains e&&Nat.blt 0 (P.cellsOf e))
 | some (.struct fs)=>qhp P S (P.cellsOf t) 0 fs.toList
 | _=>false
inductive All2 {α β:Type} (R:α→β→Prop):List α→List β→Prop
 | nil:All2 R [] []
 | cons {a:α} {b:β} {l:List α} {m:List β} (h:R a b) (h':All2 R l m):All2 R (a::l) (b::m)
def Shp (P:Program):Nat→Nat→List T→Prop
 | 0,_,_=>False
 | fuel+1,t,xs=>match P.underlying t with
  | some .bool=>∃ b,xs=[.s (.bool b)]
  | some (.int k)=>∃ n,xs=[.s (.int k n)]∧(Lit.int k n).wf=true
  | some (.float k)=>∃ b,xs=[.s (.float k b)]∧(Lit.float k b).wf=true
  | some .string=>∃ s,xs=[.s (.string s)]∧s.size≤maxLen
  | some (.slice e)=>∃ l,xs=[.sl (P.cellsOf e) l]∧l.length≤maxLen∧∀ x∈l,x.isAgg=jy P e∧Shp P fuel e x.cells
  | some (.struct fs)=>∃ parts:List (List T),xs=parts.flatten∧All2 (fun (f:Field) p=>Shp P fuel f.type p) fs.toList parts
  | _=>False
def hv (w:World):qc:=fun b=>w.heap[b]?
theorem qAL {a:Addr} {m n:Nat} (h:n≠0∨m=0∨a.spot=none):(a.add m).add n=a.add (m+n):=by
 unfold Addr.add
 by_cases hn:n=0
 · subst hn;simp
 · by_cases hm:m=0
   · subst hm;simp [hn]
   · simp [hn,hm,Nat.add_assoc]
theorem qfz {w:World} {a:Addr} {v:Value} (h:w.cell? a=some v):a.spot=none∧rd (hv w) a.block a.off v:=by
 unfold World.cell? at h
 split at h
 · rename_i c e f hb
   cases hs:a.spot with
   | some s=>rw [hs] at h;simp at h
   | none=>rw [hs] at h;exact ⟨rfl,c,e,f,hb,by simpa using h⟩
 · simp at h
theorem qpa (a:Addr) (n:Nat):(a.add n).off=a.off+n∧(a.add n).block=a.block:=by
 unfold Addr.add;split
 · rename_i h;subst h;exact ⟨rfl,rfl⟩
 · exact ⟨rfl,rfl⟩
theorem qpb {w:World} {a:Addr} {k:Nat} (hk:0<k):∀ (css:List (List Value)) (s:Nat),(∀ i cs,css[i]?=some cs→w.cells? 0 (a.add ((s+i)*k)) k=some cs)→∀ j c,css.flatten[j]?=some c→rd (hv w) a.block (a.off+s*k+j) c∧w.cell? (a.add (s*k+j))=some c
 | [],s,h,j,c,hj=>by simp at hj
 | c0::css,s,h,j,c,hj=>by
  obtain ⟨_,hl,hc⟩:=World.cells?_some (h 0 c0 rfl)
  simp only [Nat.add_zero] at hc
  rw [List.flatten_cons] at hj
  rcases Nat.lt_or_ge j k with hjk | hjk
  · rw [List.getElem?_append_left (by omega)] at hj
    have h1:=hc j hjk
    rw [hj] at h1
    have h3:w.cell? (a.add (s*k+j))=some c:=by
     by_cases hj0:j=0
     · subst hj0
       have:(a.add (s*k)).add 0=a.add (s*k):=by unfold Addr.add;simp
       rw [this] at h1;exact h1
     · rw [qAL (.inl hj0)] at h1;exact h1
    obtain ⟨_,h2⟩:=qfz h3
    rw [(qpa _ _).1,(qpa _ _).2] at h2
    exact ⟨by rw [Nat.add_assoc];exact h2,h3⟩
  · rw [List.getElem?_append_right (by omega),hl] at hj
    have h2:=qpb hk css (s+1) (fun i cs hi=>by
     have:=h (i+1) cs (by simpa using hi)
     rw [show s+1+i=s+(i+1) by omega];exact this) (j-k) c hj
    have e1:(s+1)*k+(j-k)=s*k+j:=by rw [Nat.add_mul];omega
    rw [Nat.add_assoc,e1] at h2
    exact ⟨by rw [Nat.add_assoc];exact h2.1,h2.2⟩
end Su
end
