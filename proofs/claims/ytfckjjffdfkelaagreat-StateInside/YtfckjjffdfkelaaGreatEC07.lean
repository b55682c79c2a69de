/-
  The evaluator computes what the plain functions say.
-/
import Derived.Test.YtfckjjffdfkelaaGreatRw
import Derived.Test.YtfckjjffdfkelaaGreatSuTb
import Derived.Test.YtfckjjffdfkelaaGreatHSh3
import Derived.Test.YtfckjjffdfkelaaGreatNC10
import Derived.Test.YtfckjjffdfkelaaGreatNC13
import Derived.Test.YtfckjjffdfkelaaGreatNC14
import Derived.Test.YtfckjjffdfkelaaGreatNC24
import Derived.Test.YtfckjjffdfkelaaGreatNB25
import Derived.Test.YtfckjjffdfkelaaGreatNB27
import Derived.Test.YtfckjjffdfkelaaGreatNB30
import Derived.Test.YtfckjjffdfkelaaGreatRjn
import Derived.Test.YtfckjjffdfkelaaGreatRkq
import Derived.Test.YtfckjjffdfkelaaGreatSuP0
import Derived.ChangeSame
import Derived.ChangeOld
import Derived.DataReads
set_option maxRecDepth 10000
section
namespace Su
open Go Go.Proofs Fly
set_option maxRecDepth 100000
theorem qwl (fu:Nat)  (x:Int):qu tb Qb (shN tb Qb fu 9) fu 219 ((d1 (cI .u64)).enc (x)) ((d1 (cI .i64))).dec=qtJ x:=by kernel_rfl
noncomputable def qpo:PrimD:=prim (d1 (cI .u64)) (d1 (cI .i64)) (qom)
theorem qAZ:Ok1 Tryz.prog tb qi.sound 219 qpo:=qf qx Ji (by kernel_rfl) fun a y hg h=>⟨0,9,0,(qwl 0 a).trans (qtL a y hg h)⟩
theorem qA0 (fu:Nat)  (a:Int) (b:Int):qu tb Qb (shN tb Qb fu 9) fu 209 ((dc (cI .u64) (d1 (cI .u64))).enc (a,b)) ((d1 cW)).dec=qEI a b:=by kernel_rfl
noncomputable def qwm:PrimD:=prim (dc (cI .u64) (d1 (cI .u64))) (d1 cW) (qtM)
theorem qGd:Ok1 Tryz.prog tb qi.sound 209 qwm:=qf qx Ji (by kernel_rfl) fun a y hg h=>⟨0,9,0,(qA0 0 a.1 a.2).trans (qy7 a y hg h)⟩
theorem qA1 (fu:Nat)  (a:(Int×Int)) (b:(Int×Int)):qu tb Qb (shN tb Qb fu 9) fu 223 ((dc cW (d1 cW)).enc (a,b)) ((dc cW (d1 (cI .u64)))).dec=qEJ a b:=by kernel_rfl
noncomputable def qwn:PrimD:=prim (dc cW (d1 cW)) (dc cW (d1 (cI .u64))) (qtN)
theorem qGe:Ok1 Tryz.prog tb qi.sound 223 qwn:=qf qx Ji (by kernel_rfl) fun a y hg h=>⟨0,9,0,(qA1 0 a.1 a.2).trans (qy8 a y hg h)⟩
theorem qA2 (fu:Nat)  (a:(Int×Int)) (b:(Int×Int)):qu tb Qb (shN tb Qb fu 9) fu 224 ((dc cW (d1 cW)).enc (a,b)) ((dc cW (d1 (cI .u64)))).dec=qEK a b:=by kernel_rfl
noncomputable def qwo:PrimD:=prim (dc cW (d1 cW)) (dc cW (d1 (cI .u64))) (qtO)
theorem qGf:Ok1 Tryz.prog tb qi.sound 224 qwo:=qf qx Ji (by kernel_rfl) fun a y hg h=>⟨0,9,0,(qA2 0 a.1 a.2).trans (qza a y hg h)⟩
noncomputable def Zy:qw:=qM [(219,qpo),(209,qwm),(223,qwn),(224,qwo)] Qb
theorem qae:qn Tryz.prog tb qi.sound Zy:=qk Ji (qe qAZ (qe qGd (qe qGe (qe qGf qp))))
end Su
end
section
namespace Su
open Go Go.Proofs Fly
set_option maxRecDepth 100000
theorem qA3 (fu:Nat)  (a:(Int×Int)):qu tb Zy (shN tb Zy fu 9) fu 225 ((d1 cW).enc (a)) ((d1 (cI .i64))).dec=qEL a:=by kernel_rfl
noncomputable def qwp:PrimD:=prim (d1 cW) (d1 (cI .i64)) (qtP)
theorem qGg:Ok1 Tryz.prog tb qi.sound 225 qwp:=qf qx qae (by kernel_rfl) fun a y hg h=>⟨0,9,0,(qA3 0 a).trans (qzb a y hg h)⟩
theorem qA4 (fu:Nat) (a:(Int×Int)) (n:Int):qu tb Zy (shN tb Zy fu 9) fu 221 ((dc cW (d1 (cI .i64))).enc (a,n)) ((d1 cW)).dec=qEM fu a n:=by kernel_rfl
noncomputable def qwq:PrimD:=prim (dc cW (d1 (cI .i64))) (d1 cW) (qtQ)
theorem qGh:Ok1 Tryz.prog tb qi.sound 221 qwq:=qf qx qae (by kernel_rfl) fun a y hg h=>by
 obtain ⟨n,hn⟩:=qzc a y hg h
 exact ⟨n,9,n,(qA4 n a.1 a.2).trans hn⟩
theorem qA5 (fu:Nat) (a:(Int×Int)) (n:Int):qu tb Zy (shN tb Zy fu 9) fu 222 ((dc cW (d1 (cI .i64))).enc (a,n)) ((dc cW (d1 cB))).dec=qEN fu a n:=by kernel_rfl
noncomputable def qwr:PrimD:=prim (dc cW (d1 (cI .i64))) (dc cW (d1 cB)) (qtR)
theorem qGi:Ok1 Tryz.prog tb qi.sound 222 qwr:=qf qx qae (by kernel_rfl) fun a y hg h=>by
 obtain ⟨n,hn⟩:=qzd a y hg h
 exact ⟨n,9,n,(qA5 n a.1 a.2).trans hn⟩
noncomputable def qdq:qw:=qM [(225,qwp),(221,qwq),(222,qwr)] Zy
theorem qdr:qn Tryz.prog tb qi.sound qdq:=qk qae (qe qGg (qe qGh (qe qGi qp)))
end Su
end
section
namespace Su
open Go Go.Proofs Fly
set_option maxRecDepth 100000
theorem qGj (fu:Nat)  (x:(Bool×(Int×(Int×(Int×Bool))))) (mode:Int) (odd:Bool) (half:Bool) (rest:Bool):qu tb qdq (shN tb qdq fu 9) fu 237 ((dc qis (dc (cI .u8) (dc cB (dc cB (d1 cB))))).enc (x,mode,odd,half,rest)) ((d1 cB)).dec=rUp x mode odd half rest:=by kernel_rfl
noncomputable def qC8:PrimD:=prim (dc qis (dc (cI .u8) (dc cB (dc cB (d1 cB))))) (d1 cB) (qCw)
theorem qH2:Ok1 Tryz.prog tb qi.sound 237 qC8:=qf qx qdr (by kernel_rfl) fun a y hg h=>⟨0,9,0,(qGj 0 a.1 a.2.1 a.2.2.1 a.2.2.2.1 a.2.2.2.2).trans (qEP a y hg h)⟩
theorem qws (fu:Nat)  (x:(Bool×(Int×(Int×(Int×Bool))))) (mode:Int):qu tb qdq (shN tb qdq fu 9) fu 238 ((dc qis (d1 (cI .u8))).enc (x,mode)) ((dc (cI .u64) (d1 (cI .u8)))).dec=qtT x mode:=by kernel_rfl
noncomputable def qpp:PrimD:=prim (dc qis (d1 (cI .u8))) (dc (cI .u64) (d1 (cI .u8))) (qor)
theorem qA6:Ok1 Tryz.prog tb qi.sound 238 qpp:=qf qx qdr (by kernel_rfl) fun a y hg h=>⟨0,9,0,(qws 0 a.1 a.2).trans (qtU a y hg h)⟩
noncomputable def qji:qw:=qM [(237,qC8),(238,qpp)] qdq
theorem qhx:qn Tryz.prog tb qi.sound qji:=qk qdr (qe qH2 (qe qA6 qp))
end Su
end
section
namespace Su
open Go Go.Proofs Fly
set_option maxRecDepth 100000
theorem qra (fu:Nat)  (x:(Bool×(Int×(Int×(Int×Bool))))) (mode:Int):qu tb qji (shN tb qji fu 9) fu 226 ((dc qis (d1 (cI .u8))).enc (x,mode)) ((dc (cI .u64) (d1 (cI .u8)))).dec=qmR x mode:=by kernel_rfl
noncomputable def qlI:PrimD:=prim (dc qis (d1 (cI .u8))) (dc (cI .u64) (d1 (cI .u8))) (J1)
theorem qwt:Ok1 Tryz.prog tb qi.sound 226 qlI:=qf qx qhx (by kernel_rfl) fun a y hg h=>⟨0,9,0,(qra 0 a.1 a.2).trans (qqu a y hg h)⟩
noncomputable def Zz:qw:=qM [(226,qlI)] qji
theorem qaf:qn Tryz.prog tb qi.sound Zz:=qk qhx (qe qwt qp)
end Su
end
section
namespace Su
open Go Go.Proofs Fly
set_option maxRecDepth 100000
theorem qrb (fu:Nat)  (neg:Bool) (m:(Int×Int)) (e:Int) (rest:Bool) (mode:Int):qu tb Zz (shN tb Zz fu 9) fu 208 ((dc cB (dc cW (dc (cI .i64) (dc cB (d1 (cI .u8)))))).enc (neg,m,e,rest,mode)) ((dc (cI .u64) (d1 (cI .u8)))).dec=qmS neg m e rest mode:=by kernel_rfl
noncomputable def qlJ:PrimD:=prim (dc cB (dc cW (dc (cI .i64) (dc cB (d1 (cI .u8)))))) (dc (cI .u64) (d1 (cI .u8))) (qk2)
theorem qwu:Ok1 Tryz.prog tb qi.sound 208 qlJ:=qf qx qaf (by kernel_rfl) fun a y hg h=>⟨0,9,0,(qrb 0 a.1 a.2.1 a.2.2.1 a.2.2.2.1 a.2.2.2.2).trans (qqv a y hg h)⟩
theorem qGk (fu:Nat)  (f:Int):qu tb Zz (shN tb Zz fu 9) fu 201 ((d1 (cI .u64)).enc (f)) ((d1 qqj)).dec=sOf f:=by kernel_rfl
noncomputable def qC9:PrimD:=prim (d1 (cI .u64)) (d1 qqj) (fun a=>sOf a)
theorem qH3:Ok1 Tryz.prog tb qi.sound 201 qC9:=qf qx qaf (by kernel_rfl) fun a y hg h=>⟨0,9,0,(qGk 0 a).trans h⟩
theorem qwv (fu:Nat)  (neg:Bool):qu tb Zz (shN tb Zz fu 9) fu 205 ((d1 cB).enc (neg)) ((d1 (cI .u64))).dec=qCx neg:=by kernel_rfl
noncomputable def qpq:PrimD:=prim (d1 cB) (d1 (cI .u64)) (fun a=>qCx a)
theorem qA7:Ok1 Tryz.prog tb qi.sound 205 qpq:=qf qx qaf (by kernel_rfl) fun a y hg h=>⟨0,9,0,(qwv 0 a).trans h⟩
noncomputable def qjj:qw:=qM [(208,qlJ),(201,qC9),(205,qpq)] Zz
theorem qhy:qn Tryz.prog tb qi.sound qjj:=qk qaf (qe qwu (qe qH3 (qe qA7 qp)))
end Su
end
section
namespace Su
open Go Go.Proofs Fly
set_option maxRecDepth 100000
theorem qww (fu:Nat)  (x:(Int×(Int×(Bool×(Int×Int))))) (y:(Int×(Int×(Bool×(Int×Int))))) (mode:Int):qu tb qjj (shN tb qjj fu 9) fu 206 ((dc qqj (dc qqj (d1 (cI .u8)))).enc (x,y,mode)) ((dc (cI .u64) (d1 (cI .u8)))).dec=qb0 x y mode:=by kernel_rfl
noncomputable def qpr:PrimD:=prim (dc qqj (dc qqj (d1 (cI .u8)))) (dc (cI .u64) (d1 (cI .u8))) (fun a=>qb0 a.1 a.2.1 a.2.2)
theorem qA8:Ok1 Tryz.prog tb qi.sound 206 qpr:=qf qx qhy (by kernel_rfl) fun a y hg h=>⟨0,9,0,(qww 0 a.1 a.2.1 a.2.2).trans h⟩
noncomputable def qds:qw:=qM [(206,qpr)] qjj
theorem qdt:qn Tryz.prog tb qi.sound qds:=qk qhy (qe qA8 qp)
end Su
end
section
namespace Su
open Go Go.Proofs Fly
set_option maxRecDepth 100000
theorem qA9 (fu:Nat)  (a:Int) (b:Int) (mode:Int):qu tb qds (shN tb qds fu 9) fu 174 ((dc (cI .u64) (dc (cI .u64) (d1 (cI .u8)))).enc (a,b,mode)) ((dc (cI .u64) (d1 (cI .u8)))).dec=qqx a b mode:=by kernel_rfl
noncomputable def qwx:PrimD:=prim (dc (cI .u64) (dc (cI .u64) (d1 (cI .u8)))) (dc (cI .u64) (d1 (cI .u8))) (fun a=>qqx a.1 a.2.1 a.2.2)
theorem qGl:Ok1 Tryz.prog tb qi.sound 174 qwx:=qf qx qdt (by kernel_rfl) fun a y hg h=>⟨0,9,0,(qA9 0 a.1 a.2.1 a.2.2).trans h⟩
theorem qBa (fu:Nat)  (a:Int) (b:Int) (mode:Int):qu tb qds (shN tb qds fu 9) fu 179 ((dc (cI .u64) (dc (cI .u64) (d1 (cI .u8)))).enc (a,b,mode)) ((dc (cI .u64) (d1 (cI .u8)))).dec=qtX a b mode:=by kernel_rfl
noncomputable def qwy:PrimD:=prim (dc (cI .u64) (dc (cI .u64) (d1 (cI .u8)))) (dc (cI .u64) (d1 (cI .u8))) (fun a=>qtX a.1 a.2.1 a.2.2)
theorem qGm:Ok1 Tryz.prog tb qi.sound 179 qwy:=qf qx qdt (by kernel_rfl) fun a y hg h=>⟨0,9,0,(qBa 0 a.1 a.2.1 a.2.2).trans h⟩
noncomputable def ZA:qw:=qM [(174,qwx),(179,qwy)] qds
theorem qag:qn Tryz.prog tb qi.sound ZA:=qk qdt (qe qGl (qe qGm qp))
end Su
end
section
namespace Su
open Go Go.Proofs Fly
set_option maxRecDepth 100000
theorem qBb (fu:Nat)  (a:Int) (b:Int) (mode:Int):qu tb ZA (shN tb ZA fu 9) fu 114 ((dc (cI .u64) (dc (cI .u64) (d1 (cI .u8)))).enc (a,b,mode)) ((d1 (cI .u64))).dec=qES a b mode:=by kernel_rfl
noncomputable def qwz:PrimD:=prim (dc (cI .u64) (dc (cI .u64) (d1 (cI .u8)))) (d1 (cI .u64)) (qt3)
theorem qGn:Ok1 Tryz.prog tb qi.sound 114 qwz:=qf qx qag (by kernel_rfl) fun a y hg h=>⟨0,9,0,(qBb 0 a.1 a.2.1 a.2.2).trans (qzi a y hg h)⟩
theorem qBc (fu:Nat)  (a:Int) (b:Int) (mode:Int):qu tb ZA (shN tb ZA fu 9) fu 121 ((dc (cI .u64) (dc (cI .u64) (d1 (cI .u8)))).enc (a,b,mode)) ((d1 (cI .u64))).dec=qET a b mode:=by kernel_rfl
noncomputable def qwA:PrimD:=prim (dc (cI .u64) (dc (cI .u64) (d1 (cI .u8)))) (d1 (cI .u64)) (qt4)
theorem qGo:Ok1 Tryz.prog tb qi.sound 121 qwA:=qf qx qag (by kernel_rfl) fun a y hg h=>⟨0,9,0,(qBc 0 a.1 a.2.1 a.2.2).trans (qzj a y hg h)⟩
theorem qGp (fu:Nat) (l:(List Int)):qu tb ZA (shN tb ZA fu 9) fu 112 ((d1 (cQ 2 1)).enc (l)) ((d1 (cI .u64))).dec=aUp fu l:=by kernel_rfl
noncomputable def qDa:PrimD:=prim (d1 (cQ 2 1)) (d1 (cI .u64)) (qCz)
theorem qH4:Ok1 Tryz.prog tb qi.sound 112 qDa:=qf qx qag (by kernel_rfl) fun a y hg h=>by
 obtain ⟨n,hn⟩:=qEU a y hg h
 exact ⟨n,9,n,(qGp n a).trans hn⟩
noncomputable def qbb:qw:=qM [(114,qwz),(121,qwA),(112,qDa)] ZA
theorem qah:qn Tryz.prog tb qi.sound qbb:=qk qag (qe qGn (qe qGo (qe qH4 qp)))
end Su
end
section
namespace Su
open Go Go.Proofs Fly
set_option maxRecDepth 100000
theorem qBd (fu:Nat) (l:(List Su.Tm)) (u:Unit):qnX tb qbb fu 9 175 (0,103) ((dc qiu (d1 (cF 176))).enc (l,u)) ((d1 Y7)).dec=qEV fu l u:=by kernel_rfl
theorem qwB (fu:Nat) (l:(List Su.Tm)) (u:Unit):qu tb qbb (shN tb qbb fu 9) fu 175 ((dc Y7 (d1 (cF 176))).enc (l,u)) ((d1 Y7)).dec=qt6 fu l u:=by kernel_rfl
theorem qwC (fu:Nat) (l:(List Su.Tm)) (u:Unit):qu tb qbb (shN tb qbb fu 9) fu 177 ((dc Y7 (d1 (cF 178))).enc (l,u)) ((d1 cB)).dec=qt7 fu l u:=by kernel_rfl
noncomputable def qps:PrimD:=prim (dc Y7 (d1 (cF 178))) (d1 cB) (qox)
theorem qBe:Ok1 Tryz.prog tb qi.sound 177 qps:=qf qx qah (by kernel_rfl) fun a y hg h=>by
 obtain ⟨n,hn⟩:=qt8 a y hg h
 exact ⟨n,9,n,(qwC n a.1 a.2).trans hn⟩
theorem qBf:Ok1 Tryz.prog tb qi.sound 175 (qgT (0,103) (dc qiu (d1 (cF 176))) (d1 Y7) (qmW)):=qkz qx qah (by kernel_rfl) (exc qCn (ex1 (exFn 176))) qHq fun a y hg h=>by
 obtain ⟨n,hn⟩:=qzm a y hg h
 exact ⟨n,9,(qBd n a.1 a.2).trans hn⟩
noncomputable def qwD:PrimD:=qmz (0,103) (dc qiu (d1 (cF 176))) (d1 Y7) (qmW) (dc Y7 (d1 (cF 176))) qoy
theorem qGq:Ok1 Tryz.prog tb qi.sound 175 qwD:=qgU qx qah qBf fun a y hg h=>by
 obtain ⟨n,hn⟩:=qt9 a y hg h
 exact ⟨n,9,n,(qwB n a.1 a.2).trans hn⟩
noncomputable def qbc:qw:=qM [(175,qwD),(177,qps)] qbb
theorem qai:qn Tryz.prog tb qi.sound qbc:=qk qah (qe qGq (qe qBe qp))
end Su
end
section
namespace Su
open Go Go.Proofs Fly
set_option maxRecDepth 100000
theorem qwE (fu:Nat)  (a:(Bool×(Int×((List Su.Tm)×Int)))):qnX tb qbc fu 9 117 (2,103) ((d1 qgV).enc (a)) ((d1 yc)).dec=qua a:=by kernel_rfl
theorem qrc (fu:Nat)  (a:(Bool×(Int×((List Su.Tm)×Int)))):qu tb qbc (shN tb qbc fu 9) fu 117 ((d1 yc).enc (a)) ((d1 yc)).dec=qmY a:=by kernel_rfl
theorem qBg (fu:Nat) (a:(Bool×(Int×((List Su.Tm)×Int)))):qu tb qbc (shN tb qbc fu 9) fu 39 ((d1 yc).enc (a)) ((d1 cB)).dec=qEW fu a:=by kernel_rfl
noncomputable def qwF:PrimD:=prim (d1 yc) (d1 cB) (quc)
theorem qGr:Ok1 Tryz.prog tb qi.sound 39 qwF:=qf qx qai (by kernel_rfl) fun a y hg h=>by
 obtain ⟨n,hn⟩:=qzn a y hg h
 exact ⟨n,9,n,(qBg n a).trans hn⟩
theorem qwG:Ok1 Tryz.prog tb qi.sound 117 (qgT (2,103) (d1 qgV) (d1 yc) (qiP)):=qkz qx qai (by kernel_rfl) exF4 hnA fun a y hg h=>⟨0,9,(qwE 0 a).trans (qub a y hg h)⟩
noncomputable def qpt:PrimD:=qmz (2,103) (d1 qgV) (d1 yc) (qiP) (d1 yc) qk6
theorem qBh:Ok1 Tryz.prog tb qi.sound 117 qpt:=qgU qx qai qwG fun a y hg h=>⟨0,9,0,(qrc 0 a).trans (qqz a y hg h)⟩
noncomputable def qjk:qw:=qM [(117,qpt),(39,qwF)] qbc
theorem qhz:qn Tryz.prog tb qi.sound qjk:=qk qai (qe qBh (qe qGr qp))
end Su
end
section
namespace Su
open Go Go.Proofs Fly
set_option maxRecDepth 100000
theorem qrd (fu:Nat) (l:(List (Bool×(Int×((List Su.Tm)×Int))))):qu tb qjk (shN tb qjk fu 9) fu 110 ((d1 qD3).enc (l)) ((d1 cB)).dec=qmZ fu l:=by kernel_rfl
noncomputable def qlK:PrimD:=prim (d1 qD3) (d1 cB) (qk7)
theorem qwH:Ok1 Tryz.prog tb qi.sound 110 qlK:=qf qx qhz (by kernel_rfl) fun a y hg h=>by
 obtain ⟨n,hn⟩:=qqA a y hg h
 exact ⟨n,9,n,(qrd n a).trans hn⟩
noncomputable def qdu:qw:=qM [(110,qlK)] qjk
theorem qdv:qn Tryz.prog tb qi.sound qdu:=qk qhz (qe qwH qp)
end Su
end
section
namespace Su
open Go Go.Proofs Fly
set_option maxRecDepth 100000
theorem qBi (fu:Nat) (a:(Bool×(Int×((List Su.Tm)×Int)))):qu tb qdu (shN tb qdu fu 9) fu 47 ((d1 yc).enc (a)) ((d1 yc)).dec=qEY fu a:=by kernel_rfl
noncomputable def qwI:PrimD:=prim (d1 yc) (d1 yc) (quf)
theorem qGs:Ok1 Tryz.prog tb qi.sound 47 qwI:=qf qx qdv (by kernel_rfl) fun a y hg h=>by
 obtain ⟨n,hn⟩:=qzo a y hg h
 exact ⟨n,9,n,(qBi n a).trans hn⟩
theorem qre (fu:Nat)  (f:Int):qu tb qdu (shN tb qdu fu 9) fu 81 ((d1 (cI .u64)).enc (f)) ((d1 yc)).dec=que f:=by kernel_rfl
noncomputable def qlL:PrimD:=prim (d1 (cI .u64)) (d1 yc) (qk8)
theorem qwJ:Ok1 Tryz.prog tb qi.sound 81 qlL:=qf qx qdv (by kernel_rfl) fun a y hg h=>⟨0,9,0,(qre 0 a).trans (qqC a y hg h)⟩
noncomputable def qwK:qw:=qM [(47,qwI),(81,qlL)] qdu
theorem qrf:qn Tryz.prog tb qi.sound qwK:=qk qdv (qe qGs (qe qwJ qp))
end Su
end
section
namespace Su
open Go Go.Proofs Fly
set_option maxRecDepth 100000
noncomputable def qey:qw:=qM [] qwK
theorem qf1:qn Tryz.prog tb qi.sound qey:=qk qrf qp
end Su
end
section
namespace Su
open Go Go.Proofs Fly
set_option maxRecDepth 100000
theorem qBj (fu:Nat)  (a:Int) (b:Int):qu tb qey (shN tb qey fu 9) fu 129 ((dc (cI .u64) (d1 (cI .u64))).enc (a,b)) ((d1 cB)).dec=qEZ a b:=by kernel_rfl
noncomputable def qwL:PrimD:=prim (dc (cI .u64) (d1 (cI .u64))) (d1 cB) (qug)
theorem qGt:Ok1 Tryz.prog tb qi.sound 129 qwL:=qf qx qf1 (by kernel_rfl) fun a y hg h=>⟨0,9,0,(qBj 0 a.1 a.2).trans (qzq a y hg h)⟩
noncomputable def qjl:qw:=qM [(129,qwL)] qey
theorem qhA:qn Tryz.prog tb qi.sound qjl:=qk qf1 (qe qGt qp)
end Su
end
section
namespace Su
open Go Go.Proofs Fly
set_option maxRecDepth 100000
theorem qrg (fu:Nat) (s:(Bool×(Int×Int))):qu tb qjl (shN tb qjl fu 9) fu 128 ((d1 yJ).enc (s)) ((d1 yJ)).dec=qm0 fu s:=by kernel_rfl
noncomputable def qlM:PrimD:=prim (d1 yJ) (d1 yJ) (qla)
theorem qwM:Ok1 Tryz.prog tb qi.sound 128 qlM:=qf qx qhA (by kernel_rfl) fun a y hg h=>by
 obtain ⟨n,hn⟩:=qqD a y hg h
 exact ⟨n,9,n,(qrg n a).trans hn⟩
noncomputable def qjm:qw:=qM [(128,qlM)] qjl
theorem qhB:qn Tryz.prog tb qi.sound qjm:=qk qhA (qe qwM qp)
end Su
end
section
namespace Su
open Go Go.Proofs Fly
set_option maxRecDepth 100000
theorem qBk (fu:Nat) (a:(Bool×(Int×((List Su.Tm)×Int)))):qu tb qjm (shN tb qjm fu 9) fu 104 ((d1 yc).enc (a)) ((d1 (cI .u64))).dec=qE0 fu a:=by kernel_rfl
noncomputable def qwN:PrimD:=prim (d1 yc) (d1 (cI .u64)) (qc5)
theorem qGu:Ok1 Tryz.prog tb qi.sound 104 qwN:=qf qx qhB (by kernel_rfl) fun a y hg h=>by
 obtain ⟨n,hn⟩:=qzr a y hg h
 exact ⟨n,9,n,(qBk n a).trans hn⟩
noncomputable def qdw:qw:=qM [(104,qwN)] qjm
theorem qdx:qn Tryz.prog tb qi.sound qdw:=qk qhB (qe qGu qp)
end Su
end
section
namespace Su
open Go Go.Proofs Fly
set_option maxRecDepth 100000
theorem qwO (fu:Nat)  (a:(Bool×(Int×((List Su.Tm)×Int)))):qu tb qdw (shN tb qdw fu 9) fu 120 ((d1 yc).enc (a)) ((d1 (cI .u64))).dec=quh a:=by kernel_rfl
noncomputable def qpu:PrimD:=prim (d1 yc) (d1 (cI .u64)) (qoB)
theorem qBl:Ok1 Tryz.prog tb qi.sound 120 qpu:=qf qx qdx (by kernel_rfl) fun a y hg h=>⟨0,9,0,(qwO 0 a).trans (qui a y hg h)⟩
theorem qBm (fu:Nat)  (a:Int) (b:Int):qu tb qdw (shN tb qdw fu 9) fu 126 ((dc (cI .u64) (d1 (cI .u64))).enc (a,b)) ((d1 (cI .u64))).dec=aMid a b:=by kernel_rfl
noncomputable def qwP:PrimD:=prim (dc (cI .u64) (d1 (cI .u64))) (d1 (cI .u64)) (quj)
theorem qGv:Ok1 Tryz.prog tb qi.sound 126 qwP:=qf qx qdx (by kernel_rfl) fun a y hg h=>⟨0,9,0,(qBm 0 a.1 a.2).trans (qzs a y hg h)⟩
noncomputable def qjn:qw:=qM [(120,qpu),(126,qwP)] qdw
theorem qhC:qn Tryz.prog tb qi.sound qjn:=qk qdx (qe qBl (qe qGv qp))
end Su
end
section
namespace Su
open Go Go.Proofs Fly
set_option maxRecDepth 100000
theorem qwQ (fu:Nat)  (a:(Bool×(Int×((List Su.Tm)×Int)))):qu tb qjn (shN tb qjn fu 9) fu 50 ((d1 yc).enc (a)) ((d1 yJ)).dec=quk a:=by kernel_rfl
noncomputable def qpv:PrimD:=prim (d1 yc) (d1 yJ) (Z1)
theorem qBn:Ok1 Tryz.prog tb qi.sound 50 qpv:=qf qx qhC (by kernel_rfl) fun a y hg h=>⟨0,9,0,(qwQ 0 a).trans (qul a y hg h)⟩
noncomputable def qjo:qw:=qM [(50,qpv)] qjn
theorem qhD:qn Tryz.prog tb qi.sound qjo:=qk qhC (qe qBn qp)
end Su
end
section
namespace Su
open Go Go.Proofs Fly
set_option maxRecDepth 100000
theorem qwR (fu:Nat)  (s:(Bool×(Int×Int))):qu tb qjo (shN tb qjo fu 9) fu 141 ((d1 cIn).enc (s)) ((d1 cIn)).dec=qup s:=by kernel_rfl
noncomputable def qpw:PrimD:=prim (d1 cIn) (d1 cIn) (qoC)
theorem qBo:Ok1 Tryz.prog tb qi.sound 141 qpw:=qf qx qhD (by kernel_rfl) fun a y hg h=>⟨0,9,0,(qwR 0 a).trans (quq a y hg h)⟩
noncomputable def jS:qw:=qM [(141,qpw)] qjo
theorem j4:qn Tryz.prog tb qi.sound jS:=qk qhD (qe qBo qp)
end Su
end
section
namespace Su
open Go Go.Proofs Fly
set_option maxRecDepth 100000
theorem qwS (fu:Nat)  (lo:Int) (hi:Int):qu tb jS (shN tb jS fu 9) fu 60 ((dc (cI .i64) (d1 (cI .i64))).enc (lo,hi)) ((d1 cIn)).dec=qCC lo hi:=by kernel_rfl
noncomputable def qpx:PrimD:=prim (dc (cI .i64) (d1 (cI .i64))) (d1 cIn) (qoD)
theorem qBp:Ok1 Tryz.prog tb qi.sound 60 qpx:=qf qx j4 (by kernel_rfl) fun a y hg h=>⟨0,9,0,(qwS 0 a.1 a.2).trans (qut a y hg h)⟩
theorem qBq (fu:Nat)  (s:(Bool×(Int×Int))) (n:Int):qu tb jS (shN tb jS fu 9) fu 75 ((dc cIn (d1 (cI .i64))).enc (s,n)) ((d1 cB)).dec=qE3 s n:=by kernel_rfl
noncomputable def qwT:PrimD:=prim (dc cIn (d1 (cI .i64))) (d1 cB) (quu)
theorem qGw:Ok1 Tryz.prog tb qi.sound 75 qwT:=qf qx j4 (by kernel_rfl) fun a y hg h=>⟨0,9,0,(qBq 0 a.1 a.2).trans (qzv a y hg h)⟩
theorem qBr (fu:Nat)  (a:(Bool×(Int×Int))) (b:(Bool×(Int×Int))):qu tb jS (shN tb jS fu 9) fu 74 ((dc cIn (d1 cIn)).enc (a,b)) ((d1 cB)).dec=qE4 a b:=by kernel_rfl
noncomputable def qwU:PrimD:=prim (dc cIn (d1 cIn)) (d1 cB) (quv)
theorem qGx:Ok1 Tryz.prog tb qi.sound 74 qwU:=qf qx j4 (by kernel_rfl) fun a y hg h=>⟨0,9,0,(qBr 0 a.1 a.2).trans (qzw a y hg h)⟩
theorem qwV (fu:Nat) (l:(List (Bool×(Int×Int)))):qu tb jS (shN tb jS fu 9) fu 87 ((d1 (cL rIn)).enc (l)) ((d1 cIn)).dec=qur fu l:=by kernel_rfl
noncomputable def qpy:PrimD:=prim (d1 (cL rIn)) (d1 cIn) (qoF)
theorem qBs:Ok1 Tryz.prog tb qi.sound 87 qpy:=qf qx j4 (by kernel_rfl) fun a y hg h=>by
 obtain ⟨n,hn⟩:=quw a y hg h
 exact ⟨n,9,n,(qwV n a).trans hn⟩
theorem qBt (fu:Nat)  (a:(Bool×(Int×Int))):qu tb jS (shN tb jS fu 9) fu 196 ((d1 cIn).enc (a)) ((d1 cIn)).dec=qE5 a:=by kernel_rfl
noncomputable def qwW:PrimD:=prim (d1 cIn) (d1 cIn) (qux)
theorem qGy:Ok1 Tryz.prog tb qi.sound 196 qwW:=qf qx j4 (by kernel_rfl) fun a y hg h=>⟨0,9,0,(qBt 0 a).trans (qzz a y hg h)⟩
theorem qwX (fu:Nat)  (a:(Bool×(Int×Int))) (b:(Bool×(Int×Int))):qu tb jS (shN tb jS fu 9) fu 164 ((dc cIn (d1 cIn)).enc (a,b)) ((d1 cIn)).dec=qus a b:=by kernel_rfl
noncomputable def qpz:PrimD:=prim (dc cIn (d1 cIn)) (d1 cIn) (qoG)
theorem qBu:Ok1 Tryz.prog tb qi.sound 164 qpz:=qf qx j4 (by kernel_rfl) fun a y hg h=>⟨0,9,0,(qwX 0 a.1 a.2).trans (quy a y hg h)⟩
theorem qBv (fu:Nat)  (x:Int) (y:Int):qu tb jS (shN tb jS fu 9) fu 167 ((dc (cI .i64) (d1 (cI .i64))).enc (x,y)) ((d1 (cI .i64))).dec=qE6 x y:=by kernel_rfl
noncomputable def qwY:PrimD:=prim (dc (cI .i64) (d1 (cI .i64))) (d1 (cI .i64)) (quz)
theorem qGz:Ok1 Tryz.prog tb qi.sound 167 qwY:=qf qx j4 (by kernel_rfl) fun a y hg h=>⟨0,9,0,(qBv 0 a.1 a.2).trans (qzA a y hg h)⟩
theorem qwZ (fu:Nat)  (lo:Int) (hi:Int):qu tb jS (shN tb jS fu 9) fu 166 ((dc (cI .i64) (d1 (cI .i64))).enc (lo,hi)) ((d1 cIn)).dec=qCD lo hi:=by kernel_rfl
noncomputable def qpA:PrimD:=prim (dc (cI .i64) (d1 (cI .i64))) (d1 cIn) (qoH)
theorem qBw:Ok1 Tryz.prog tb qi.sound 166 qpA:=qf qx j4 (by kernel_rfl) fun a y hg h=>⟨0,9,0,(qwZ 0 a.1 a.2).trans (quA a y hg h)⟩
noncomputable def qjp:qw:=qM [(60,qpx),(75,qwT),(74,qwU),(87,qpy),(196,qwW),(164,qpz),(167,qwY),(166,qpA)] jS
theorem qhE:qn Tryz.prog tb qi.sound qjp:=qk j4 (qe qBp (qe qGw (qe qGx (qe qBs (qe qGy (qe qBu (qe qGz (qe qBw qp))))))))
end Su
end
section
namespace Su
open Go Go.Proofs Fly
set_option maxRecDepth 100000
theorem qBx (fu:Nat)  (a:(Bool×(Int×Int))) (b:(Bool×(Int×Int))):qu tb qjp (shN tb qjp fu 9) fu 103 ((dc cIn (d1 cIn)).enc (a,b)) ((d1 cIn)).dec=qE7 a b:=by kernel_rfl
noncomputable def qw0:PrimD:=prim (dc cIn (d1 cIn)) (d1 cIn) (quB)
theorem qGA:Ok1 Tryz.prog tb qi.sound 103 qw0:=qf qx qhE (by kernel_rfl) fun a y hg h=>⟨0,9,0,(qBx 0 a.1 a.2).trans (qzB a y hg h)⟩
noncomputable def ZB:qw:=qM [(103,qw0)] qjp
theorem qaj:qn Tryz.prog tb qi.sound ZB:=qk qhE (qe qGA qp)
end Su
end
section
namespace Su
open Go Go.Proofs Fly
set_option maxRecDepth 100000
theorem qBy (fu:Nat)  (a:(Bool×(Int×Int))) (b:(Bool×(Int×Int))):qu tb ZB (shN tb ZB fu 9) fu 156 ((dc cIn (d1 cIn)).enc (a,b)) ((d1 cIn)).dec=iSub a b:=by kernel_rfl
noncomputable def qw1:PrimD:=prim (dc cIn (d1 cIn)) (d1 cIn) (quD)
theorem qGB:Ok1 Tryz.prog tb qi.sound 156 qw1:=qf qx qaj (by kernel_rfl) fun a y hg h=>⟨0,9,0,(qBy 0 a.1 a.2).trans (qzD a y hg h)⟩
theorem qGC (fu:Nat)  (n:Int):qu tb ZB (shN tb ZB fu 9) fu 28 ((d1 (cI .i64)).enc (n)) ((d1 cIn)).dec=iPt n:=by kernel_rfl
noncomputable def qDb:PrimD:=prim (d1 (cI .i64)) (d1 cIn) (qCE)
theorem qH5:Ok1 Tryz.prog tb qi.sound 28 qDb:=qf qx qaj (by kernel_rfl) fun a y hg h=>⟨0,9,0,(qGC 0 a).trans (qE8 a y hg h)⟩
theorem qw2 (fu:Nat)  (c:((Bool×(Int×Int))×(Bool×(Int×Int)))):qu tb ZB (shN tb ZB fu 9) fu 155 ((d1 jG).enc (c)) ((d1 jG)).dec=quC c:=by kernel_rfl
noncomputable def qpB:PrimD:=prim (d1 jG) (d1 jG) (qoI)
theorem qBz:Ok1 Tryz.prog tb qi.sound 155 qpB:=qf qx qaj (by kernel_rfl) fun a y hg h=>⟨0,9,0,(qw2 0 a).trans (quE a y hg h)⟩
noncomputable def j8:qw:=qM [(156,qw1),(28,qDb),(155,qpB)] ZB
theorem yl:qn Tryz.prog tb qi.sound j8:=qk qaj (qe qGB (qe qH5 (qe qBz qp)))
end Su
end
section
namespace Su
open Go Go.Proofs Fly
set_option maxRecDepth 100000
theorem qGD (fu:Nat)  (v:(Bool×(Int×Int))) (k:(Bool×(Int×Int))):qu tb j8 (shN tb j8 fu 9) fu 79 ((dc cIn (d1 cIn)).enc (v,k)) ((d1 jG)).dec=kOf v k:=by kernel_rfl
noncomputable def qDc:PrimD:=prim (dc cIn (d1 cIn)) (d1 jG) (qCG)
theorem qH6:Ok1 Tryz.prog tb qi.sound 79 qDc:=qf qx yl (by kernel_rfl) fun a y hg h=>⟨0,9,0,(qGD 0 a.1 a.2).trans (qFa a y hg h)⟩
theorem qw3 (fu:Nat)  (c:((Bool×(Int×Int))×(Bool×(Int×Int)))):qu tb j8 (shN tb j8 fu 9) fu 102 ((d1 jG).enc (c)) ((d1 jG)).dec=qCF c:=by kernel_rfl
noncomputable def qpC:PrimD:=prim (d1 jG) (d1 jG) (qoJ)
theorem qBA:Ok1 Tryz.prog tb qi.sound 102 qpC:=qf qx yl (by kernel_rfl) fun a y hg h=>⟨0,9,0,(qw3 0 a).trans (quF a y hg h)⟩
theorem qBB (fu:Nat)  (v:(Bool×(Int×Int))) (c:((Bool×(Int×Int))×(Bool×(Int×Int)))) (k:(Bool×(Int×Int))):qu tb j8 (shN tb j8 fu 9) fu 97 ((dc cIn (dc jG (d1 cIn))).enc (v,c,k)) ((d1 cIn)).dec=kRed v c k:=by kernel_rfl
noncomputable def qw4:PrimD:=prim (dc cIn (dc jG (d1 cIn))) (d1 cIn) (quG)
theorem qGE:Ok1 Tryz.prog tb qi.sound 97 qw4:=qf qx yl (by kernel_rfl) fun a y hg h=>⟨0,9,0,(qBB 0 a.1 a.2.1 a.2.2).trans (qzE a y hg h)⟩
theorem qGF (fu:Nat)  (a:((Bool×(Int×Int))×(Bool×(Int×Int)))) (b:((Bool×(Int×Int))×(Bool×(Int×Int)))):qu tb j8 (shN tb j8 fu 9) fu 165 ((dc jG (d1 jG)).enc (a,b)) ((d1 jG)).dec=kMt a b:=by kernel_rfl
noncomputable def qDd:PrimD:=prim (dc jG (d1 jG)) (d1 jG) (qCH)
theorem qH7:Ok1 Tryz.prog tb qi.sound 165 qDd:=qf qx yl (by kernel_rfl) fun a y hg h=>⟨0,9,0,(qGF 0 a.1 a.2).trans (qFb a y hg h)⟩
theorem qGG (fu:Nat)  (a:((Bool×(Int×Int))×(Bool×(Int×Int)))) (b:((Bool×(Int×Int))×(Bool×(Int×Int)))):qu tb j8 (shN tb j8 fu 9) fu 90 ((dc jG (d1 jG)).enc (a,b)) ((d1 jG)).dec=kJn a b:=by kernel_rfl
noncomputable def qDe:PrimD:=prim (dc jG (d1 jG)) (d1 jG) (qCI)
theorem qH8:Ok1 Tryz.prog tb qi.sound 90 qDe:=qf qx yl (by kernel_rfl) fun a y hg h=>⟨0,9,0,(qGG 0 a.1 a.2).trans (qFc a y hg h)⟩
theorem qGH (fu:Nat)  (a:((Bool×(Int×Int))×(Bool×(Int×Int)))) (b:((Bool×(Int×Int))×(Bool×(Int×Int)))):qu tb j8 (shN tb j8 fu 9) fu 153 ((dc jG (d1 jG)).enc (a,b)) ((d1 cB)).dec=kIn a b:=by kernel_rfl
noncomputable def qDf:PrimD:=prim (dc jG (d1 jG)) (d1 cB) (qCJ)
theorem qH9:Ok1 Tryz.prog tb qi.sound 153 qDf:=qf qx yl (by kernel_rfl) fun a y hg h=>⟨0,9,0,(qGH 0 a.1 a.2).trans (qFd a y hg h)⟩
theorem qBC (fu:Nat)  (c:((Bool×(Int×Int))×(Bool×(Int×Int)))) (v:Int) (k:Int):qu tb j8 (shN tb j8 fu 9) fu 154 ((dc jG (dc (cI .i64) (d1 (cI .i64)))).enc (c,v,k)) ((d1 cB)).dec=qE9 c v k:=by kernel_rfl
noncomputable def qw5:PrimD:=prim (dc jG (dc (cI .i64) (d1 (cI .i64)))) (d1 cB) (quH)
theorem qGI:Ok1 Tryz.prog tb qi.sound 154 qw5:=qf qx yl (by kernel_rfl) fun a y hg h=>⟨0,9,0,(qBC 0 a.1 a.2.1 a.2.2).trans (qzF a y hg h)⟩
noncomputable def yI:qw:=qM [(79,qDc),(102,qpC),(97,qw4),(165,qDd),(90,qDe),(153,qDf),(154,qw5)] j8
theorem y7:qn Tryz.prog tb qi.sound yI:=qk yl (qe qH6 (qe qBA (qe qGE (qe qH7 (qe qH8 (qe qH9 (qe qGI qp)))))))
end Su
end
section
namespace Su
open Go Go.Proofs Fly
set_option maxRecDepth 100000
theorem qw6 (fu:Nat)  (lo:Int) (hi:Int):qu tb yI (shN tb yI fu 9) fu 95 ((dc (cI .u64) (d1 (cI .u64))).enc (lo,hi)) ((d1 yJ)).dec=qCK lo hi:=by kernel_rfl
noncomputable def qpD:PrimD:=prim (dc (cI .u64) (d1 (cI .u64))) (d1 yJ) (qoM)
theorem qBD:Ok1 Tryz.prog tb qi.sound 95 qpD:=qf qx y7 (by kernel_rfl) fun a y hg h=>⟨0,9,0,(qw6 0 a.1 a.2).trans (quN a y hg h)⟩
theorem qGJ (fu:Nat)  (a:(Bool×(Int×Int))) (b:(Bool×(Int×Int))):qu tb yI (shN tb yI fu 9) fu 52 ((dc yJ (d1 yJ)).enc (a,b)) ((d1 cB)).dec=zIn a b:=by kernel_rfl
noncomputable def qDg:PrimD:=prim (dc yJ (d1 yJ)) (d1 cB) (qCL)
theorem qIa:Ok1 Tryz.prog tb qi.sound 52 qDg:=qf qx y7 (by kernel_rfl) fun a y hg h=>⟨0,9,0,(qGJ 0 a.1 a.2).trans (qFf a y hg h)⟩
theorem qBE (fu:Nat)  (s:(Bool×(Int×Int))) (f:Int):qu tb yI (shN tb yI fu 9) fu 57 ((dc yJ (d1 (cI .u64))).enc (s,f)) ((d1 cB)).dec=qFe s f:=by kernel_rfl
noncomputable def qw7:PrimD:=prim (dc yJ (d1 (cI .u64))) (d1 cB) (quO)
theorem qGK:Ok1 Tryz.prog tb qi.sound 57 qw7:=qf qx y7 (by kernel_rfl) fun a y hg h=>⟨0,9,0,(qBE 0 a.1 a.2).trans (qzG a y hg h)⟩
theorem qw8 (fu:Nat)  (a:(Bool×(Int×Int))) (b:(Bool×(Int×Int))):qu tb yI (shN tb yI fu 9) fu 99 ((dc yJ (d1 yJ)).enc (a,b)) ((d1 yJ)).dec=quL a b:=by kernel_rfl
noncomputable def qpE:PrimD:=prim (dc yJ (d1 yJ)) (d1 yJ) (qoN)
theorem qBF:Ok1 Tryz.prog tb qi.sound 99 qpE:=qf qx y7 (by kernel_rfl) fun a y hg h=>⟨0,9,0,(qw8 0 a.1 a.2).trans (quP a y hg h)⟩
theorem qw9 (fu:Nat) (l:(List (Bool×(Int×Int)))):qu tb yI (shN tb yI fu 9) fu 91 ((d1 (cL rSp)).enc (l)) ((d1 yJ)).dec=quM fu l:=by kernel_rfl
noncomputable def qpF:PrimD:=prim (d1 (cL rSp)) (d1 yJ) (qoP)
theorem qBG:Ok1 Tryz.prog tb qi.sound 91 qpF:=qf qx y7 (by kernel_rfl) fun a y hg h=>by
 obtain ⟨n,hn⟩:=quQ a y hg h
 exact ⟨n,9,n,(qw9 n a).trans hn⟩
theorem qrh (fu:Nat) (l:(List Int)):qu tb yI (shN tb yI fu 9) fu 92 ((d1 (cQ 2 1)).enc (l)) ((d1 (cI .u64))).dec=qm1 fu l:=by kernel_rfl
noncomputable def qlN:PrimD:=prim (d1 (cQ 2 1)) (d1 (cI .u64)) (qlg)
theorem qxa:Ok1 Tryz.prog tb qi.sound 92 qlN:=qf qx y7 (by kernel_rfl) fun a y hg h=>by
 obtain ⟨n,hn⟩:=qqL a y hg h
 exact ⟨n,9,n,(qrh n a).trans hn⟩
noncomputable def qdy:qw:=qM [(95,qpD),(52,qDg),(57,qw7),(99,qpE),(91,qpF),(92,qlN)] yI
theorem qdz:qn Tryz.prog tb qi.sound qdy:=qk y7 (qe qBD (qe qIa (qe qGK (qe qBF (qe qBG (qe qxa qp))))))
end Su
end
section
namespace Su
open Go Go.Proofs Fly
set_option maxRecDepth 100000
theorem qxb (fu:Nat)  (x:Su.Ce) (t:Int):qu tb qdy (shN tb qdy fu 9) fu 151 ((dc cCe (d1 (cI .u8))).enc (x,t)) ((d1 cCe)).dec=quR x t:=by kernel_rfl
noncomputable def qpG:PrimD:=prim (dc cCe (d1 (cI .u8))) (d1 cCe) (qoQ)
theorem qBH:Ok1 Tryz.prog tb qi.sound 151 qpG:=qf qx qdz (by kernel_rfl) fun a y hg h=>⟨0,9,0,(qxb 0 a.1 a.2).trans (quT a y hg h)⟩
theorem qxc (fu:Nat)  (x:Su.Ce) (t:Int):qu tb qdy (shN tb qdy fu 9) fu 152 ((dc cCe (d1 (cI .u8))).enc (x,t)) ((d1 cB)).dec=quS x t:=by kernel_rfl
noncomputable def qpH:PrimD:=prim (dc cCe (d1 (cI .u8))) (d1 cB) (qoR)
theorem qBI:Ok1 Tryz.prog tb qi.sound 152 qpH:=qf qx qdz (by kernel_rfl) fun a y hg h=>⟨0,9,0,(qxc 0 a.1 a.2).trans (quU a y hg h)⟩
noncomputable def qjq:qw:=qM [(151,qpG),(152,qpH)] qdy
theorem qhF:qn Tryz.prog tb qi.sound qjq:=qk qdz (qe qBH (qe qBI qp))
end Su
end
section
namespace Su
open Go Go.Proofs Fly
set_option maxRecDepth 100000
theorem qxd (fu:Nat) (c:(Int×((List Su.Cc)×((List Su.T)×((List Su.T)×((List Su.T)×((List Su.T)×Int))))))) (l:(List (Bool×(Bool×(Int×(Int×(List Su.Ce))))))):qu tb qjq (shN tb qjq fu 9) fu 13 ((dc cCo (d1 (cL rSt))).enc (c,l)) ((d1 cB)).dec=qoS fu c l:=by kernel_rfl
noncomputable def qpI:PrimD:=prim (dc cCo (d1 (cL rSt))) (d1 cB) (qoT)
theorem qBJ:Ok1 Tryz.prog tb qi.sound 13 qpI:=qf qx qhF (by kernel_rfl) fun a y hg h=>by
 obtain ⟨n,hn⟩:=quW a y hg h
 exact ⟨n,9,n,(qxd n a.1 a.2).trans hn⟩
noncomputable def qjr:qw:=qM [(13,qpI)] qjq
theorem qhG:qn Tryz.prog tb qi.sound qjr:=qk qhF (qe qBJ qp)
end Su
end
section
namespace Su
open Go Go.Proofs Fly
set_option maxRecDepth 100000
theorem qxe (fu:Nat) (c:(Int×((List Su.Cc)×((List Su.T)×((List Su.T)×((List Su.T)×((List Su.T)×Int))))))) (s:(Bool×(Bool×(Int×(Int×(List Su.Ce)))))) (row:(List Su.Pr)):qu tb qjr (shN tb qjr fu 9) fu 19 ((dc cCo (dc cSt (d1 (cL rPr)))).enc (c,s,row)) ((d1 cB)).dec=qo0 fu c s row:=by kernel_rfl
noncomputable def qpJ:PrimD:=prim (dc cCo (dc cSt (d1 (cL rPr)))) (d1 cB) (Z4)
theorem qBK:Ok1 Tryz.prog tb qi.sound 19 qpJ:=qf qx qhG (by kernel_rfl) fun a y hg h=>by
 obtain ⟨n,hn⟩:=qu3 a y hg h
 exact ⟨n,9,n,(qxe n a.1 a.2.1 a.2.2).trans hn⟩
noncomputable def qjs:qw:=qM [(19,qpJ)] qjr
theorem qhH:qn Tryz.prog tb qi.sound qjs:=qk qhG (qe qBK qp)
end Su
end
section
namespace Su
open Go Go.Proofs Fly
set_option maxRecDepth 100000
theorem qxf (fu:Nat) (c:(Int×((List Su.Cc)×((List Su.T)×((List Su.T)×((List Su.T)×((List Su.T)×Int))))))) (s:(Bool×(Bool×(Int×(Int×(List Su.Ce)))))):qu tb qjs (shN tb qjs fu 9) fu 37 ((dc cCo (d1 cSt)).enc (c,s)) ((d1 cSt)).dec=qo1 fu c s:=by kernel_rfl
noncomputable def qpK:PrimD:=prim (dc cCo (d1 cSt)) (d1 cSt) (qo2)
theorem qBL:Ok1 Tryz.prog tb qi.sound 37 qpK:=qf qx qhH (by kernel_rfl) fun a y hg h=>by
 obtain ⟨n,hn⟩:=qu5 a y hg h
 exact ⟨n,9,n,(qxf n a.1 a.2).trans hn⟩
noncomputable def qjt:qw:=qM [(37,qpK)] qjs
theorem qhI:qn Tryz.prog tb qi.sound qjt:=qk qhH (qe qBL qp)
end Su
end
section
namespace Su
open Go Go.Proofs Fly
set_option maxRecDepth 100000
theorem qBM (fu:Nat) (c:(Int×((List Su.Cc)×((List Su.T)×((List Su.T)×((List Su.T)×((List Su.T)×Int))))))) (s:(Bool×(Bool×(Int×(Int×(List Su.Ce)))))):qu tb qjt (shN tb qjt fu 9) fu 34 ((dc cCo (d1 cSt)).enc (c,s)) ((d1 cSt)).dec=qzU fu c s:=by kernel_rfl
noncomputable def qxg:PrimD:=prim (dc cCo (d1 cSt)) (d1 cSt) (qu6)
theorem qGL:Ok1 Tryz.prog tb qi.sound 34 qxg:=qf qx qhI (by kernel_rfl) fun a y hg h=>by
 obtain ⟨n,hn⟩:=qzW a y hg h
 exact ⟨n,9,n,(qBM n a.1 a.2).trans hn⟩
noncomputable def qju:qw:=qM [(34,qxg)] qjt
theorem qhJ:qn Tryz.prog tb qi.sound qju:=qk qhI (qe qGL qp)
end Su
end
section
namespace Su
open Go Go.Proofs Fly
set_option maxRecDepth 100000
theorem qri (fu:Nat) (c:(Int×((List Su.Cc)×((List Su.T)×((List Su.T)×((List Su.T)×((List Su.T)×Int))))))):qu tb qju (shN tb qju fu 9) fu 24 ((d1 cCo).enc (c)) ((d1 cSt)).dec=qm4 fu c:=by kernel_rfl
noncomputable def qlO:PrimD:=prim (d1 cCo) (d1 cSt) (qlh)
theorem qxh:Ok1 Tryz.prog tb qi.sound 24 qlO:=qf qx qhJ (by kernel_rfl) fun a y hg h=>by
 obtain ⟨n,hn⟩:=qqO a y hg h
 exact ⟨n,9,n,(qri n a).trans hn⟩
noncomputable def qjv:qw:=qM [(24,qlO)] qju
theorem qhK:qn Tryz.prog tb qi.sound qjv:=qk qhJ (qe qxh qp)
end Su
end
section
namespace Su
open Go Go.Proofs Fly
set_option maxRecDepth 100000
theorem qBN (fu:Nat) (c:(Int×((List Su.Cc)×((List Su.T)×((List Su.T)×((List Su.T)×((List Su.T)×Int))))))) (s:(Bool×(Bool×(Int×(Int×(List Su.Ce)))))):qu tb qjv (shN tb qjv fu 9) fu 35 ((dc cCo (d1 cSt)).enc (c,s)) ((d1 cSt)).dec=qzX fu c s:=by kernel_rfl
noncomputable def qxi:PrimD:=prim (dc cCo (d1 cSt)) (d1 cSt) (qfT)
theorem qGM:Ok1 Tryz.prog tb qi.sound 35 qxi:=qf qx qhK (by kernel_rfl) fun a y hg h=>by
 obtain ⟨n,hn⟩:=qzZ a y hg h
 exact ⟨n,9,n,(qBN n a.1 a.2).trans hn⟩
noncomputable def qjw:qw:=qM [(35,qxi)] qjv
theorem qhL:qn Tryz.prog tb qi.sound qjw:=qk qhK (qe qGM qp)
end Su
end
section
namespace Su
open Go Go.Proofs Fly
set_option maxRecDepth 100000
theorem qrj (fu:Nat) (c:(Int×((List Su.Cc)×((List Su.T)×((List Su.T)×((List Su.T)×((List Su.T)×Int))))))) (s:(Bool×(Bool×(Int×(Int×(List Su.Ce)))))):qu tb qjw (shN tb qjw fu 9) fu 20 ((dc cCo (d1 cSt)).enc (c,s)) ((d1 cSt)).dec=qiU fu c s:=by kernel_rfl
noncomputable def qlP:PrimD:=prim (dc cCo (d1 cSt)) (d1 cSt) (qch)
theorem qxj:Ok1 Tryz.prog tb qi.sound 20 qlP:=qf qx qhL (by kernel_rfl) fun a y hg h=>by
 obtain ⟨n,hn⟩:=qqR a y hg h
 exact ⟨n,9,n,(qrj n a.1 a.2).trans hn⟩
noncomputable def qjx:qw:=qM [(20,qlP)] qjw
theorem qhM:qn Tryz.prog tb qi.sound qjx:=qk qhL (qe qxj qp)
end Su
end
section
namespace Su
open Go Go.Proofs Fly
set_option maxRecDepth 100000
theorem qxk (fu:Nat)  (f:Int):qu tb qjx (shN tb qjx fu 9) fu 140 ((d1 (cI .u64)).enc (f)) ((d1 cRt)).dec=qCO f:=by kernel_rfl
noncomputable def qpL:PrimD:=prim (d1 (cI .u64)) (d1 cRt) (Z6)
theorem qBO:Ok1 Tryz.prog tb qi.sound 140 qpL:=qf qx qhM (by kernel_rfl) fun a y hg h=>⟨0,9,0,(qxk 0 a).trans (qva a y hg h)⟩
noncomputable def qez:qw:=qM [(140,qpL)] qjx
theorem qf2:qn Tryz.prog tb qi.sound qez:=qk qhM (qe qBO qp)
end Su
end
section
namespace Su
open Go Go.Proofs Fly
set_option maxRecDepth 100000
theorem qGN (fu:Nat) (a:(Bool×(Int×((List Su.Tm)×Int)))) (f:Int):qu tb qez (shN tb qez fu 9) fu 56 ((dc yc (d1 (cI .u64))).enc (a,f)) ((d1 cB)).dec=aOf fu a f:=by kernel_rfl
noncomputable def qDh:PrimD:=prim (dc yc (d1 (cI .u64))) (d1 cB) (qci)
theorem qIb:Ok1 Tryz.prog tb qi.sound 56 qDh:=qf qx qf2 (by kernel_rfl) fun a y hg h=>by
 obtain ⟨n,hn⟩:=qFm a y hg h
 exact ⟨n,9,n,(qGN n a.1 a.2).trans hn⟩
noncomputable def qjy:qw:=qM [(56,qDh)] qez
theorem qhN:qn Tryz.prog tb qi.sound qjy:=qk qf2 (qe qIb qp)
end Su
end
section
namespace Su
open Go Go.Proofs Fly
set_option maxRecDepth 100000
theorem qBP (fu:Nat) (c:(Int×((List Su.Cc)×((List Su.T)×((List Su.T)×((List Su.T)×((List Su.T)×Int))))))) (s:(Bool×(Bool×(Int×(Int×(List Su.Ce)))))) (row:(List Su.Vl)) (k:Int):qu tb qjy (shN tb qjy fu 9) fu 22 ((dc cCo (dc cSt (dc (cL rVl) (d1 (cI .i64))))).enc (c,s,row,k)) ((d1 cB)).dec=qz4 fu c s row k:=by kernel_rfl
noncomputable def qxl:PrimD:=prim (dc cCo (dc cSt (dc (cL rVl) (d1 (cI .i64))))) (d1 cB) (qa7)
theorem qGO:Ok1 Tryz.prog tb qi.sound 22 qxl:=qf qx qhN (by kernel_rfl) fun a y hg h=>by
 obtain ⟨n,hn⟩:=qz5 a y hg h
 exact ⟨n,9,n,(qBP n a.1 a.2.1 a.2.2.1 a.2.2.2).trans hn⟩
noncomputable def qxm:qw:=qM [(22,qxl)] qjy
theorem qrk:qn Tryz.prog tb qi.sound qxm:=qk qhN (qe qGO qp)
end Su
end
section
namespace Su
open Go Go.Proofs Fly
set_option maxRecDepth 100000
noncomputable def qxn (f:Int):Option (Rt×Bool):=some (bif j7 f.toNat then ((false,([],[])),false) else (yo f.toNat,true))
noncomputable def qxo:PrimD:=prim (d1 (cI .u64)) (dc cRt (d1 cB)) qxn
theorem qxp:qxn=yB:=by
 funext f;unfold qxn yB;rw [qbX];rfl
theorem qBQ:Ok1 Tryz.prog tb qi.sound 14 qxo:=by unfold qxo;rw [qxp];exact qwc
noncomputable def prW:qw:=qM [(14,qxo)] qba
theorem qGP:qn Tryz.prog tb qi.sound prW:=qk qad (qe qBQ qp)
theorem qrl:qu tb prW (shN tb prW 60 25) 60 12 [] (d1 cB).dec=some true:=by kernel_rfl
noncomputable def qpM:PrimD:=prim d0 (d1 cB) fun _=>some true
theorem qBR:Ok1 Tryz.prog tb qi.sound 12 qpM:=qf qx qGP (by kernel_rfl) fun a y hg h=>⟨60,25,60,qrl.trans h⟩
noncomputable def qjz:qw:=qM [(12,qpM)] qxm
theorem qhO:qn Tryz.prog tb qi.sound qjz:=qk qrk (qe qBR qp)
end Su
end
section
namespace Su
open Go Go.Proofs Fly
set_option maxRecDepth 100000
theorem qBS (fu:Nat)  (a:(Bool×Bool)) (b:(Bool×Bool)):qu tb qjz (shN tb qjz fu 9) fu 89 ((dc cB2 (d1 cB2)).enc (a,b)) ((d1 cB2)).dec=qFo a b:=by kernel_rfl
noncomputable def qxq:PrimD:=prim (dc cB2 (d1 cB2)) (d1 cB2) (qvb)
theorem qGQ:Ok1 Tryz.prog tb qi.sound 89 qxq:=qf qx qhO (by kernel_rfl) fun a y hg h=>⟨0,9,0,(qBS 0 a.1 a.2).trans (qz6 a y hg h)⟩
noncomputable def qjA:qw:=qM [(89,qxq)] qjz
theorem qhP:qn Tryz.prog tb qi.sound qjA:=qk qhO (qe qGQ qp)
end Su
end
section
namespace Su
open Go Go.Proofs Fly
set_option maxRecDepth 100000
theorem qBT (fu:Nat)  (x:Su.Ce) (t:Int) (y:Su.Ce):qu tb qjA (shN tb qjA fu 9) fu 73 ((dc cCe (dc (cI .u8) (d1 cCe))).enc (x,t,y)) ((d1 cB)).dec=qFw x t y:=by kernel_rfl
noncomputable def qxr:PrimD:=prim (dc cCe (dc (cI .u8) (d1 cCe))) (d1 cB) (qfX)
theorem qGR:Ok1 Tryz.prog tb qi.sound 73 qxr:=qf qx qhP (by kernel_rfl) fun a y hg h=>⟨0,9,0,(qBT 0 a.1 a.2.1 a.2.2).trans (qAe a y hg h)⟩
noncomputable def qjB:qw:=qM [(73,qxr)] qjA
theorem qhQ:qn Tryz.prog tb qi.sound qjB:=qk qhP (qe qGR qp)
end Su
end
section
namespace Su
open Go Go.Proofs Fly
set_option maxRecDepth 100000
theorem qxs (fu:Nat) (c:(Int×((List Su.Cc)×((List Su.T)×((List Su.T)×((List Su.T)×((List Su.T)×Int))))))) (s:(Bool×(Bool×(Int×(Int×(List Su.Ce)))))) (u:Unit):qu tb qjB (shN tb qjB fu 9) fu 70 ((dc cCo (dc cSt (d1 (cF 72)))).enc (c,s,u)) ((d1 cSt)).dec=qo9 fu c s u:=by kernel_rfl
noncomputable def qpN:PrimD:=prim (dc cCo (dc cSt (d1 (cF 72)))) (d1 cSt) (Z9)
theorem qBU:Ok1 Tryz.prog tb qi.sound 70 qpN:=qf qx qhQ (by kernel_rfl) fun a y hg h=>by
 obtain ⟨n,hn⟩:=qvp a y hg h
 exact ⟨n,9,n,(qxs n a.1 a.2.1 a.2.2).trans hn⟩
noncomputable def qjC:qw:=qM [(70,qpN)] qjB
theorem qhR:qn Tryz.prog tb qi.sound qjC:=qk qhQ (qe qBU qp)
end Su
end
section
namespace Su
open Go Go.Proofs Fly
set_option maxRecDepth 100000
theorem qBV (fu:Nat) (c:(Int×((List Su.Cc)×((List Su.T)×((List Su.T)×((List Su.T)×((List Su.T)×Int))))))) (a:(Bool×(Bool×(Int×(Int×(List Su.Ce)))))) (b:(Bool×(Bool×(Int×(Int×(List Su.Ce)))))):qu tb qjC (shN tb qjC fu 9) fu 21 ((dc cCo (dc cSt (d1 cSt))).enc (c,a,b)) ((d1 cB)).dec=qAf fu c a b:=by kernel_rfl
noncomputable def qxt:PrimD:=prim (dc cCo (dc cSt (d1 cSt))) (d1 cB) (qdc)
theorem qGS:Ok1 Tryz.prog tb qi.sound 21 qxt:=qf qx qhR (by kernel_rfl) fun a y hg h=>by
 obtain ⟨n,hn⟩:=qAg a y hg h
 exact ⟨n,9,n,(qBV n a.1 a.2.1 a.2.2).trans hn⟩
noncomputable def qjD:qw:=qM [(21,qxt)] qjC
theorem qhS:qn Tryz.prog tb qi.sound qjD:=qk qhR (qe qGS qp)
end Su
end
section
namespace Su
open Go Go.Proofs Fly
set_option maxRecDepth 100000
theorem qBW (fu:Nat) (row:(List Su.Vl)) (r:(Bool×((List Int)×(List Int)))):qu tb qjD (shN tb qjD fu 9) fu 23 ((dc (cL rVl) (d1 cRt)).enc (row,r)) ((d1 (cL rPr))).dec=qAl fu row r:=by kernel_rfl
noncomputable def qxu:PrimD:=prim (dc (cL rVl) (d1 cRt)) (d1 (cL rPr)) (qi7)
theorem qGT:Ok1 Tryz.prog tb qi.sound 23 qxu:=qf qx qhS (by kernel_rfl) fun a y hg h=>by
 obtain ⟨n,hn⟩:=qAo a y hg h
 exact ⟨n,9,n,(qBW n a.1 a.2).trans hn⟩
noncomputable def qng:qw:=qM [(23,qxu)] qjD
theorem qrm:qn Tryz.prog tb qi.sound qng:=qk qhS (qe qGT qp)
end Su
end
section
namespace Su
open Go Go.Proofs Fly
set_option maxRecDepth 100000
theorem qBX (fu:Nat)  (c:(Int×((List Su.Cc)×((List Su.T)×((List Su.T)×((List Su.T)×((List Su.T)×Int))))))) (a:(Bool×(Bool×(Int×(Int×(List Su.Ce)))))) (b:(Bool×(Bool×(Int×(Int×(List Su.Ce)))))) (row:(List Su.Vl)) (k:Int) (real:Int):qu tb qng (shN tb qng fu 9) fu 4 ((dc cCo (dc cSt (dc cSt (dc (cL rVl) (dc (cI .i64) (d1 (cI .u64))))))).enc (c,a,b,row,k,real)) ((d1 cB)).dec=qAp c a b row k real:=by kernel_rfl
noncomputable def qGU:PrimD:=prim (dc cCo (dc cSt (dc cSt (dc (cL rVl) (dc (cI .i64) (d1 (cI .u64))))))) (d1 cB) (qvA)
theorem qGV:Ok1 Tryz.prog tb qi.sound 4 qGU:=qf qx qrm (by kernel_rfl) fun a y hg h=>⟨0,9,0,(qBX 0 a.1 a.2.1 a.2.2.1 a.2.2.2.1 a.2.2.2.2.1 a.2.2.2.2.2).trans (qAq a y hg h)⟩
end Su
end
section
namespace Su
open Go Fly
def jw (P:Program) (t:Nat):Bool:=match P.underlying t with
 | some (.struct _)=>true
 | _=>false
def qhT (P:Program) (S:List Nat) (n:Nat):Nat→List Field→Bool
 | o,[]=>Nat.beq o n
 | o,f::fs=>Nat.beq f.offset o&&(S.contains f.type&&qhT P S n (o+P.cellsOf f.type) fs)
def Yb (P:Program) (S:List Nat) (t:Nat):Bool:=match P.underlying t with
 | some .bool=>Nat.beq (P.cellsOf t) 1
 | some (.int _)=>Nat.beq (P.cellsOf t) 1
 | some (.float _)=>Nat.beq (P.cellsOf t) 1
 | some .string=>Nat.beq (P.cellsOf t) 1
 | some (.slice e)=>Nat.beq (P.cellsOf t) 1&&(S.contains e&&Nat.blt 0 (P.cellsOf e))
 | some (.struct fs)=>qhT P S (P.cellsOf t) 0 fs.toList
 | _=>false
inductive All2 {α β:Type} (R:α→β→Prop):List α→List β→Prop
 | nil:All2 R [] []
 | cons {a:α} {b:β} {l:List α} {m:List β} (h:R a b) (h':All2 R l m):All2 R (a::l) (b::m)
def Shp (P:Program):Nat→Nat→List T→Prop
 | 0,_,_=>False
 | fuel+1,t,xs=>match P.underlying t with
  | some .bool=>∃ b,xs=[.s (.bool b)]
  | some (.int k)=>∃ n,xs=[.s (.int k n)]∧(Lit.int k n).wf=true
  | some (.float k)=>∃ b,xs=[.s (.float k b)]∧(Lit.float k b).wf=true
  | some .string=>∃ s,xs=[.s (.string s)]∧s.size≤maxLen
  | some (.slice e)=>∃ l,xs=[.sl (P.cellsOf e) l]∧l.length≤maxLen∧∀ x∈l,x.isAgg=jw P e∧Shp P fuel e x.cells
  | some (.struct fs)=>∃ parts:List (List T),xs=parts.flatten∧All2 (fun (f:Field) p=>Shp P fuel f.type p) fs.toList parts
  | _=>False
def hv (w:World):qc:=fun b=>w.heap[b]?
theorem qBY {a:Addr} {m n:Nat} (h:n≠0∨m=0∨a.spot=none):(a.add m).add n=a.add (m+n):=by
 unfold Addr.add
 by_cases hn:n=0
 · subst hn;simp
 · by_cases hm:m=0
   · subst hm;simp [hn]
   · simp [hn,hm,Nat.add_assoc]
theorem qf3 {w:World} {a:Addr} {v:Value} (h:w.cell? a=some v):a.spot=none∧rd (hv w) a.block a.off v:=by
 unfold World.cell? at h
 split at h
 · rename_i c e f hb
   cases hs:a.spot with
   | some s=>rw [hs] at h;simp at h
   | none=>rw [hs] at h;exact ⟨rfl,c,e,f,hb,by simpa using h⟩
 · simp at h
theorem qpO (a:Addr) (n:Nat):(a.add n).off=a.off+n∧(a.add n).block=a.block:=by
 unfold Addr.add;split
 · rename_i h;subst h;exact ⟨rfl,rfl⟩
 · exact ⟨rfl,rfl⟩
theorem qpP {w:World} {a:Addr} {k:Nat} (hk:0<k):∀ (css:List (List Value)) (s:Nat),(∀ i cs,css[i]?=some cs→w.cells? 0 (a.add ((s+i)*k)) k=some cs)→∀ j c,css.flatten[j]?=some c→rd (hv w) a.block (a.off+s*k+j) c∧w.cell? (a.add (s*k+j))=some c
 | [],s,h,j,c,hj=>by simp at hj
 | c0::css,s,h,j,c,hj=>by
  obtain ⟨_,hl,hc⟩:=World.cells?_some (h 0 c0 rfl)
  simp only [Nat.add_zero] at hc
  rw [List.flatten_cons] at hj
  rcases Nat.lt_or_ge j k with hjk | hjk
  · rw [List.getElem?_append_left (by omega)] at hj
    have h1:=hc j hjk
    rw [hj] at h1
    have h3:w.cell? (a.add (s*k+j))=some c:=by
     by_cases hj0:j=0
     · subst hj0
       have:(a.add (s*k)).add 0=a.add (s*k):=by unfold Addr.add;simp
       rw [this] at h1;exact h1
     · rw [qBY (.inl hj0)] at h1;exact h1
    obtain ⟨_,h2⟩:=qf3 h3
    rw [(qpO _ _).1,(qpO _ _).2] at h2
    exact ⟨by rw [Nat.add_assoc];exact h2,h3⟩
  · rw [List.getElem?_append_right (by omega),hl] at hj
    have h2:=qpP hk css (s+1) (fun i cs hi=>by
     have:=h (i+1) cs (by simpa using hi)
     rw [show s+1+i=s+(i+1) by omega];exact this) (j-k) c hj
    have e1:(s+1)*k+(j-k)=s*k+j:=by rw [Nat.add_mul];omega
    rw [Nat.add_assoc,e1] at h2
    exact ⟨by rw [Nat.add_assoc];exact h2.1,h2.2⟩
end Su
end
