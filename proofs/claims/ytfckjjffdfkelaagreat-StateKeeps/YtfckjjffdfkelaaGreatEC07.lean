/-
  The evaluator computes what the plain functions say.
-/
import Derived.Test.YtfckjjffdfkelaaGreatRw
import Derived.Test.YtfckjjffdfkelaaGreatSuTb
import Derived.Test.YtfckjjffdfkelaaGreatHSh3
import Derived.Test.YtfckjjffdfkelaaGreatNC10
import Derived.Test.YtfckjjffdfkelaaGreatNC13
import Derived.Test.YtfckjjffdfkelaaGreatNC14
import Derived.Test.YtfckjjffdfkelaaGreatNC24
import Derived.Test.YtfckjjffdfkelaaGreatNB25
import Derived.Test.YtfckjjffdfkelaaGreatNB30
import Derived.Test.YtfckjjffdfkelaaGreatNB32
import Derived.Test.YtfckjjffdfkelaaGreatRkq
import Derived.Test.YtfckjjffdfkelaaGreatSuP0
import Derived.ChangeSame
import Derived.ChangeOld
import Derived.DataReads
set_option maxRecDepth 10000
section
namespace Su
open Go Go.Proofs Fly
set_option maxRecDepth 100000
theorem qww (fu:Nat)  (x:Int):qq tb Qe (shN tb Qe fu 9) fu 219 ((d1 (cI .u64)).enc (x)) ((d1 (cI .i64))).dec=qtX x:=by kernel_rfl
noncomputable def qpI:PrimD:=prim (d1 (cI .u64)) (d1 (cI .i64)) (qoG)
theorem qA4:Ok1 Tryz.prog tb qi.sound 219 qpI:=qh qt Jo (by kernel_rfl) fun a y hg h=>⟨0,9,0,(qww 0 a).trans (qtZ a y hg h)⟩
theorem qA5 (fu:Nat)  (a:Int) (b:Int):qq tb Qe (shN tb Qe fu 9) fu 209 ((dc (cI .u64) (d1 (cI .u64))).enc (a,b)) ((d1 cW)).dec=qEM a b:=by kernel_rfl
noncomputable def qwx:PrimD:=prim (dc (cI .u64) (d1 (cI .u64))) (d1 cW) (qt0)
theorem qGj:Ok1 Tryz.prog tb qi.sound 209 qwx:=qh qt Jo (by kernel_rfl) fun a y hg h=>⟨0,9,0,(qA5 0 a.1 a.2).trans (qzg a y hg h)⟩
theorem qA6 (fu:Nat)  (a:(Int×Int)) (b:(Int×Int)):qq tb Qe (shN tb Qe fu 9) fu 223 ((dc cW (d1 cW)).enc (a,b)) ((dc cW (d1 (cI .u64)))).dec=qEN a b:=by kernel_rfl
noncomputable def qwy:PrimD:=prim (dc cW (d1 cW)) (dc cW (d1 (cI .u64))) (qt1)
theorem qGk:Ok1 Tryz.prog tb qi.sound 223 qwy:=qh qt Jo (by kernel_rfl) fun a y hg h=>⟨0,9,0,(qA6 0 a.1 a.2).trans (qzh a y hg h)⟩
theorem qA7 (fu:Nat)  (a:(Int×Int)) (b:(Int×Int)):qq tb Qe (shN tb Qe fu 9) fu 224 ((dc cW (d1 cW)).enc (a,b)) ((dc cW (d1 (cI .u64)))).dec=qEO a b:=by kernel_rfl
noncomputable def qwz:PrimD:=prim (dc cW (d1 cW)) (dc cW (d1 (cI .u64))) (qt2)
theorem qGl:Ok1 Tryz.prog tb qi.sound 224 qwz:=qh qt Jo (by kernel_rfl) fun a y hg h=>⟨0,9,0,(qA7 0 a.1 a.2).trans (qzj a y hg h)⟩
noncomputable def ZL:qu:=qR [(219,qpI),(209,qwx),(223,qwy),(224,qwz)] Qe
theorem qao:qo Tryz.prog tb qi.sound ZL:=qn Jo (qe qA4 (qe qGj (qe qGk (qe qGl qr))))
end Su
end
section
namespace Su
open Go Go.Proofs Fly
set_option maxRecDepth 100000
theorem qA8 (fu:Nat)  (a:(Int×Int)):qq tb ZL (shN tb ZL fu 9) fu 225 ((d1 cW).enc (a)) ((d1 (cI .i64))).dec=qEP a:=by kernel_rfl
noncomputable def qwA:PrimD:=prim (d1 cW) (d1 (cI .i64)) (qt3)
theorem qGm:Ok1 Tryz.prog tb qi.sound 225 qwA:=qh qt qao (by kernel_rfl) fun a y hg h=>⟨0,9,0,(qA8 0 a).trans (qzk a y hg h)⟩
theorem qA9 (fu:Nat) (a:(Int×Int)) (n:Int):qq tb ZL (shN tb ZL fu 9) fu 221 ((dc cW (d1 (cI .i64))).enc (a,n)) ((d1 cW)).dec=qEQ fu a n:=by kernel_rfl
noncomputable def qwB:PrimD:=prim (dc cW (d1 (cI .i64))) (d1 cW) (qt4)
theorem qGn:Ok1 Tryz.prog tb qi.sound 221 qwB:=qh qt qao (by kernel_rfl) fun a y hg h=>by
 obtain ⟨n,hn⟩:=qzl a y hg h
 exact ⟨n,9,n,(qA9 n a.1 a.2).trans hn⟩
theorem qBa (fu:Nat) (a:(Int×Int)) (n:Int):qq tb ZL (shN tb ZL fu 9) fu 222 ((dc cW (d1 (cI .i64))).enc (a,n)) ((dc cW (d1 cB))).dec=qER fu a n:=by kernel_rfl
noncomputable def qwC:PrimD:=prim (dc cW (d1 (cI .i64))) (dc cW (d1 cB)) (qt5)
theorem qGo:Ok1 Tryz.prog tb qi.sound 222 qwC:=qh qt qao (by kernel_rfl) fun a y hg h=>by
 obtain ⟨n,hn⟩:=qzm a y hg h
 exact ⟨n,9,n,(qBa n a.1 a.2).trans hn⟩
noncomputable def qdH:qu:=qR [(225,qwA),(221,qwB),(222,qwC)] ZL
theorem qdI:qo Tryz.prog tb qi.sound qdH:=qn qao (qe qGm (qe qGn (qe qGo qr)))
end Su
end
section
namespace Su
open Go Go.Proofs Fly
set_option maxRecDepth 100000
theorem qGp (fu:Nat)  (x:(Bool×(Int×(Int×(Int×Bool))))) (mode:Int) (odd:Bool) (half:Bool) (rest:Bool):qq tb qdH (shN tb qdH fu 9) fu 237 ((dc qiF (dc (cI .u8) (dc cB (dc cB (d1 cB))))).enc (x,mode,odd,half,rest)) ((d1 cB)).dec=rUp x mode odd half rest:=by kernel_rfl
noncomputable def qDc:PrimD:=prim (dc qiF (dc (cI .u8) (dc cB (dc cB (d1 cB))))) (d1 cB) (qCy)
theorem qH4:Ok1 Tryz.prog tb qi.sound 237 qDc:=qh qt qdI (by kernel_rfl) fun a y hg h=>⟨0,9,0,(qGp 0 a.1 a.2.1 a.2.2.1 a.2.2.2.1 a.2.2.2.2).trans (qET a y hg h)⟩
theorem qwD (fu:Nat)  (x:(Bool×(Int×(Int×(Int×Bool))))) (mode:Int):qq tb qdH (shN tb qdH fu 9) fu 238 ((dc qiF (d1 (cI .u8))).enc (x,mode)) ((dc (cI .u64) (d1 (cI .u8)))).dec=qt7 x mode:=by kernel_rfl
noncomputable def qpJ:PrimD:=prim (dc qiF (d1 (cI .u8))) (dc (cI .u64) (d1 (cI .u8))) (qoL)
theorem qBb:Ok1 Tryz.prog tb qi.sound 238 qpJ:=qh qt qdI (by kernel_rfl) fun a y hg h=>⟨0,9,0,(qwD 0 a.1 a.2).trans (qt8 a y hg h)⟩
noncomputable def qjy:qu:=qR [(237,qDc),(238,qpJ)] qdH
theorem qhN:qo Tryz.prog tb qi.sound qjy:=qn qdI (qe qH4 (qe qBb qr))
end Su
end
section
namespace Su
open Go Go.Proofs Fly
set_option maxRecDepth 100000
theorem qrn (fu:Nat)  (x:(Bool×(Int×(Int×(Int×Bool))))) (mode:Int):qq tb qjy (shN tb qjy fu 9) fu 226 ((dc qiF (d1 (cI .u8))).enc (x,mode)) ((dc (cI .u64) (d1 (cI .u8)))).dec=qm6 x mode:=by kernel_rfl
noncomputable def ql1:PrimD:=prim (dc qiF (d1 (cI .u8))) (dc (cI .u64) (d1 (cI .u8))) (Yf)
theorem qwE:Ok1 Tryz.prog tb qi.sound 226 ql1:=qh qt qhN (by kernel_rfl) fun a y hg h=>⟨0,9,0,(qrn 0 a.1 a.2).trans (qqO a y hg h)⟩
noncomputable def ZM:qu:=qR [(226,ql1)] qjy
theorem qap:qo Tryz.prog tb qi.sound ZM:=qn qhN (qe qwE qr)
end Su
end
section
namespace Su
open Go Go.Proofs Fly
set_option maxRecDepth 100000
theorem qro (fu:Nat)  (neg:Bool) (m:(Int×Int)) (e:Int) (rest:Bool) (mode:Int):qq tb ZM (shN tb ZM fu 9) fu 208 ((dc cB (dc cW (dc (cI .i64) (dc cB (d1 (cI .u8)))))).enc (neg,m,e,rest,mode)) ((dc (cI .u64) (d1 (cI .u8)))).dec=qm7 neg m e rest mode:=by kernel_rfl
noncomputable def ql2:PrimD:=prim (dc cB (dc cW (dc (cI .i64) (dc cB (d1 (cI .u8)))))) (dc (cI .u64) (d1 (cI .u8))) (qle)
theorem qwF:Ok1 Tryz.prog tb qi.sound 208 ql2:=qh qt qap (by kernel_rfl) fun a y hg h=>⟨0,9,0,(qro 0 a.1 a.2.1 a.2.2.1 a.2.2.2.1 a.2.2.2.2).trans (qqP a y hg h)⟩
theorem qGq (fu:Nat)  (f:Int):qq tb ZM (shN tb ZM fu 9) fu 201 ((d1 (cI .u64)).enc (f)) ((d1 qqC)).dec=sOf f:=by kernel_rfl
noncomputable def qDd:PrimD:=prim (d1 (cI .u64)) (d1 qqC) (fun a=>sOf a)
theorem qH5:Ok1 Tryz.prog tb qi.sound 201 qDd:=qh qt qap (by kernel_rfl) fun a y hg h=>⟨0,9,0,(qGq 0 a).trans h⟩
theorem qwG (fu:Nat)  (neg:Bool):qq tb ZM (shN tb ZM fu 9) fu 205 ((d1 cB).enc (neg)) ((d1 (cI .u64))).dec=qCz neg:=by kernel_rfl
noncomputable def qpK:PrimD:=prim (d1 cB) (d1 (cI .u64)) (fun a=>qCz a)
theorem qBc:Ok1 Tryz.prog tb qi.sound 205 qpK:=qh qt qap (by kernel_rfl) fun a y hg h=>⟨0,9,0,(qwG 0 a).trans h⟩
noncomputable def qjz:qu:=qR [(208,ql2),(201,qDd),(205,qpK)] ZM
theorem qhO:qo Tryz.prog tb qi.sound qjz:=qn qap (qe qwF (qe qH5 (qe qBc qr)))
end Su
end
section
namespace Su
open Go Go.Proofs Fly
set_option maxRecDepth 100000
theorem qwH (fu:Nat)  (x:(Int×(Int×(Bool×(Int×Int))))) (y:(Int×(Int×(Bool×(Int×Int))))) (mode:Int):qq tb qjz (shN tb qjz fu 9) fu 206 ((dc qqC (dc qqC (d1 (cI .u8)))).enc (x,y,mode)) ((dc (cI .u64) (d1 (cI .u8)))).dec=qb9 x y mode:=by kernel_rfl
noncomputable def qpL:PrimD:=prim (dc qqC (dc qqC (d1 (cI .u8)))) (dc (cI .u64) (d1 (cI .u8))) (fun a=>qb9 a.1 a.2.1 a.2.2)
theorem qBd:Ok1 Tryz.prog tb qi.sound 206 qpL:=qh qt qhO (by kernel_rfl) fun a y hg h=>⟨0,9,0,(qwH 0 a.1 a.2.1 a.2.2).trans h⟩
noncomputable def qdJ:qu:=qR [(206,qpL)] qjz
theorem qdK:qo Tryz.prog tb qi.sound qdJ:=qn qhO (qe qBd qr)
end Su
end
section
namespace Su
open Go Go.Proofs Fly
set_option maxRecDepth 100000
theorem qBe (fu:Nat)  (a:Int) (b:Int) (mode:Int):qq tb qdJ (shN tb qdJ fu 9) fu 174 ((dc (cI .u64) (dc (cI .u64) (d1 (cI .u8)))).enc (a,b,mode)) ((dc (cI .u64) (d1 (cI .u8)))).dec=qqR a b mode:=by kernel_rfl
noncomputable def qwI:PrimD:=prim (dc (cI .u64) (dc (cI .u64) (d1 (cI .u8)))) (dc (cI .u64) (d1 (cI .u8))) (fun a=>qqR a.1 a.2.1 a.2.2)
theorem qGr:Ok1 Tryz.prog tb qi.sound 174 qwI:=qh qt qdK (by kernel_rfl) fun a y hg h=>⟨0,9,0,(qBe 0 a.1 a.2.1 a.2.2).trans h⟩
theorem qBf (fu:Nat)  (a:Int) (b:Int) (mode:Int):qq tb qdJ (shN tb qdJ fu 9) fu 179 ((dc (cI .u64) (dc (cI .u64) (d1 (cI .u8)))).enc (a,b,mode)) ((dc (cI .u64) (d1 (cI .u8)))).dec=qub a b mode:=by kernel_rfl
noncomputable def qwJ:PrimD:=prim (dc (cI .u64) (dc (cI .u64) (d1 (cI .u8)))) (dc (cI .u64) (d1 (cI .u8))) (fun a=>qub a.1 a.2.1 a.2.2)
theorem qGs:Ok1 Tryz.prog tb qi.sound 179 qwJ:=qh qt qdK (by kernel_rfl) fun a y hg h=>⟨0,9,0,(qBf 0 a.1 a.2.1 a.2.2).trans h⟩
noncomputable def ZN:qu:=qR [(174,qwI),(179,qwJ)] qdJ
theorem qaq:qo Tryz.prog tb qi.sound ZN:=qn qdK (qe qGr (qe qGs qr))
end Su
end
section
namespace Su
open Go Go.Proofs Fly
set_option maxRecDepth 100000
theorem qBg (fu:Nat)  (a:Int) (b:Int) (mode:Int):qq tb ZN (shN tb ZN fu 9) fu 114 ((dc (cI .u64) (dc (cI .u64) (d1 (cI .u8)))).enc (a,b,mode)) ((d1 (cI .u64))).dec=qEW a b mode:=by kernel_rfl
noncomputable def qwK:PrimD:=prim (dc (cI .u64) (dc (cI .u64) (d1 (cI .u8)))) (d1 (cI .u64)) (que)
theorem qGt:Ok1 Tryz.prog tb qi.sound 114 qwK:=qh qt qaq (by kernel_rfl) fun a y hg h=>⟨0,9,0,(qBg 0 a.1 a.2.1 a.2.2).trans (qzp a y hg h)⟩
theorem qBh (fu:Nat)  (a:Int) (b:Int) (mode:Int):qq tb ZN (shN tb ZN fu 9) fu 121 ((dc (cI .u64) (dc (cI .u64) (d1 (cI .u8)))).enc (a,b,mode)) ((d1 (cI .u64))).dec=qEX a b mode:=by kernel_rfl
noncomputable def qwL:PrimD:=prim (dc (cI .u64) (dc (cI .u64) (d1 (cI .u8)))) (d1 (cI .u64)) (quf)
theorem qGu:Ok1 Tryz.prog tb qi.sound 121 qwL:=qh qt qaq (by kernel_rfl) fun a y hg h=>⟨0,9,0,(qBh 0 a.1 a.2.1 a.2.2).trans (qzq a y hg h)⟩
theorem qGv (fu:Nat) (l:(List Int)):qq tb ZN (shN tb ZN fu 9) fu 112 ((d1 (cQ 2 1)).enc (l)) ((d1 (cI .u64))).dec=aUp fu l:=by kernel_rfl
noncomputable def qDe:PrimD:=prim (d1 (cQ 2 1)) (d1 (cI .u64)) (qCA)
theorem qH6:Ok1 Tryz.prog tb qi.sound 112 qDe:=qh qt qaq (by kernel_rfl) fun a y hg h=>by
 obtain ⟨n,hn⟩:=qEY a y hg h
 exact ⟨n,9,n,(qGv n a).trans hn⟩
noncomputable def qbh:qu:=qR [(114,qwK),(121,qwL),(112,qDe)] ZN
theorem qar:qo Tryz.prog tb qi.sound qbh:=qn qaq (qe qGt (qe qGu (qe qH6 qr)))
end Su
end
section
namespace Su
open Go Go.Proofs Fly
set_option maxRecDepth 100000
theorem qBi (fu:Nat) (l:(List Su.Tm)) (u:Unit):qoe tb qbh fu 9 175 (0,103) ((dc qiH (d1 (cF 176))).enc (l,u)) ((d1 Zn)).dec=qEZ fu l u:=by kernel_rfl
theorem qwM (fu:Nat) (l:(List Su.Tm)) (u:Unit):qq tb qbh (shN tb qbh fu 9) fu 175 ((dc Zn (d1 (cF 176))).enc (l,u)) ((d1 Zn)).dec=qui fu l u:=by kernel_rfl
theorem qwN (fu:Nat) (l:(List Su.Tm)) (u:Unit):qq tb qbh (shN tb qbh fu 9) fu 177 ((dc Zn (d1 (cF 178))).enc (l,u)) ((d1 cB)).dec=quj fu l u:=by kernel_rfl
noncomputable def qpM:PrimD:=prim (dc Zn (d1 (cF 178))) (d1 cB) (qoS)
theorem qBj:Ok1 Tryz.prog tb qi.sound 177 qpM:=qh qt qar (by kernel_rfl) fun a y hg h=>by
 obtain ⟨n,hn⟩:=quk a y hg h
 exact ⟨n,9,n,(qwN n a.1 a.2).trans hn⟩
theorem qBk:Ok1 Tryz.prog tb qi.sound 175 (qg8 (0,103) (dc qiH (d1 (cF 176))) (d1 Zn) (qna)):=qkM qt qar (by kernel_rfl) (exc qCp (ex1 (exFn 176))) qHq fun a y hg h=>by
 obtain ⟨n,hn⟩:=qzu a y hg h
 exact ⟨n,9,(qBi n a.1 a.2).trans hn⟩
noncomputable def qwO:PrimD:=qmQ (0,103) (dc qiH (d1 (cF 176))) (d1 Zn) (qna) (dc Zn (d1 (cF 176))) qoT
theorem qGw:Ok1 Tryz.prog tb qi.sound 175 qwO:=qg9 qt qar qBk fun a y hg h=>by
 obtain ⟨n,hn⟩:=qul a y hg h
 exact ⟨n,9,n,(qwM n a.1 a.2).trans hn⟩
noncomputable def qbi:qu:=qR [(175,qwO),(177,qpM)] qbh
theorem qas:qo Tryz.prog tb qi.sound qbi:=qn qar (qe qGw (qe qBj qr))
end Su
end
section
namespace Su
open Go Go.Proofs Fly
set_option maxRecDepth 100000
theorem qwP (fu:Nat)  (a:(Bool×(Int×((List Su.Tm)×Int)))):qoe tb qbi fu 9 117 (2,103) ((d1 qha).enc (a)) ((d1 j4)).dec=qum a:=by kernel_rfl
theorem qrp (fu:Nat)  (a:(Bool×(Int×((List Su.Tm)×Int)))):qq tb qbi (shN tb qbi fu 9) fu 117 ((d1 j4).enc (a)) ((d1 j4)).dec=qnc a:=by kernel_rfl
theorem qBl (fu:Nat) (a:(Bool×(Int×((List Su.Tm)×Int)))):qq tb qbi (shN tb qbi fu 9) fu 39 ((d1 j4).enc (a)) ((d1 cB)).dec=qE0 fu a:=by kernel_rfl
noncomputable def qwQ:PrimD:=prim (d1 j4) (d1 cB) (qup)
theorem qGx:Ok1 Tryz.prog tb qi.sound 39 qwQ:=qh qt qas (by kernel_rfl) fun a y hg h=>by
 obtain ⟨n,hn⟩:=qzv a y hg h
 exact ⟨n,9,n,(qBl n a).trans hn⟩
theorem qwR:Ok1 Tryz.prog tb qi.sound 117 (qg8 (2,103) (d1 qha) (d1 j4) (qi3)):=qkM qt qas (by kernel_rfl) exF4 hnA fun a y hg h=>⟨0,9,(qwP 0 a).trans (qun a y hg h)⟩
noncomputable def qpN:PrimD:=qmQ (2,103) (d1 qha) (d1 j4) (qi3) (d1 j4) qli
theorem qBm:Ok1 Tryz.prog tb qi.sound 117 qpN:=qg9 qt qas qwR fun a y hg h=>⟨0,9,0,(qrp 0 a).trans (qqU a y hg h)⟩
noncomputable def qjA:qu:=qR [(117,qpN),(39,qwQ)] qbi
theorem qhP:qo Tryz.prog tb qi.sound qjA:=qn qas (qe qBm (qe qGx qr))
end Su
end
section
namespace Su
open Go Go.Proofs Fly
set_option maxRecDepth 100000
theorem qrq (fu:Nat) (l:(List (Bool×(Int×((List Su.Tm)×Int))))):qq tb qjA (shN tb qjA fu 9) fu 110 ((d1 qD7).enc (l)) ((d1 cB)).dec=qne fu l:=by kernel_rfl
noncomputable def ql3:PrimD:=prim (d1 qD7) (d1 cB) (qlj)
theorem qwS:Ok1 Tryz.prog tb qi.sound 110 ql3:=qh qt qhP (by kernel_rfl) fun a y hg h=>by
 obtain ⟨n,hn⟩:=qqV a y hg h
 exact ⟨n,9,n,(qrq n a).trans hn⟩
noncomputable def qdL:qu:=qR [(110,ql3)] qjA
theorem qdM:qo Tryz.prog tb qi.sound qdL:=qn qhP (qe qwS qr)
end Su
end
section
namespace Su
open Go Go.Proofs Fly
set_option maxRecDepth 100000
theorem qBn (fu:Nat) (a:(Bool×(Int×((List Su.Tm)×Int)))):qq tb qdL (shN tb qdL fu 9) fu 47 ((d1 j4).enc (a)) ((d1 j4)).dec=qE1 fu a:=by kernel_rfl
noncomputable def qwT:PrimD:=prim (d1 j4) (d1 j4) (qus)
theorem qGy:Ok1 Tryz.prog tb qi.sound 47 qwT:=qh qt qdM (by kernel_rfl) fun a y hg h=>by
 obtain ⟨n,hn⟩:=qzw a y hg h
 exact ⟨n,9,n,(qBn n a).trans hn⟩
theorem qrr (fu:Nat)  (f:Int):qq tb qdL (shN tb qdL fu 9) fu 81 ((d1 (cI .u64)).enc (f)) ((d1 j4)).dec=qur f:=by kernel_rfl
noncomputable def ql4:PrimD:=prim (d1 (cI .u64)) (d1 j4) (qlk)
theorem qwU:Ok1 Tryz.prog tb qi.sound 81 ql4:=qh qt qdM (by kernel_rfl) fun a y hg h=>⟨0,9,0,(qrr 0 a).trans (qqW a y hg h)⟩
noncomputable def qwV:qu:=qR [(47,qwT),(81,ql4)] qdL
theorem qrs:qo Tryz.prog tb qi.sound qwV:=qn qdM (qe qGy (qe qwU qr))
end Su
end
section
namespace Su
open Go Go.Proofs Fly
set_option maxRecDepth 100000
noncomputable def qeY:qu:=qR [] qwV
theorem qgg:qo Tryz.prog tb qi.sound qeY:=qn qrs qr
end Su
end
section
namespace Su
open Go Go.Proofs Fly
set_option maxRecDepth 100000
theorem qBo (fu:Nat)  (a:Int) (b:Int):qq tb qeY (shN tb qeY fu 9) fu 129 ((dc (cI .u64) (d1 (cI .u64))).enc (a,b)) ((d1 cB)).dec=qE3 a b:=by kernel_rfl
noncomputable def qwW:PrimD:=prim (dc (cI .u64) (d1 (cI .u64))) (d1 cB) (qut)
theorem qGz:Ok1 Tryz.prog tb qi.sound 129 qwW:=qh qt qgg (by kernel_rfl) fun a y hg h=>⟨0,9,0,(qBo 0 a.1 a.2).trans (qzx a y hg h)⟩
noncomputable def qjB:qu:=qR [(129,qwW)] qeY
theorem qhQ:qo Tryz.prog tb qi.sound qjB:=qn qgg (qe qGz qr)
end Su
end
section
namespace Su
open Go Go.Proofs Fly
set_option maxRecDepth 100000
theorem qrt (fu:Nat) (s:(Bool×(Int×Int))):qq tb qjB (shN tb qjB fu 9) fu 128 ((d1 yn).enc (s)) ((d1 yn)).dec=qnf fu s:=by kernel_rfl
noncomputable def ql5:PrimD:=prim (d1 yn) (d1 yn) (qlm)
theorem qwX:Ok1 Tryz.prog tb qi.sound 128 ql5:=qh qt qhQ (by kernel_rfl) fun a y hg h=>by
 obtain ⟨n,hn⟩:=qqX a y hg h
 exact ⟨n,9,n,(qrt n a).trans hn⟩
noncomputable def qjC:qu:=qR [(128,ql5)] qjB
theorem qhR:qo Tryz.prog tb qi.sound qjC:=qn qhQ (qe qwX qr)
end Su
end
section
namespace Su
open Go Go.Proofs Fly
set_option maxRecDepth 100000
theorem qBp (fu:Nat) (a:(Bool×(Int×((List Su.Tm)×Int)))):qq tb qjC (shN tb qjC fu 9) fu 104 ((d1 j4).enc (a)) ((d1 (cI .u64))).dec=qE4 fu a:=by kernel_rfl
noncomputable def qwY:PrimD:=prim (d1 j4) (d1 (cI .u64)) (qdi)
theorem qGA:Ok1 Tryz.prog tb qi.sound 104 qwY:=qh qt qhR (by kernel_rfl) fun a y hg h=>by
 obtain ⟨n,hn⟩:=qzy a y hg h
 exact ⟨n,9,n,(qBp n a).trans hn⟩
noncomputable def qdN:qu:=qR [(104,qwY)] qjC
theorem qdO:qo Tryz.prog tb qi.sound qdN:=qn qhR (qe qGA qr)
end Su
end
section
namespace Su
open Go Go.Proofs Fly
set_option maxRecDepth 100000
theorem qwZ (fu:Nat)  (a:(Bool×(Int×((List Su.Tm)×Int)))):qq tb qdN (shN tb qdN fu 9) fu 120 ((d1 j4).enc (a)) ((d1 (cI .u64))).dec=quu a:=by kernel_rfl
noncomputable def qpO:PrimD:=prim (d1 j4) (d1 (cI .u64)) (qoU)
theorem qBq:Ok1 Tryz.prog tb qi.sound 120 qpO:=qh qt qdO (by kernel_rfl) fun a y hg h=>⟨0,9,0,(qwZ 0 a).trans (quv a y hg h)⟩
theorem qBr (fu:Nat)  (a:Int) (b:Int):qq tb qdN (shN tb qdN fu 9) fu 126 ((dc (cI .u64) (d1 (cI .u64))).enc (a,b)) ((d1 (cI .u64))).dec=aMid a b:=by kernel_rfl
noncomputable def qw0:PrimD:=prim (dc (cI .u64) (d1 (cI .u64))) (d1 (cI .u64)) (quw)
theorem qGB:Ok1 Tryz.prog tb qi.sound 126 qw0:=qh qt qdO (by kernel_rfl) fun a y hg h=>⟨0,9,0,(qBr 0 a.1 a.2).trans (qzz a y hg h)⟩
noncomputable def qjD:qu:=qR [(120,qpO),(126,qw0)] qdN
theorem qhS:qo Tryz.prog tb qi.sound qjD:=qn qdO (qe qBq (qe qGB qr))
end Su
end
section
namespace Su
open Go Go.Proofs Fly
set_option maxRecDepth 100000
theorem qw1 (fu:Nat)  (a:(Bool×(Int×((List Su.Tm)×Int)))):qq tb qjD (shN tb qjD fu 9) fu 50 ((d1 j4).enc (a)) ((d1 yn)).dec=qux a:=by kernel_rfl
noncomputable def qpP:PrimD:=prim (d1 j4) (d1 yn) (qad)
theorem qBs:Ok1 Tryz.prog tb qi.sound 50 qpP:=qh qt qhS (by kernel_rfl) fun a y hg h=>⟨0,9,0,(qw1 0 a).trans (quy a y hg h)⟩
noncomputable def qjE:qu:=qR [(50,qpP)] qjD
theorem qhT:qo Tryz.prog tb qi.sound qjE:=qn qhS (qe qBs qr)
end Su
end
section
namespace Su
open Go Go.Proofs Fly
set_option maxRecDepth 100000
theorem qw2 (fu:Nat)  (s:(Bool×(Int×Int))):qq tb qjE (shN tb qjE fu 9) fu 141 ((d1 cIn).enc (s)) ((d1 cIn)).dec=quz s:=by kernel_rfl
noncomputable def qpQ:PrimD:=prim (d1 cIn) (d1 cIn) (qoV)
theorem qBt:Ok1 Tryz.prog tb qi.sound 141 qpQ:=qh qt qhT (by kernel_rfl) fun a y hg h=>⟨0,9,0,(qw2 0 a).trans (quA a y hg h)⟩
noncomputable def jS:qu:=qR [(141,qpQ)] qjE
theorem yd:qo Tryz.prog tb qi.sound jS:=qn qhT (qe qBt qr)
end Su
end
section
namespace Su
open Go Go.Proofs Fly
set_option maxRecDepth 100000
theorem qw3 (fu:Nat)  (lo:Int) (hi:Int):qq tb jS (shN tb jS fu 9) fu 60 ((dc (cI .i64) (d1 (cI .i64))).enc (lo,hi)) ((d1 cIn)).dec=qCD lo hi:=by kernel_rfl
noncomputable def qpR:PrimD:=prim (dc (cI .i64) (d1 (cI .i64))) (d1 cIn) (qoW)
theorem qBu:Ok1 Tryz.prog tb qi.sound 60 qpR:=qh qt yd (by kernel_rfl) fun a y hg h=>⟨0,9,0,(qw3 0 a.1 a.2).trans (quD a y hg h)⟩
theorem qBv (fu:Nat)  (s:(Bool×(Int×Int))) (n:Int):qq tb jS (shN tb jS fu 9) fu 75 ((dc cIn (d1 (cI .i64))).enc (s,n)) ((d1 cB)).dec=qE5 s n:=by kernel_rfl
noncomputable def qw4:PrimD:=prim (dc cIn (d1 (cI .i64))) (d1 cB) (quE)
theorem qGC:Ok1 Tryz.prog tb qi.sound 75 qw4:=qh qt yd (by kernel_rfl) fun a y hg h=>⟨0,9,0,(qBv 0 a.1 a.2).trans (qzA a y hg h)⟩
theorem qBw (fu:Nat)  (a:(Bool×(Int×Int))) (b:(Bool×(Int×Int))):qq tb jS (shN tb jS fu 9) fu 74 ((dc cIn (d1 cIn)).enc (a,b)) ((d1 cB)).dec=qE6 a b:=by kernel_rfl
noncomputable def qw5:PrimD:=prim (dc cIn (d1 cIn)) (d1 cB) (quF)
theorem qGD:Ok1 Tryz.prog tb qi.sound 74 qw5:=qh qt yd (by kernel_rfl) fun a y hg h=>⟨0,9,0,(qBw 0 a.1 a.2).trans (qzB a y hg h)⟩
theorem qw6 (fu:Nat) (l:(List (Bool×(Int×Int)))):qq tb jS (shN tb jS fu 9) fu 87 ((d1 (cL rIn)).enc (l)) ((d1 cIn)).dec=quB fu l:=by kernel_rfl
noncomputable def qpS:PrimD:=prim (d1 (cL rIn)) (d1 cIn) (qoY)
theorem qBx:Ok1 Tryz.prog tb qi.sound 87 qpS:=qh qt yd (by kernel_rfl) fun a y hg h=>by
 obtain ⟨n,hn⟩:=quG a y hg h
 exact ⟨n,9,n,(qw6 n a).trans hn⟩
theorem qBy (fu:Nat)  (a:(Bool×(Int×Int))):qq tb jS (shN tb jS fu 9) fu 196 ((d1 cIn).enc (a)) ((d1 cIn)).dec=qE7 a:=by kernel_rfl
noncomputable def qw7:PrimD:=prim (d1 cIn) (d1 cIn) (quH)
theorem qGE:Ok1 Tryz.prog tb qi.sound 196 qw7:=qh qt yd (by kernel_rfl) fun a y hg h=>⟨0,9,0,(qBy 0 a).trans (qzE a y hg h)⟩
theorem qw8 (fu:Nat)  (a:(Bool×(Int×Int))) (b:(Bool×(Int×Int))):qq tb jS (shN tb jS fu 9) fu 164 ((dc cIn (d1 cIn)).enc (a,b)) ((d1 cIn)).dec=quC a b:=by kernel_rfl
noncomputable def qpT:PrimD:=prim (dc cIn (d1 cIn)) (d1 cIn) (qoZ)
theorem qBz:Ok1 Tryz.prog tb qi.sound 164 qpT:=qh qt yd (by kernel_rfl) fun a y hg h=>⟨0,9,0,(qw8 0 a.1 a.2).trans (quI a y hg h)⟩
theorem qBA (fu:Nat)  (x:Int) (y:Int):qq tb jS (shN tb jS fu 9) fu 167 ((dc (cI .i64) (d1 (cI .i64))).enc (x,y)) ((d1 (cI .i64))).dec=qE8 x y:=by kernel_rfl
noncomputable def qw9:PrimD:=prim (dc (cI .i64) (d1 (cI .i64))) (d1 (cI .i64)) (quJ)
theorem qGF:Ok1 Tryz.prog tb qi.sound 167 qw9:=qh qt yd (by kernel_rfl) fun a y hg h=>⟨0,9,0,(qBA 0 a.1 a.2).trans (qzF a y hg h)⟩
theorem qxa (fu:Nat)  (lo:Int) (hi:Int):qq tb jS (shN tb jS fu 9) fu 166 ((dc (cI .i64) (d1 (cI .i64))).enc (lo,hi)) ((d1 cIn)).dec=qCE lo hi:=by kernel_rfl
noncomputable def qpU:PrimD:=prim (dc (cI .i64) (d1 (cI .i64))) (d1 cIn) (qo0)
theorem qBB:Ok1 Tryz.prog tb qi.sound 166 qpU:=qh qt yd (by kernel_rfl) fun a y hg h=>⟨0,9,0,(qxa 0 a.1 a.2).trans (quK a y hg h)⟩
noncomputable def qjF:qu:=qR [(60,qpR),(75,qw4),(74,qw5),(87,qpS),(196,qw7),(164,qpT),(167,qw9),(166,qpU)] jS
theorem qhU:qo Tryz.prog tb qi.sound qjF:=qn yd (qe qBu (qe qGC (qe qGD (qe qBx (qe qGE (qe qBz (qe qGF (qe qBB qr))))))))
end Su
end
section
namespace Su
open Go Go.Proofs Fly
set_option maxRecDepth 100000
theorem qBC (fu:Nat)  (a:(Bool×(Int×Int))) (b:(Bool×(Int×Int))):qq tb qjF (shN tb qjF fu 9) fu 103 ((dc cIn (d1 cIn)).enc (a,b)) ((d1 cIn)).dec=qE9 a b:=by kernel_rfl
noncomputable def qxb:PrimD:=prim (dc cIn (d1 cIn)) (d1 cIn) (quL)
theorem qGG:Ok1 Tryz.prog tb qi.sound 103 qxb:=qh qt qhU (by kernel_rfl) fun a y hg h=>⟨0,9,0,(qBC 0 a.1 a.2).trans (qzG a y hg h)⟩
noncomputable def ZO:qu:=qR [(103,qxb)] qjF
theorem qat:qo Tryz.prog tb qi.sound ZO:=qn qhU (qe qGG qr)
end Su
end
section
namespace Su
open Go Go.Proofs Fly
set_option maxRecDepth 100000
theorem qBD (fu:Nat)  (a:(Bool×(Int×Int))) (b:(Bool×(Int×Int))):qq tb ZO (shN tb ZO fu 9) fu 156 ((dc cIn (d1 cIn)).enc (a,b)) ((d1 cIn)).dec=iSub a b:=by kernel_rfl
noncomputable def qxc:PrimD:=prim (dc cIn (d1 cIn)) (d1 cIn) (quN)
theorem qGH:Ok1 Tryz.prog tb qi.sound 156 qxc:=qh qt qat (by kernel_rfl) fun a y hg h=>⟨0,9,0,(qBD 0 a.1 a.2).trans (qzI a y hg h)⟩
theorem qGI (fu:Nat)  (n:Int):qq tb ZO (shN tb ZO fu 9) fu 28 ((d1 (cI .i64)).enc (n)) ((d1 cIn)).dec=iPt n:=by kernel_rfl
noncomputable def qDf:PrimD:=prim (d1 (cI .i64)) (d1 cIn) (qCF)
theorem qH7:Ok1 Tryz.prog tb qi.sound 28 qDf:=qh qt qat (by kernel_rfl) fun a y hg h=>⟨0,9,0,(qGI 0 a).trans (qFa a y hg h)⟩
theorem qxd (fu:Nat)  (c:((Bool×(Int×Int))×(Bool×(Int×Int)))):qq tb ZO (shN tb ZO fu 9) fu 155 ((d1 jK).enc (c)) ((d1 jK)).dec=quM c:=by kernel_rfl
noncomputable def qpV:PrimD:=prim (d1 jK) (d1 jK) (qo1)
theorem qBE:Ok1 Tryz.prog tb qi.sound 155 qpV:=qh qt qat (by kernel_rfl) fun a y hg h=>⟨0,9,0,(qxd 0 a).trans (quO a y hg h)⟩
noncomputable def yg:qu:=qR [(156,qxc),(28,qDf),(155,qpV)] ZO
theorem yu:qo Tryz.prog tb qi.sound yg:=qn qat (qe qGH (qe qH7 (qe qBE qr)))
end Su
end
section
namespace Su
open Go Go.Proofs Fly
set_option maxRecDepth 100000
theorem qGJ (fu:Nat)  (v:(Bool×(Int×Int))) (k:(Bool×(Int×Int))):qq tb yg (shN tb yg fu 9) fu 79 ((dc cIn (d1 cIn)).enc (v,k)) ((d1 jK)).dec=kOf v k:=by kernel_rfl
noncomputable def qDg:PrimD:=prim (dc cIn (d1 cIn)) (d1 jK) (qCH)
theorem qH8:Ok1 Tryz.prog tb qi.sound 79 qDg:=qh qt yu (by kernel_rfl) fun a y hg h=>⟨0,9,0,(qGJ 0 a.1 a.2).trans (qFc a y hg h)⟩
theorem qxe (fu:Nat)  (c:((Bool×(Int×Int))×(Bool×(Int×Int)))):qq tb yg (shN tb yg fu 9) fu 102 ((d1 jK).enc (c)) ((d1 jK)).dec=qCG c:=by kernel_rfl
noncomputable def qpW:PrimD:=prim (d1 jK) (d1 jK) (qo2)
theorem qBF:Ok1 Tryz.prog tb qi.sound 102 qpW:=qh qt yu (by kernel_rfl) fun a y hg h=>⟨0,9,0,(qxe 0 a).trans (quP a y hg h)⟩
theorem qBG (fu:Nat)  (v:(Bool×(Int×Int))) (c:((Bool×(Int×Int))×(Bool×(Int×Int)))) (k:(Bool×(Int×Int))):qq tb yg (shN tb yg fu 9) fu 97 ((dc cIn (dc jK (d1 cIn))).enc (v,c,k)) ((d1 cIn)).dec=kRed v c k:=by kernel_rfl
noncomputable def qxf:PrimD:=prim (dc cIn (dc jK (d1 cIn))) (d1 cIn) (quQ)
theorem qGK:Ok1 Tryz.prog tb qi.sound 97 qxf:=qh qt yu (by kernel_rfl) fun a y hg h=>⟨0,9,0,(qBG 0 a.1 a.2.1 a.2.2).trans (qzJ a y hg h)⟩
theorem qGL (fu:Nat)  (a:((Bool×(Int×Int))×(Bool×(Int×Int)))) (b:((Bool×(Int×Int))×(Bool×(Int×Int)))):qq tb yg (shN tb yg fu 9) fu 165 ((dc jK (d1 jK)).enc (a,b)) ((d1 jK)).dec=kMt a b:=by kernel_rfl
noncomputable def qDh:PrimD:=prim (dc jK (d1 jK)) (d1 jK) (qCI)
theorem qH9:Ok1 Tryz.prog tb qi.sound 165 qDh:=qh qt yu (by kernel_rfl) fun a y hg h=>⟨0,9,0,(qGL 0 a.1 a.2).trans (qFd a y hg h)⟩
theorem qGM (fu:Nat)  (a:((Bool×(Int×Int))×(Bool×(Int×Int)))) (b:((Bool×(Int×Int))×(Bool×(Int×Int)))):qq tb yg (shN tb yg fu 9) fu 90 ((dc jK (d1 jK)).enc (a,b)) ((d1 jK)).dec=kJn a b:=by kernel_rfl
noncomputable def qDi:PrimD:=prim (dc jK (d1 jK)) (d1 jK) (qCJ)
theorem qIa:Ok1 Tryz.prog tb qi.sound 90 qDi:=qh qt yu (by kernel_rfl) fun a y hg h=>⟨0,9,0,(qGM 0 a.1 a.2).trans (qFe a y hg h)⟩
theorem qGN (fu:Nat)  (a:((Bool×(Int×Int))×(Bool×(Int×Int)))) (b:((Bool×(Int×Int))×(Bool×(Int×Int)))):qq tb yg (shN tb yg fu 9) fu 153 ((dc jK (d1 jK)).enc (a,b)) ((d1 cB)).dec=kIn a b:=by kernel_rfl
noncomputable def qDj:PrimD:=prim (dc jK (d1 jK)) (d1 cB) (qCK)
theorem qIb:Ok1 Tryz.prog tb qi.sound 153 qDj:=qh qt yu (by kernel_rfl) fun a y hg h=>⟨0,9,0,(qGN 0 a.1 a.2).trans (qFf a y hg h)⟩
theorem qBH (fu:Nat)  (c:((Bool×(Int×Int))×(Bool×(Int×Int)))) (v:Int) (k:Int):qq tb yg (shN tb yg fu 9) fu 154 ((dc jK (dc (cI .i64) (d1 (cI .i64)))).enc (c,v,k)) ((d1 cB)).dec=qFb c v k:=by kernel_rfl
noncomputable def qxg:PrimD:=prim (dc jK (dc (cI .i64) (d1 (cI .i64)))) (d1 cB) (quR)
theorem qGO:Ok1 Tryz.prog tb qi.sound 154 qxg:=qh qt yu (by kernel_rfl) fun a y hg h=>⟨0,9,0,(qBH 0 a.1 a.2.1 a.2.2).trans (qzK a y hg h)⟩
noncomputable def yJ:qu:=qR [(79,qDg),(102,qpW),(97,qxf),(165,qDh),(90,qDi),(153,qDj),(154,qxg)] yg
theorem Qa:qo Tryz.prog tb qi.sound yJ:=qn yu (qe qH8 (qe qBF (qe qGK (qe qH9 (qe qIa (qe qIb (qe qGO qr)))))))
end Su
end
section
namespace Su
open Go Go.Proofs Fly
set_option maxRecDepth 100000
theorem qxh (fu:Nat)  (lo:Int) (hi:Int):qq tb yJ (shN tb yJ fu 9) fu 95 ((dc (cI .u64) (d1 (cI .u64))).enc (lo,hi)) ((d1 yn)).dec=qCM lo hi:=by kernel_rfl
noncomputable def qpX:PrimD:=prim (dc (cI .u64) (d1 (cI .u64))) (d1 yn) (qo5)
theorem qBI:Ok1 Tryz.prog tb qi.sound 95 qpX:=qh qt Qa (by kernel_rfl) fun a y hg h=>⟨0,9,0,(qxh 0 a.1 a.2).trans (quW a y hg h)⟩
theorem qGP (fu:Nat)  (a:(Bool×(Int×Int))) (b:(Bool×(Int×Int))):qq tb yJ (shN tb yJ fu 9) fu 52 ((dc yn (d1 yn)).enc (a,b)) ((d1 cB)).dec=zIn a b:=by kernel_rfl
noncomputable def qDk:PrimD:=prim (dc yn (d1 yn)) (d1 cB) (qCN)
theorem qIc:Ok1 Tryz.prog tb qi.sound 52 qDk:=qh qt Qa (by kernel_rfl) fun a y hg h=>⟨0,9,0,(qGP 0 a.1 a.2).trans (qFi a y hg h)⟩
theorem qBJ (fu:Nat)  (s:(Bool×(Int×Int))) (f:Int):qq tb yJ (shN tb yJ fu 9) fu 57 ((dc yn (d1 (cI .u64))).enc (s,f)) ((d1 cB)).dec=qFh s f:=by kernel_rfl
noncomputable def qxi:PrimD:=prim (dc yn (d1 (cI .u64))) (d1 cB) (quX)
theorem qGQ:Ok1 Tryz.prog tb qi.sound 57 qxi:=qh qt Qa (by kernel_rfl) fun a y hg h=>⟨0,9,0,(qBJ 0 a.1 a.2).trans (qzM a y hg h)⟩
theorem qxj (fu:Nat)  (a:(Bool×(Int×Int))) (b:(Bool×(Int×Int))):qq tb yJ (shN tb yJ fu 9) fu 99 ((dc yn (d1 yn)).enc (a,b)) ((d1 yn)).dec=quU a b:=by kernel_rfl
noncomputable def qpY:PrimD:=prim (dc yn (d1 yn)) (d1 yn) (qo6)
theorem qBK:Ok1 Tryz.prog tb qi.sound 99 qpY:=qh qt Qa (by kernel_rfl) fun a y hg h=>⟨0,9,0,(qxj 0 a.1 a.2).trans (quY a y hg h)⟩
theorem qxk (fu:Nat) (l:(List (Bool×(Int×Int)))):qq tb yJ (shN tb yJ fu 9) fu 91 ((d1 (cL rSp)).enc (l)) ((d1 yn)).dec=quV fu l:=by kernel_rfl
noncomputable def qpZ:PrimD:=prim (d1 (cL rSp)) (d1 yn) (qo8)
theorem qBL:Ok1 Tryz.prog tb qi.sound 91 qpZ:=qh qt Qa (by kernel_rfl) fun a y hg h=>by
 obtain ⟨n,hn⟩:=quZ a y hg h
 exact ⟨n,9,n,(qxk n a).trans hn⟩
theorem qru (fu:Nat) (l:(List Int)):qq tb yJ (shN tb yJ fu 9) fu 92 ((d1 (cQ 2 1)).enc (l)) ((d1 (cI .u64))).dec=qni fu l:=by kernel_rfl
noncomputable def ql6:PrimD:=prim (d1 (cQ 2 1)) (d1 (cI .u64)) (qls)
theorem qxl:Ok1 Tryz.prog tb qi.sound 92 ql6:=qh qt Qa (by kernel_rfl) fun a y hg h=>by
 obtain ⟨n,hn⟩:=qq1 a y hg h
 exact ⟨n,9,n,(qru n a).trans hn⟩
noncomputable def qdP:qu:=qR [(95,qpX),(52,qDk),(57,qxi),(99,qpY),(91,qpZ),(92,ql6)] yJ
theorem qdQ:qo Tryz.prog tb qi.sound qdP:=qn Qa (qe qBI (qe qIc (qe qGQ (qe qBK (qe qBL (qe qxl qr))))))
end Su
end
section
namespace Su
open Go Go.Proofs Fly
set_option maxRecDepth 100000
theorem qxm (fu:Nat)  (x:Su.Ce) (t:Int):qq tb qdP (shN tb qdP fu 9) fu 151 ((dc cCe (d1 (cI .u8))).enc (x,t)) ((d1 cCe)).dec=qu0 x t:=by kernel_rfl
noncomputable def qp0:PrimD:=prim (dc cCe (d1 (cI .u8))) (d1 cCe) (qo9)
theorem qBM:Ok1 Tryz.prog tb qi.sound 151 qp0:=qh qt qdQ (by kernel_rfl) fun a y hg h=>⟨0,9,0,(qxm 0 a.1 a.2).trans (qu2 a y hg h)⟩
theorem qxn (fu:Nat)  (x:Su.Ce) (t:Int):qq tb qdP (shN tb qdP fu 9) fu 152 ((dc cCe (d1 (cI .u8))).enc (x,t)) ((d1 cB)).dec=qu1 x t:=by kernel_rfl
noncomputable def qp1:PrimD:=prim (dc cCe (d1 (cI .u8))) (d1 cB) (qpa)
theorem qBN:Ok1 Tryz.prog tb qi.sound 152 qp1:=qh qt qdQ (by kernel_rfl) fun a y hg h=>⟨0,9,0,(qxn 0 a.1 a.2).trans (qu3 a y hg h)⟩
noncomputable def qjG:qu:=qR [(151,qp0),(152,qp1)] qdP
theorem qhV:qo Tryz.prog tb qi.sound qjG:=qn qdQ (qe qBM (qe qBN qr))
end Su
end
section
namespace Su
open Go Go.Proofs Fly
set_option maxRecDepth 100000
theorem qxo (fu:Nat) (c:(Int×((List Su.Cc)×((List Su.T)×((List Su.T)×((List Su.T)×((List Su.T)×Int))))))) (l:(List (Bool×(Bool×(Int×(Int×(List Su.Ce))))))):qq tb qjG (shN tb qjG fu 9) fu 13 ((dc cCo (d1 (cL rSt))).enc (c,l)) ((d1 cB)).dec=qpb fu c l:=by kernel_rfl
noncomputable def qp2:PrimD:=prim (dc cCo (d1 (cL rSt))) (d1 cB) (qpc)
theorem qBO:Ok1 Tryz.prog tb qi.sound 13 qp2:=qh qt qhV (by kernel_rfl) fun a y hg h=>by
 obtain ⟨n,hn⟩:=qu5 a y hg h
 exact ⟨n,9,n,(qxo n a.1 a.2).trans hn⟩
noncomputable def qjH:qu:=qR [(13,qp2)] qjG
theorem qhW:qo Tryz.prog tb qi.sound qjH:=qn qhV (qe qBO qr)
end Su
end
section
namespace Su
open Go Go.Proofs Fly
set_option maxRecDepth 100000
theorem qxp (fu:Nat) (c:(Int×((List Su.Cc)×((List Su.T)×((List Su.T)×((List Su.T)×((List Su.T)×Int))))))) (s:(Bool×(Bool×(Int×(Int×(List Su.Ce)))))):qq tb qjH (shN tb qjH fu 9) fu 37 ((dc cCo (d1 cSt)).enc (c,s)) ((d1 cSt)).dec=qpd fu c s:=by kernel_rfl
noncomputable def qp3:PrimD:=prim (dc cCo (d1 cSt)) (d1 cSt) (qeM)
theorem qBP:Ok1 Tryz.prog tb qi.sound 37 qp3:=qh qt qhW (by kernel_rfl) fun a y hg h=>by
 obtain ⟨n,hn⟩:=qu7 a y hg h
 exact ⟨n,9,n,(qxp n a.1 a.2).trans hn⟩
noncomputable def qjI:qu:=qR [(37,qp3)] qjH
theorem qhX:qo Tryz.prog tb qi.sound qjI:=qn qhW (qe qBP qr)
end Su
end
section
namespace Su
open Go Go.Proofs Fly
set_option maxRecDepth 100000
theorem qBQ (fu:Nat) (c:(Int×((List Su.Cc)×((List Su.T)×((List Su.T)×((List Su.T)×((List Su.T)×Int))))))) (s:(Bool×(Bool×(Int×(Int×(List Su.Ce)))))):qq tb qjI (shN tb qjI fu 9) fu 34 ((dc cCo (d1 cSt)).enc (c,s)) ((d1 cSt)).dec=qzP fu c s:=by kernel_rfl
noncomputable def qxq:PrimD:=prim (dc cCo (d1 cSt)) (d1 cSt) (qu8)
theorem qGR:Ok1 Tryz.prog tb qi.sound 34 qxq:=qh qt qhX (by kernel_rfl) fun a y hg h=>by
 obtain ⟨n,hn⟩:=qzR a y hg h
 exact ⟨n,9,n,(qBQ n a.1 a.2).trans hn⟩
noncomputable def qjJ:qu:=qR [(34,qxq)] qjI
theorem qhY:qo Tryz.prog tb qi.sound qjJ:=qn qhX (qe qGR qr)
end Su
end
section
namespace Su
open Go Go.Proofs Fly
set_option maxRecDepth 100000
theorem qBR (fu:Nat) (c:(Int×((List Su.Cc)×((List Su.T)×((List Su.T)×((List Su.T)×((List Su.T)×Int))))))) (s:(Bool×(Bool×(Int×(Int×(List Su.Ce)))))):qq tb qjJ (shN tb qjJ fu 9) fu 35 ((dc cCo (d1 cSt)).enc (c,s)) ((d1 cSt)).dec=qzS fu c s:=by kernel_rfl
noncomputable def qxr:PrimD:=prim (dc cCo (d1 cSt)) (d1 cSt) (JR)
theorem qGS:Ok1 Tryz.prog tb qi.sound 35 qxr:=qh qt qhY (by kernel_rfl) fun a y hg h=>by
 obtain ⟨n,hn⟩:=qzU a y hg h
 exact ⟨n,9,n,(qBR n a.1 a.2).trans hn⟩
noncomputable def qjK:qu:=qR [(35,qxr)] qjJ
theorem qhZ:qo Tryz.prog tb qi.sound qjK:=qn qhY (qe qGS qr)
end Su
end
section
namespace Su
open Go Go.Proofs Fly
set_option maxRecDepth 100000
theorem qrv (fu:Nat) (c:(Int×((List Su.Cc)×((List Su.T)×((List Su.T)×((List Su.T)×((List Su.T)×Int))))))) (s:(Bool×(Bool×(Int×(Int×(List Su.Ce)))))):qq tb qjK (shN tb qjK fu 9) fu 20 ((dc cCo (d1 cSt)).enc (c,s)) ((d1 cSt)).dec=qja fu c s:=by kernel_rfl
noncomputable def ql7:PrimD:=prim (dc cCo (d1 cSt)) (d1 cSt) (qcr)
theorem qxs:Ok1 Tryz.prog tb qi.sound 20 ql7:=qh qt qhZ (by kernel_rfl) fun a y hg h=>by
 obtain ⟨n,hn⟩:=qq3 a y hg h
 exact ⟨n,9,n,(qrv n a.1 a.2).trans hn⟩
noncomputable def qjL:qu:=qR [(20,ql7)] qjK
theorem qh0:qo Tryz.prog tb qi.sound qjL:=qn qhZ (qe qxs qr)
end Su
end
section
namespace Su
open Go Go.Proofs Fly
set_option maxRecDepth 100000
theorem qxt (fu:Nat)  (f:Int):qq tb qjL (shN tb qjL fu 9) fu 140 ((d1 (cI .u64)).enc (f)) ((d1 cRt)).dec=qCP f:=by kernel_rfl
noncomputable def qp4:PrimD:=prim (d1 (cI .u64)) (d1 cRt) (qah)
theorem qBS:Ok1 Tryz.prog tb qi.sound 140 qp4:=qh qt qh0 (by kernel_rfl) fun a y hg h=>⟨0,9,0,(qxt 0 a).trans (qvd a y hg h)⟩
noncomputable def qeZ:qu:=qR [(140,qp4)] qjL
theorem qgh:qo Tryz.prog tb qi.sound qeZ:=qn qh0 (qe qBS qr)
end Su
end
section
namespace Su
open Go Go.Proofs Fly
set_option maxRecDepth 100000
theorem qGT (fu:Nat) (a:(Bool×(Int×((List Su.Tm)×Int)))) (f:Int):qq tb qeZ (shN tb qeZ fu 9) fu 56 ((dc j4 (d1 (cI .u64))).enc (a,f)) ((d1 cB)).dec=aOf fu a f:=by kernel_rfl
noncomputable def qDl:PrimD:=prim (dc j4 (d1 (cI .u64))) (d1 cB) (qlx)
theorem qId:Ok1 Tryz.prog tb qi.sound 56 qDl:=qh qt qgh (by kernel_rfl) fun a y hg h=>by
 obtain ⟨n,hn⟩:=qFs a y hg h
 exact ⟨n,9,n,(qGT n a.1 a.2).trans hn⟩
noncomputable def qjM:qu:=qR [(56,qDl)] qeZ
theorem qh1:qo Tryz.prog tb qi.sound qjM:=qn qgh (qe qId qr)
end Su
end
section
namespace Su
open Go Go.Proofs Fly
set_option maxRecDepth 100000
theorem qBT (fu:Nat) (c:(Int×((List Su.Cc)×((List Su.T)×((List Su.T)×((List Su.T)×((List Su.T)×Int))))))) (s:(Bool×(Bool×(Int×(Int×(List Su.Ce)))))) (row:(List Su.Vl)) (k:Int):qq tb qjM (shN tb qjM fu 9) fu 22 ((dc cCo (dc cSt (dc (cL rVl) (d1 (cI .i64))))).enc (c,s,row,k)) ((d1 cB)).dec=qAa fu c s row k:=by kernel_rfl
noncomputable def qxu:PrimD:=prim (dc cCo (dc cSt (dc (cL rVl) (d1 (cI .i64))))) (d1 cB) (Qy)
theorem qGU:Ok1 Tryz.prog tb qi.sound 22 qxu:=qh qt qh1 (by kernel_rfl) fun a y hg h=>by
 obtain ⟨n,hn⟩:=qAb a y hg h
 exact ⟨n,9,n,(qBT n a.1 a.2.1 a.2.2.1 a.2.2.2).trans hn⟩
noncomputable def qxv:qu:=qR [(22,qxu)] qjM
theorem qrw:qo Tryz.prog tb qi.sound qxv:=qn qh1 (qe qGU qr)
end Su
end
section
namespace Su
open Go Go.Proofs Fly
set_option maxRecDepth 100000
noncomputable def qxw (f:Int):Option (Rt×Bool):=some (bif Ji f.toNat then ((false,([],[])),false) else (qb6 f.toNat,true))
noncomputable def qxx:PrimD:=prim (d1 (cI .u64)) (dc cRt (d1 cB)) qxw
theorem qxy:qxw=YH:=by
 funext f;unfold qxw YH;rw [qeD];rfl
theorem qBU:Ok1 Tryz.prog tb qi.sound 14 qxx:=by unfold qxx;rw [qxy];exact qwn
noncomputable def prW:qu:=qR [(14,qxx)] qbg
theorem qGV:qo Tryz.prog tb qi.sound prW:=qn qan (qe qBU qr)
theorem qrx:qq tb prW (shN tb prW 60 25) 60 12 [] (d1 cB).dec=some true:=by kernel_rfl
noncomputable def qp5:PrimD:=prim d0 (d1 cB) fun _=>some true
theorem qBV:Ok1 Tryz.prog tb qi.sound 12 qp5:=qh qt qGV (by kernel_rfl) fun a y hg h=>⟨60,25,60,qrx.trans h⟩
noncomputable def qjN:qu:=qR [(12,qp5)] qxv
theorem qh2:qo Tryz.prog tb qi.sound qjN:=qn qrw (qe qBV qr)
end Su
end
section
namespace Su
open Go Go.Proofs Fly
set_option maxRecDepth 100000
theorem qxz (fu:Nat)  (s:(Bool×(Int×Int))) (id:Int):qq tb qjN (shN tb qjN fu 9) fu 51 ((dc yn (d1 (cI .i64))).enc (s,id)) ((d1 j4)).dec=qvI s id:=by kernel_rfl
noncomputable def qp6:PrimD:=prim (dc yn (d1 (cI .i64))) (d1 j4) (qps)
theorem qBW:Ok1 Tryz.prog tb qi.sound 51 qp6:=qh qt qh2 (by kernel_rfl) fun a y hg h=>⟨0,9,0,(qxz 0 a.1 a.2).trans (qvJ a y hg h)⟩
noncomputable def qjO:qu:=qR [(51,qp6)] qjN
theorem qh3:qo Tryz.prog tb qi.sound qjO:=qn qh2 (qe qBW qr)
end Su
end
section
namespace Su
open Go Go.Proofs Fly
set_option maxRecDepth 100000
theorem qBX (fu:Nat) (c:(Int×((List Su.Cc)×((List Su.T)×((List Su.T)×((List Su.T)×((List Su.T)×Int))))))) (s:(Bool×(Bool×(Int×(Int×(List Su.Ce)))))):qq tb qjO (shN tb qjO fu 9) fu 36 ((dc cCo (d1 cSt)).enc (c,s)) ((d1 cSt)).dec=qAr fu c s:=by kernel_rfl
noncomputable def qxA:PrimD:=prim (dc cCo (d1 cSt)) (d1 cSt) (qjm)
theorem qGW:Ok1 Tryz.prog tb qi.sound 36 qxA:=qh qt qh3 (by kernel_rfl) fun a y hg h=>by
 obtain ⟨n,hn⟩:=qAt a y hg h
 exact ⟨n,9,n,(qBX n a.1 a.2).trans hn⟩
noncomputable def qny:qu:=qR [(36,qxA)] qjO
theorem qry:qo Tryz.prog tb qi.sound qny:=qn qh3 (qe qGW qr)
end Su
end
section
namespace Su
open Go Go.Proofs Fly
set_option maxRecDepth 100000
theorem qxB (fu:Nat)  (c:(Int×((List Su.Cc)×((List Su.T)×((List Su.T)×((List Su.T)×((List Su.T)×Int))))))) (s:(Bool×(Bool×(Int×(Int×(List Su.Ce)))))) (row:(List Su.Vl)) (k:Int):qq tb qny (shN tb qny fu 9) fu 8 ((dc cCo (dc cSt (dc (cL rVl) (d1 (cI .i64))))).enc (c,s,row,k)) ((d1 cB)).dec=qpt c s row k:=by kernel_rfl
noncomputable def qBY:PrimD:=prim (dc cCo (dc cSt (dc (cL rVl) (d1 (cI .i64))))) (d1 cB) (qpu)
theorem qBZ:Ok1 Tryz.prog tb qi.sound 8 qBY:=qh qt qry (by kernel_rfl) fun a y hg h=>⟨0,9,0,(qxB 0 a.1 a.2.1 a.2.2.1 a.2.2.2).trans (qvL a y hg h)⟩
end Su
end
section
namespace Su
open Go Fly
def jx (P:Program) (t:Nat):Bool:=match P.underlying t with
 | some (.struct _)=>true
 | _=>false
def qh4 (P:Program) (S:List Nat) (n:Nat):Nat→List Field→Bool
 | o,[]=>Nat.beq o n
 | o,f::fs=>Nat.beq f.offset o&&(S.contains f.type&&qh4 P S n (o+P.cellsOf f.type) fs)
def Yp (P:Program) (S:List Nat) (t:Nat):Bool:=match P.underlying t with
 | some .bool=>Nat.beq (P.cellsOf t) 1
 | some (.int _)=>Nat.beq (P.cellsOf t) 1
 | some (.float _)=>Nat.beq (P.cellsOf t) 1
 | some .string=>Nat.beq (P.cellsOf t) 1
 | some (.slice e)=>Nat.beq (P.cellsOf t) 1&&(S.contains e&&Nat.blt 0 (P.cellsOf e))
 | some (.struct fs)=>qh4 P S (P.cellsOf t) 0 fs.toList
 | _=>false
inductive All2 {α β:Type} (R:α→β→Prop):List α→List β→Prop
 | nil:All2 R [] []
 | cons {a:α} {b:β} {l:List α} {m:List β} (h:R a b) (h':All2 R l m):All2 R (a::l) (b::m)
def Shp (P:Program):Nat→Nat→List T→Prop
 | 0,_,_=>False
 | fuel+1,t,xs=>match P.underlying t with
  | some .bool=>∃ b,xs=[.s (.bool b)]
  | some (.int k)=>∃ n,xs=[.s (.int k n)]∧(Lit.int k n).wf=true
  | some (.float k)=>∃ b,xs=[.s (.float k b)]∧(Lit.float k b).wf=true
  | some .string=>∃ s,xs=[.s (.string s)]∧s.size≤maxLen
  | some (.slice e)=>∃ l,xs=[.sl (P.cellsOf e) l]∧l.length≤maxLen∧∀ x∈l,x.isAgg=jx P e∧Shp P fuel e x.cells
  | some (.struct fs)=>∃ parts:List (List T),xs=parts.flatten∧All2 (fun (f:Field) p=>Shp P fuel f.type p) fs.toList parts
  | _=>False
def hv (w:World):qc:=fun b=>w.heap[b]?
theorem qB0 {a:Addr} {m n:Nat} (h:n≠0∨m=0∨a.spot=none):(a.add m).add n=a.add (m+n):=by
 unfold Addr.add
 by_cases hn:n=0
 · subst hn;simp
 · by_cases hm:m=0
   · subst hm;simp [hn]
   · simp [hn,hm,Nat.add_assoc]
theorem qgi {w:World} {a:Addr} {v:Value} (h:w.cell? a=some v):a.spot=none∧rd (hv w) a.block a.off v:=by
 unfold World.cell? at h
 split at h
 · rename_i c e f hb
   cases hs:a.spot with
   | some s=>rw [hs] at h;simp at h
   | none=>rw [hs] at h;exact ⟨rfl,c,e,f,hb,by simpa using h⟩
 · simp at h
theorem qp7 (a:Addr) (n:Nat):(a.add n).off=a.off+n∧(a.add n).block=a.block:=by
 unfold Addr.add;split
 · rename_i h;subst h;exact ⟨rfl,rfl⟩
 · exact ⟨rfl,rfl⟩
theorem qp8 {w:World} {a:Addr} {k:Nat} (hk:0<k):∀ (css:List (List Value)) (s:Nat),(∀ i cs,css[i]?=some cs→w.cells? 0 (a.add ((s+i)*k)) k=some cs)→∀ j c,css.flatten[j]?=some c→rd (hv w) a.block (a.off+s*k+j) c∧w.cell? (a.add (s*k+j))=some c
 | [],s,h,j,c,hj=>by simp at hj
 | c0::css,s,h,j,c,hj=>by
  obtain ⟨_,hl,hc⟩:=World.cells?_some (h 0 c0 rfl)
  simp only [Nat.add_zero] at hc
  rw [List.flatten_cons] at hj
  rcases Nat.lt_or_ge j k with hjk | hjk
  · rw [List.getElem?_append_left (by omega)] at hj
    have h1:=hc j hjk
    rw [hj] at h1
    have h3:w.cell? (a.add (s*k+j))=some c:=by
     by_cases hj0:j=0
     · subst hj0
       have:(a.add (s*k)).add 0=a.add (s*k):=by unfold Addr.add;simp
       rw [this] at h1;exact h1
     · rw [qB0 (.inl hj0)] at h1;exact h1
    obtain ⟨_,h2⟩:=qgi h3
    rw [(qp7 _ _).1,(qp7 _ _).2] at h2
    exact ⟨by rw [Nat.add_assoc];exact h2,h3⟩
  · rw [List.getElem?_append_right (by omega),hl] at hj
    have h2:=qp8 hk css (s+1) (fun i cs hi=>by
     have:=h (i+1) cs (by simpa using hi)
     rw [show s+1+i=s+(i+1) by omega];exact this) (j-k) c hj
    have e1:(s+1)*k+(j-k)=s*k+j:=by rw [Nat.add_mul];omega
    rw [Nat.add_assoc,e1] at h2
    exact ⟨by rw [Nat.add_assoc];exact h2.1,h2.2⟩
end Su
end
