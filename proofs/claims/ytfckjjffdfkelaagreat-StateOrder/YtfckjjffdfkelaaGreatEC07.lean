/-
  The evaluator computes what the plain functions say.
-/
import Derived.Test.YtfckjjffdfkelaaGreatRw
import Derived.Test.YtfckjjffdfkelaaGreatSuTb
import Derived.Test.YtfckjjffdfkelaaGreatHSh3
import Derived.Test.YtfckjjffdfkelaaGreatNC10
import Derived.Test.YtfckjjffdfkelaaGreatNC13
import Derived.Test.YtfckjjffdfkelaaGreatNC14
import Derived.Test.YtfckjjffdfkelaaGreatNC24
import Derived.Test.YtfckjjffdfkelaaGreatNB25
import Derived.Test.YtfckjjffdfkelaaGreatNB30
import Derived.Test.YtfckjjffdfkelaaGreatNB32
import Derived.Test.YtfckjjffdfkelaaGreatRjn
import Derived.Test.YtfckjjffdfkelaaGreatRkq
import Derived.Test.YtfckjjffdfkelaaGreatNB44
set_option maxRecDepth 10000
section
namespace Su
open Go Go.Proofs Fly
set_option maxRecDepth 100000
theorem qwr (fu:Nat)  (x:Int):qu tb Qf (shN tb Qf fu 9) fu 219 ((d1 (cI .u64)).enc (x)) ((d1 (cI .i64))).dec=qt2 x:=by kernel_rfl
noncomputable def qpK:PrimD:=prim (d1 (cI .u64)) (d1 (cI .i64)) (qoD)
theorem qA4:Ok1 Tryz.prog tb qh.sound 219 qpK:=qf qx Jm (by kernel_rfl) fun a y hg h=>⟨0,9,0,(qwr 0 a).trans (qt4 a y hg h)⟩
theorem qA5 (fu:Nat)  (a:Int) (b:Int):qu tb Qf (shN tb Qf fu 9) fu 209 ((dc (cI .u64) (d1 (cI .u64))).enc (a,b)) ((d1 cW)).dec=qEN a b:=by kernel_rfl
noncomputable def qws:PrimD:=prim (dc (cI .u64) (d1 (cI .u64))) (d1 cW) (qt5)
theorem qGj:Ok1 Tryz.prog tb qh.sound 209 qws:=qf qx Jm (by kernel_rfl) fun a y hg h=>⟨0,9,0,(qA5 0 a.1 a.2).trans (qzk a y hg h)⟩
theorem qA6 (fu:Nat)  (a:(Int×Int)) (b:(Int×Int)):qu tb Qf (shN tb Qf fu 9) fu 223 ((dc cW (d1 cW)).enc (a,b)) ((dc cW (d1 (cI .u64)))).dec=qEO a b:=by kernel_rfl
noncomputable def qwt:PrimD:=prim (dc cW (d1 cW)) (dc cW (d1 (cI .u64))) (qt6)
theorem qGk:Ok1 Tryz.prog tb qh.sound 223 qwt:=qf qx Jm (by kernel_rfl) fun a y hg h=>⟨0,9,0,(qA6 0 a.1 a.2).trans (qzl a y hg h)⟩
theorem qA7 (fu:Nat)  (a:(Int×Int)) (b:(Int×Int)):qu tb Qf (shN tb Qf fu 9) fu 224 ((dc cW (d1 cW)).enc (a,b)) ((dc cW (d1 (cI .u64)))).dec=qEP a b:=by kernel_rfl
noncomputable def qwu:PrimD:=prim (dc cW (d1 cW)) (dc cW (d1 (cI .u64))) (qt7)
theorem qGl:Ok1 Tryz.prog tb qh.sound 224 qwu:=qf qx Jm (by kernel_rfl) fun a y hg h=>⟨0,9,0,(qA7 0 a.1 a.2).trans (qzn a y hg h)⟩
noncomputable def ZF:qw:=qL [(219,qpK),(209,qws),(223,qwt),(224,qwu)] Qf
theorem qai:qo Tryz.prog tb qh.sound ZF:=qk Jm (qe qA4 (qe qGj (qe qGk (qe qGl qr))))
end Su
end
section
namespace Su
open Go Go.Proofs Fly
set_option maxRecDepth 100000
theorem qA8 (fu:Nat)  (a:(Int×Int)):qu tb ZF (shN tb ZF fu 9) fu 225 ((d1 cW).enc (a)) ((d1 (cI .i64))).dec=qEQ a:=by kernel_rfl
noncomputable def qwv:PrimD:=prim (d1 cW) (d1 (cI .i64)) (qt8)
theorem qGm:Ok1 Tryz.prog tb qh.sound 225 qwv:=qf qx qai (by kernel_rfl) fun a y hg h=>⟨0,9,0,(qA8 0 a).trans (qzo a y hg h)⟩
theorem qA9 (fu:Nat) (a:(Int×Int)) (n:Int):qu tb ZF (shN tb ZF fu 9) fu 221 ((dc cW (d1 (cI .i64))).enc (a,n)) ((d1 cW)).dec=qER fu a n:=by kernel_rfl
noncomputable def qww:PrimD:=prim (dc cW (d1 (cI .i64))) (d1 cW) (qt9)
theorem qGn:Ok1 Tryz.prog tb qh.sound 221 qww:=qf qx qai (by kernel_rfl) fun a y hg h=>by
 obtain ⟨n,hn⟩:=qzp a y hg h
 exact ⟨n,9,n,(qA9 n a.1 a.2).trans hn⟩
theorem qBa (fu:Nat) (a:(Int×Int)) (n:Int):qu tb ZF (shN tb ZF fu 9) fu 222 ((dc cW (d1 (cI .i64))).enc (a,n)) ((dc cW (d1 cB))).dec=qES fu a n:=by kernel_rfl
noncomputable def qwx:PrimD:=prim (dc cW (d1 (cI .i64))) (dc cW (d1 cB)) (qua)
theorem qGo:Ok1 Tryz.prog tb qh.sound 222 qwx:=qf qx qai (by kernel_rfl) fun a y hg h=>by
 obtain ⟨n,hn⟩:=qzq a y hg h
 exact ⟨n,9,n,(qBa n a.1 a.2).trans hn⟩
noncomputable def qdt:qw:=qL [(225,qwv),(221,qww),(222,qwx)] ZF
theorem qdu:qo Tryz.prog tb qh.sound qdt:=qk qai (qe qGm (qe qGn (qe qGo qr)))
end Su
end
section
namespace Su
open Go Go.Proofs Fly
set_option maxRecDepth 100000
theorem qGp (fu:Nat)  (x:(Bool×(Int×(Int×(Int×Bool))))) (mode:Int) (odd:Bool) (half:Bool) (rest:Bool):qu tb qdt (shN tb qdt fu 9) fu 237 ((dc qiK (dc (cI .u8) (dc cB (dc cB (d1 cB))))).enc (x,mode,odd,half,rest)) ((d1 cB)).dec=rUp x mode odd half rest:=by kernel_rfl
noncomputable def qDc:PrimD:=prim (dc qiK (dc (cI .u8) (dc cB (dc cB (d1 cB))))) (d1 cB) (qCD)
theorem qH5:Ok1 Tryz.prog tb qh.sound 237 qDc:=qf qx qdu (by kernel_rfl) fun a y hg h=>⟨0,9,0,(qGp 0 a.1 a.2.1 a.2.2.1 a.2.2.2.1 a.2.2.2.2).trans (qEU a y hg h)⟩
theorem qwy (fu:Nat)  (x:(Bool×(Int×(Int×(Int×Bool))))) (mode:Int):qu tb qdt (shN tb qdt fu 9) fu 238 ((dc qiK (d1 (cI .u8))).enc (x,mode)) ((dc (cI .u64) (d1 (cI .u8)))).dec=quc x mode:=by kernel_rfl
noncomputable def qpL:PrimD:=prim (dc qiK (d1 (cI .u8))) (dc (cI .u64) (d1 (cI .u8))) (qoI)
theorem qBb:Ok1 Tryz.prog tb qh.sound 238 qpL:=qf qx qdu (by kernel_rfl) fun a y hg h=>⟨0,9,0,(qwy 0 a.1 a.2).trans (qud a y hg h)⟩
noncomputable def qjC:qw:=qL [(237,qDc),(238,qpL)] qdt
theorem qhP:qo Tryz.prog tb qh.sound qjC:=qk qdu (qe qH5 (qe qBb qr))
end Su
end
section
namespace Su
open Go Go.Proofs Fly
set_option maxRecDepth 100000
theorem qru (fu:Nat)  (x:(Bool×(Int×(Int×(Int×Bool))))) (mode:Int):qu tb qjC (shN tb qjC fu 9) fu 226 ((dc qiK (d1 (cI .u8))).enc (x,mode)) ((dc (cI .u64) (d1 (cI .u8)))).dec=qm6 x mode:=by kernel_rfl
noncomputable def ql0:PrimD:=prim (dc qiK (d1 (cI .u8))) (dc (cI .u64) (d1 (cI .u8))) (J8)
theorem qwz:Ok1 Tryz.prog tb qh.sound 226 ql0:=qf qx qhP (by kernel_rfl) fun a y hg h=>⟨0,9,0,(qru 0 a.1 a.2).trans (qqU a y hg h)⟩
noncomputable def ZG:qw:=qL [(226,ql0)] qjC
theorem qaj:qo Tryz.prog tb qh.sound ZG:=qk qhP (qe qwz qr)
end Su
end
section
namespace Su
open Go Go.Proofs Fly
set_option maxRecDepth 100000
theorem qrv (fu:Nat)  (neg:Bool) (m:(Int×Int)) (e:Int) (rest:Bool) (mode:Int):qu tb ZG (shN tb ZG fu 9) fu 208 ((dc cB (dc cW (dc (cI .i64) (dc cB (d1 (cI .u8)))))).enc (neg,m,e,rest,mode)) ((dc (cI .u64) (d1 (cI .u8)))).dec=qm7 neg m e rest mode:=by kernel_rfl
noncomputable def ql1:PrimD:=prim (dc cB (dc cW (dc (cI .i64) (dc cB (d1 (cI .u8)))))) (dc (cI .u64) (d1 (cI .u8))) (qlm)
theorem qwA:Ok1 Tryz.prog tb qh.sound 208 ql1:=qf qx qaj (by kernel_rfl) fun a y hg h=>⟨0,9,0,(qrv 0 a.1 a.2.1 a.2.2.1 a.2.2.2.1 a.2.2.2.2).trans (qqV a y hg h)⟩
theorem qGq (fu:Nat)  (f:Int):qu tb ZG (shN tb ZG fu 9) fu 201 ((d1 (cI .u64)).enc (f)) ((d1 qqI)).dec=sOf f:=by kernel_rfl
noncomputable def qDd:PrimD:=prim (d1 (cI .u64)) (d1 qqI) (fun a=>sOf a)
theorem qH6:Ok1 Tryz.prog tb qh.sound 201 qDd:=qf qx qaj (by kernel_rfl) fun a y hg h=>⟨0,9,0,(qGq 0 a).trans h⟩
theorem qwB (fu:Nat)  (neg:Bool):qu tb ZG (shN tb ZG fu 9) fu 205 ((d1 cB).enc (neg)) ((d1 (cI .u64))).dec=qCE neg:=by kernel_rfl
noncomputable def qpM:PrimD:=prim (d1 cB) (d1 (cI .u64)) (fun a=>qCE a)
theorem qBc:Ok1 Tryz.prog tb qh.sound 205 qpM:=qf qx qaj (by kernel_rfl) fun a y hg h=>⟨0,9,0,(qwB 0 a).trans h⟩
noncomputable def qjD:qw:=qL [(208,ql1),(201,qDd),(205,qpM)] ZG
theorem qhQ:qo Tryz.prog tb qh.sound qjD:=qk qaj (qe qwA (qe qH6 (qe qBc qr)))
end Su
end
section
namespace Su
open Go Go.Proofs Fly
set_option maxRecDepth 100000
theorem qwC (fu:Nat)  (x:(Int×(Int×(Bool×(Int×Int))))) (y:(Int×(Int×(Bool×(Int×Int))))) (mode:Int):qu tb qjD (shN tb qjD fu 9) fu 206 ((dc qqI (dc qqI (d1 (cI .u8)))).enc (x,y,mode)) ((dc (cI .u64) (d1 (cI .u8)))).dec=qbY x y mode:=by kernel_rfl
noncomputable def qpN:PrimD:=prim (dc qqI (dc qqI (d1 (cI .u8)))) (dc (cI .u64) (d1 (cI .u8))) (fun a=>qbY a.1 a.2.1 a.2.2)
theorem qBd:Ok1 Tryz.prog tb qh.sound 206 qpN:=qf qx qhQ (by kernel_rfl) fun a y hg h=>⟨0,9,0,(qwC 0 a.1 a.2.1 a.2.2).trans h⟩
noncomputable def qdv:qw:=qL [(206,qpN)] qjD
theorem qdw:qo Tryz.prog tb qh.sound qdv:=qk qhQ (qe qBd qr)
end Su
end
section
namespace Su
open Go Go.Proofs Fly
set_option maxRecDepth 100000
theorem qBe (fu:Nat)  (a:Int) (b:Int) (mode:Int):qu tb qdv (shN tb qdv fu 9) fu 174 ((dc (cI .u64) (dc (cI .u64) (d1 (cI .u8)))).enc (a,b,mode)) ((dc (cI .u64) (d1 (cI .u8)))).dec=qqX a b mode:=by kernel_rfl
noncomputable def qwD:PrimD:=prim (dc (cI .u64) (dc (cI .u64) (d1 (cI .u8)))) (dc (cI .u64) (d1 (cI .u8))) (fun a=>qqX a.1 a.2.1 a.2.2)
theorem qGr:Ok1 Tryz.prog tb qh.sound 174 qwD:=qf qx qdw (by kernel_rfl) fun a y hg h=>⟨0,9,0,(qBe 0 a.1 a.2.1 a.2.2).trans h⟩
theorem qBf (fu:Nat)  (a:Int) (b:Int) (mode:Int):qu tb qdv (shN tb qdv fu 9) fu 179 ((dc (cI .u64) (dc (cI .u64) (d1 (cI .u8)))).enc (a,b,mode)) ((dc (cI .u64) (d1 (cI .u8)))).dec=qug a b mode:=by kernel_rfl
noncomputable def qwE:PrimD:=prim (dc (cI .u64) (dc (cI .u64) (d1 (cI .u8)))) (dc (cI .u64) (d1 (cI .u8))) (fun a=>qug a.1 a.2.1 a.2.2)
theorem qGs:Ok1 Tryz.prog tb qh.sound 179 qwE:=qf qx qdw (by kernel_rfl) fun a y hg h=>⟨0,9,0,(qBf 0 a.1 a.2.1 a.2.2).trans h⟩
noncomputable def YL:qw:=qL [(174,qwD),(179,qwE)] qdv
theorem Ym:qo Tryz.prog tb qh.sound YL:=qk qdw (qe qGr (qe qGs qr))
end Su
end
section
namespace Su
open Go Go.Proofs Fly
set_option maxRecDepth 100000
theorem qBg (fu:Nat)  (a:Int) (b:Int) (mode:Int):qu tb YL (shN tb YL fu 9) fu 114 ((dc (cI .u64) (dc (cI .u64) (d1 (cI .u8)))).enc (a,b,mode)) ((d1 (cI .u64))).dec=qEX a b mode:=by kernel_rfl
noncomputable def qwF:PrimD:=prim (dc (cI .u64) (dc (cI .u64) (d1 (cI .u8)))) (d1 (cI .u64)) (qi6)
theorem qwG:Ok1 Tryz.prog tb qh.sound 114 qwF:=qf qx Ym (by kernel_rfl) fun a y hg h=>⟨0,9,0,(qBg 0 a.1 a.2.1 a.2.2).trans (qzt a y hg h)⟩
theorem qBh (fu:Nat)  (a:Int) (b:Int) (mode:Int):qu tb YL (shN tb YL fu 9) fu 121 ((dc (cI .u64) (dc (cI .u64) (d1 (cI .u8)))).enc (a,b,mode)) ((d1 (cI .u64))).dec=qEY a b mode:=by kernel_rfl
noncomputable def qwH:PrimD:=prim (dc (cI .u64) (dc (cI .u64) (d1 (cI .u8)))) (d1 (cI .u64)) (qi7)
theorem qwI:Ok1 Tryz.prog tb qh.sound 121 qwH:=qf qx Ym (by kernel_rfl) fun a y hg h=>⟨0,9,0,(qBh 0 a.1 a.2.1 a.2.2).trans (qzu a y hg h)⟩
theorem qGt (fu:Nat) (l:(List Int)):qu tb YL (shN tb YL fu 9) fu 112 ((d1 (cQ 2 1)).enc (l)) ((d1 (cI .u64))).dec=aUp fu l:=by kernel_rfl
noncomputable def qDe:PrimD:=prim (d1 (cQ 2 1)) (d1 (cI .u64)) (qoN)
theorem qDf:Ok1 Tryz.prog tb qh.sound 112 qDe:=qf qx Ym (by kernel_rfl) fun a y hg h=>by
 obtain ⟨n,hn⟩:=qEZ a y hg h
 exact ⟨n,9,n,(qGt n a).trans hn⟩
noncomputable def qba:qw:=qL [(114,qwF),(121,qwH),(112,qDe)] YL
theorem qak:qo Tryz.prog tb qh.sound qba:=qk Ym (qe qwG (qe qwI (qe qDf qr)))
end Su
end
section
namespace Su
open Go Go.Proofs Fly
set_option maxRecDepth 100000
theorem qBi (fu:Nat) (l:(List Su.Tm)) (u:Unit):qoe tb qba fu 9 175 (0,103) ((dc qiM (d1 (cF 176))).enc (l,u)) ((d1 Zh)).dec=qE0 fu l u:=by kernel_rfl
theorem qwJ (fu:Nat) (l:(List Su.Tm)) (u:Unit):qu tb qba (shN tb qba fu 9) fu 175 ((dc Zh (d1 (cF 176))).enc (l,u)) ((d1 Zh)).dec=qun fu l u:=by kernel_rfl
theorem qwK (fu:Nat) (l:(List Su.Tm)) (u:Unit):qu tb qba (shN tb qba fu 9) fu 177 ((dc Zh (d1 (cF 178))).enc (l,u)) ((d1 cB)).dec=qup fu l u:=by kernel_rfl
noncomputable def qjE:PrimD:=prim (dc Zh (d1 (cF 178))) (d1 cB) (qoQ)
theorem qpO:Ok1 Tryz.prog tb qh.sound 177 qjE:=qf qx qak (by kernel_rfl) fun a y hg h=>by
 obtain ⟨n,hn⟩:=quq a y hg h
 exact ⟨n,9,n,(qwK n a.1 a.2).trans hn⟩
theorem qBj:Ok1 Tryz.prog tb qh.sound 175 (qg4 (0,103) (dc qiM (d1 (cF 176))) (d1 Zh) (qnb)):=qkU qx qak (by kernel_rfl) (exc qCv (ex1 (exFn 176))) qHv fun a y hg h=>by
 obtain ⟨n,hn⟩:=qzx a y hg h
 exact ⟨n,9,(qBi n a.1 a.2).trans hn⟩
noncomputable def qnw:PrimD:=qiI (0,103) (dc qiM (d1 (cF 176))) (d1 Zh) (qnb) (dc Zh (d1 (cF 176))) qoR
theorem qwL:Ok1 Tryz.prog tb qh.sound 175 qnw:=qg5 qx qak qBj fun a y hg h=>by
 obtain ⟨n,hn⟩:=qur a y hg h
 exact ⟨n,9,n,(qwJ n a.1 a.2).trans hn⟩
noncomputable def qbb:qw:=qL [(175,qnw),(177,qjE)] qba
theorem qal:qo Tryz.prog tb qh.sound qbb:=qk qak (qe qwL (qe qpO qr))
end Su
end
section
namespace Su
open Go Go.Proofs Fly
set_option maxRecDepth 100000
theorem qwM (fu:Nat)  (a:(Bool×(Int×((List Su.Tm)×Int)))):qoe tb qbb fu 9 117 (2,103) ((d1 qfu).enc (a)) ((d1 jw)).dec=qus a:=by kernel_rfl
theorem qrw (fu:Nat)  (a:(Bool×(Int×((List Su.Tm)×Int)))):qu tb qbb (shN tb qbb fu 9) fu 117 ((d1 jw).enc (a)) ((d1 jw)).dec=qnd a:=by kernel_rfl
theorem qBk (fu:Nat) (a:(Bool×(Int×((List Su.Tm)×Int)))):qu tb qbb (shN tb qbb fu 9) fu 39 ((d1 jw).enc (a)) ((d1 cB)).dec=qE1 fu a:=by kernel_rfl
noncomputable def qwN:PrimD:=prim (d1 jw) (d1 cB) (quu)
theorem qGu:Ok1 Tryz.prog tb qh.sound 39 qwN:=qf qx qal (by kernel_rfl) fun a y hg h=>by
 obtain ⟨n,hn⟩:=qzy a y hg h
 exact ⟨n,9,n,(qBk n a).trans hn⟩
theorem qwO:Ok1 Tryz.prog tb qh.sound 117 (qg4 (2,103) (d1 qfu) (d1 jw) (qi9)):=qkU qx qal (by kernel_rfl) exF4 hnA fun a y hg h=>⟨0,9,(qwM 0 a).trans (qut a y hg h)⟩
noncomputable def qpP:PrimD:=qiI (2,103) (d1 qfu) (d1 jw) (qi9) (d1 jw) qlq
theorem qpQ:Ok1 Tryz.prog tb qh.sound 117 qpP:=qg5 qx qal qwO fun a y hg h=>⟨0,9,0,(qrw 0 a).trans (qq0 a y hg h)⟩
noncomputable def qjF:qw:=qL [(117,qpP),(39,qwN)] qbb
theorem qhR:qo Tryz.prog tb qh.sound qjF:=qk qal (qe qpQ (qe qGu qr))
end Su
end
section
namespace Su
open Go Go.Proofs Fly
set_option maxRecDepth 100000
theorem qrx (fu:Nat) (l:(List (Bool×(Int×((List Su.Tm)×Int))))):qu tb qjF (shN tb qjF fu 9) fu 110 ((d1 qEa).enc (l)) ((d1 cB)).dec=qne fu l:=by kernel_rfl
noncomputable def ql2:PrimD:=prim (d1 qEa) (d1 cB) (qlr)
theorem qwP:Ok1 Tryz.prog tb qh.sound 110 ql2:=qf qx qhR (by kernel_rfl) fun a y hg h=>by
 obtain ⟨n,hn⟩:=qq1 a y hg h
 exact ⟨n,9,n,(qrx n a).trans hn⟩
noncomputable def qdx:qw:=qL [(110,ql2)] qjF
theorem qdy:qo Tryz.prog tb qh.sound qdx:=qk qhR (qe qwP qr)
end Su
end
section
namespace Su
open Go Go.Proofs Fly
set_option maxRecDepth 100000
theorem qBl (fu:Nat) (a:(Bool×(Int×((List Su.Tm)×Int)))):qu tb qdx (shN tb qdx fu 9) fu 47 ((d1 jw).enc (a)) ((d1 jw)).dec=qE2 fu a:=by kernel_rfl
noncomputable def qwQ:PrimD:=prim (d1 jw) (d1 jw) (qux)
theorem qGv:Ok1 Tryz.prog tb qh.sound 47 qwQ:=qf qx qdy (by kernel_rfl) fun a y hg h=>by
 obtain ⟨n,hn⟩:=qzz a y hg h
 exact ⟨n,9,n,(qBl n a).trans hn⟩
theorem qry (fu:Nat)  (f:Int):qu tb qdx (shN tb qdx fu 9) fu 81 ((d1 (cI .u64)).enc (f)) ((d1 jw)).dec=quw f:=by kernel_rfl
noncomputable def ql3:PrimD:=prim (d1 (cI .u64)) (d1 jw) (qls)
theorem qwR:Ok1 Tryz.prog tb qh.sound 81 ql3:=qf qx qdy (by kernel_rfl) fun a y hg h=>⟨0,9,0,(qry 0 a).trans (qq3 a y hg h)⟩
noncomputable def qwS:qw:=qL [(47,qwQ),(81,ql3)] qdx
theorem qrz:qo Tryz.prog tb qh.sound qwS:=qk qdy (qe qGv (qe qwR qr))
end Su
end
section
namespace Su
open Go Go.Proofs Fly
set_option maxRecDepth 100000
noncomputable def qeE:qw:=qL [] qwS
theorem qgb:qo Tryz.prog tb qh.sound qeE:=qk qrz qr
end Su
end
section
namespace Su
open Go Go.Proofs Fly
set_option maxRecDepth 100000
theorem qBm (fu:Nat)  (a:Int) (b:Int):qu tb qeE (shN tb qeE fu 9) fu 129 ((dc (cI .u64) (d1 (cI .u64))).enc (a,b)) ((d1 cB)).dec=qE3 a b:=by kernel_rfl
noncomputable def qwT:PrimD:=prim (dc (cI .u64) (d1 (cI .u64))) (d1 cB) (quy)
theorem qGw:Ok1 Tryz.prog tb qh.sound 129 qwT:=qf qx qgb (by kernel_rfl) fun a y hg h=>⟨0,9,0,(qBm 0 a.1 a.2).trans (qzB a y hg h)⟩
noncomputable def qjG:qw:=qL [(129,qwT)] qeE
theorem qhS:qo Tryz.prog tb qh.sound qjG:=qk qgb (qe qGw qr)
end Su
end
section
namespace Su
open Go Go.Proofs Fly
set_option maxRecDepth 100000
theorem qrA (fu:Nat) (s:(Bool×(Int×Int))):qu tb qjG (shN tb qjG fu 9) fu 128 ((d1 yE).enc (s)) ((d1 yE)).dec=qnf fu s:=by kernel_rfl
noncomputable def ql4:PrimD:=prim (d1 yE) (d1 yE) (qlu)
theorem qwU:Ok1 Tryz.prog tb qh.sound 128 ql4:=qf qx qhS (by kernel_rfl) fun a y hg h=>by
 obtain ⟨n,hn⟩:=qq4 a y hg h
 exact ⟨n,9,n,(qrA n a).trans hn⟩
noncomputable def qjH:qw:=qL [(128,ql4)] qjG
theorem qhT:qo Tryz.prog tb qh.sound qjH:=qk qhS (qe qwU qr)
end Su
end
section
namespace Su
open Go Go.Proofs Fly
set_option maxRecDepth 100000
theorem qBn (fu:Nat) (a:(Bool×(Int×((List Su.Tm)×Int)))):qu tb qjH (shN tb qjH fu 9) fu 104 ((d1 jw).enc (a)) ((d1 (cI .u64))).dec=qE4 fu a:=by kernel_rfl
noncomputable def qwV:PrimD:=prim (d1 jw) (d1 (cI .u64)) (qc6)
theorem qGx:Ok1 Tryz.prog tb qh.sound 104 qwV:=qf qx qhT (by kernel_rfl) fun a y hg h=>by
 obtain ⟨n,hn⟩:=qzC a y hg h
 exact ⟨n,9,n,(qBn n a).trans hn⟩
noncomputable def qdz:qw:=qL [(104,qwV)] qjH
theorem qdA:qo Tryz.prog tb qh.sound qdz:=qk qhT (qe qGx qr)
end Su
end
section
namespace Su
open Go Go.Proofs Fly
set_option maxRecDepth 100000
theorem qwW (fu:Nat)  (a:(Bool×(Int×((List Su.Tm)×Int)))):qu tb qdz (shN tb qdz fu 9) fu 120 ((d1 jw).enc (a)) ((d1 (cI .u64))).dec=quz a:=by kernel_rfl
noncomputable def qpR:PrimD:=prim (d1 jw) (d1 (cI .u64)) (qoU)
theorem qBo:Ok1 Tryz.prog tb qh.sound 120 qpR:=qf qx qdA (by kernel_rfl) fun a y hg h=>⟨0,9,0,(qwW 0 a).trans (quA a y hg h)⟩
theorem qBp (fu:Nat)  (a:Int) (b:Int):qu tb qdz (shN tb qdz fu 9) fu 126 ((dc (cI .u64) (d1 (cI .u64))).enc (a,b)) ((d1 (cI .u64))).dec=aMid a b:=by kernel_rfl
noncomputable def qwX:PrimD:=prim (dc (cI .u64) (d1 (cI .u64))) (d1 (cI .u64)) (quB)
theorem qGy:Ok1 Tryz.prog tb qh.sound 126 qwX:=qf qx qdA (by kernel_rfl) fun a y hg h=>⟨0,9,0,(qBp 0 a.1 a.2).trans (qzD a y hg h)⟩
noncomputable def qjI:qw:=qL [(120,qpR),(126,qwX)] qdz
theorem qhU:qo Tryz.prog tb qh.sound qjI:=qk qdA (qe qBo (qe qGy qr))
end Su
end
section
namespace Su
open Go Go.Proofs Fly
set_option maxRecDepth 100000
theorem qwY (fu:Nat)  (a:(Bool×(Int×((List Su.Tm)×Int)))):qu tb qjI (shN tb qjI fu 9) fu 50 ((d1 jw).enc (a)) ((d1 yE)).dec=quC a:=by kernel_rfl
noncomputable def qpS:PrimD:=prim (d1 jw) (d1 yE) (Z6)
theorem qBq:Ok1 Tryz.prog tb qh.sound 50 qpS:=qf qx qhU (by kernel_rfl) fun a y hg h=>⟨0,9,0,(qwY 0 a).trans (quD a y hg h)⟩
noncomputable def qjJ:qw:=qL [(50,qpS)] qjI
theorem qhV:qo Tryz.prog tb qh.sound qjJ:=qk qhU (qe qBq qr)
end Su
end
section
namespace Su
open Go Go.Proofs Fly
set_option maxRecDepth 100000
theorem qwZ (fu:Nat)  (s:(Bool×(Int×Int))):qu tb qjJ (shN tb qjJ fu 9) fu 141 ((d1 cIn).enc (s)) ((d1 cIn)).dec=quK s:=by kernel_rfl
noncomputable def qpT:PrimD:=prim (d1 cIn) (d1 cIn) (qoX)
theorem qBr:Ok1 Tryz.prog tb qh.sound 141 qpT:=qf qx qhV (by kernel_rfl) fun a y hg h=>⟨0,9,0,(qwZ 0 a).trans (quL a y hg h)⟩
noncomputable def jQ:qw:=qL [(141,qpT)] qjJ
theorem j4:qo Tryz.prog tb qh.sound jQ:=qk qhV (qe qBr qr)
end Su
end
section
namespace Su
open Go Go.Proofs Fly
set_option maxRecDepth 100000
theorem qw0 (fu:Nat)  (lo:Int) (hi:Int):qu tb jQ (shN tb jQ fu 9) fu 60 ((dc (cI .i64) (d1 (cI .i64))).enc (lo,hi)) ((d1 cIn)).dec=qCJ lo hi:=by kernel_rfl
noncomputable def qpU:PrimD:=prim (dc (cI .i64) (d1 (cI .i64))) (d1 cIn) (qoY)
theorem qBs:Ok1 Tryz.prog tb qh.sound 60 qpU:=qf qx j4 (by kernel_rfl) fun a y hg h=>⟨0,9,0,(qw0 0 a.1 a.2).trans (quO a y hg h)⟩
theorem qBt (fu:Nat)  (s:(Bool×(Int×Int))) (n:Int):qu tb jQ (shN tb jQ fu 9) fu 75 ((dc cIn (d1 (cI .i64))).enc (s,n)) ((d1 cB)).dec=qE7 s n:=by kernel_rfl
noncomputable def qw1:PrimD:=prim (dc cIn (d1 (cI .i64))) (d1 cB) (quP)
theorem qGz:Ok1 Tryz.prog tb qh.sound 75 qw1:=qf qx j4 (by kernel_rfl) fun a y hg h=>⟨0,9,0,(qBt 0 a.1 a.2).trans (qzE a y hg h)⟩
theorem qBu (fu:Nat)  (a:(Bool×(Int×Int))) (b:(Bool×(Int×Int))):qu tb jQ (shN tb jQ fu 9) fu 74 ((dc cIn (d1 cIn)).enc (a,b)) ((d1 cB)).dec=qE8 a b:=by kernel_rfl
noncomputable def qw2:PrimD:=prim (dc cIn (d1 cIn)) (d1 cB) (quQ)
theorem qGA:Ok1 Tryz.prog tb qh.sound 74 qw2:=qf qx j4 (by kernel_rfl) fun a y hg h=>⟨0,9,0,(qBu 0 a.1 a.2).trans (qzF a y hg h)⟩
theorem qw3 (fu:Nat) (l:(List (Bool×(Int×Int)))):qu tb jQ (shN tb jQ fu 9) fu 87 ((d1 (cL rIn)).enc (l)) ((d1 cIn)).dec=quM fu l:=by kernel_rfl
noncomputable def qpV:PrimD:=prim (d1 (cL rIn)) (d1 cIn) (qo0)
theorem qBv:Ok1 Tryz.prog tb qh.sound 87 qpV:=qf qx j4 (by kernel_rfl) fun a y hg h=>by
 obtain ⟨n,hn⟩:=quR a y hg h
 exact ⟨n,9,n,(qw3 n a).trans hn⟩
theorem qBw (fu:Nat)  (a:(Bool×(Int×Int))):qu tb jQ (shN tb jQ fu 9) fu 196 ((d1 cIn).enc (a)) ((d1 cIn)).dec=qE9 a:=by kernel_rfl
noncomputable def qw4:PrimD:=prim (d1 cIn) (d1 cIn) (quS)
theorem qGB:Ok1 Tryz.prog tb qh.sound 196 qw4:=qf qx j4 (by kernel_rfl) fun a y hg h=>⟨0,9,0,(qBw 0 a).trans (qzI a y hg h)⟩
theorem qw5 (fu:Nat)  (a:(Bool×(Int×Int))) (b:(Bool×(Int×Int))):qu tb jQ (shN tb jQ fu 9) fu 164 ((dc cIn (d1 cIn)).enc (a,b)) ((d1 cIn)).dec=quN a b:=by kernel_rfl
noncomputable def qpW:PrimD:=prim (dc cIn (d1 cIn)) (d1 cIn) (qo1)
theorem qBx:Ok1 Tryz.prog tb qh.sound 164 qpW:=qf qx j4 (by kernel_rfl) fun a y hg h=>⟨0,9,0,(qw5 0 a.1 a.2).trans (quT a y hg h)⟩
theorem qBy (fu:Nat)  (x:Int) (y:Int):qu tb jQ (shN tb jQ fu 9) fu 167 ((dc (cI .i64) (d1 (cI .i64))).enc (x,y)) ((d1 (cI .i64))).dec=qFa x y:=by kernel_rfl
noncomputable def qw6:PrimD:=prim (dc (cI .i64) (d1 (cI .i64))) (d1 (cI .i64)) (quU)
theorem qGC:Ok1 Tryz.prog tb qh.sound 167 qw6:=qf qx j4 (by kernel_rfl) fun a y hg h=>⟨0,9,0,(qBy 0 a.1 a.2).trans (qzJ a y hg h)⟩
theorem qw7 (fu:Nat)  (lo:Int) (hi:Int):qu tb jQ (shN tb jQ fu 9) fu 166 ((dc (cI .i64) (d1 (cI .i64))).enc (lo,hi)) ((d1 cIn)).dec=qCK lo hi:=by kernel_rfl
noncomputable def qpX:PrimD:=prim (dc (cI .i64) (d1 (cI .i64))) (d1 cIn) (qo2)
theorem qBz:Ok1 Tryz.prog tb qh.sound 166 qpX:=qf qx j4 (by kernel_rfl) fun a y hg h=>⟨0,9,0,(qw7 0 a.1 a.2).trans (quV a y hg h)⟩
noncomputable def qjK:qw:=qL [(60,qpU),(75,qw1),(74,qw2),(87,qpV),(196,qw4),(164,qpW),(167,qw6),(166,qpX)] jQ
theorem qhW:qo Tryz.prog tb qh.sound qjK:=qk j4 (qe qBs (qe qGz (qe qGA (qe qBv (qe qGB (qe qBx (qe qGC (qe qBz qr))))))))
end Su
end
section
namespace Su
open Go Go.Proofs Fly
set_option maxRecDepth 100000
theorem qBA (fu:Nat)  (a:(Bool×(Int×Int))) (b:(Bool×(Int×Int))):qu tb qjK (shN tb qjK fu 9) fu 103 ((dc cIn (d1 cIn)).enc (a,b)) ((d1 cIn)).dec=qFb a b:=by kernel_rfl
noncomputable def qw8:PrimD:=prim (dc cIn (d1 cIn)) (d1 cIn) (quW)
theorem qGD:Ok1 Tryz.prog tb qh.sound 103 qw8:=qf qx qhW (by kernel_rfl) fun a y hg h=>⟨0,9,0,(qBA 0 a.1 a.2).trans (qzK a y hg h)⟩
noncomputable def ZH:qw:=qL [(103,qw8)] qjK
theorem qam:qo Tryz.prog tb qh.sound ZH:=qk qhW (qe qGD qr)
end Su
end
section
namespace Su
open Go Go.Proofs Fly
set_option maxRecDepth 100000
theorem qBB (fu:Nat)  (a:(Bool×(Int×Int))) (b:(Bool×(Int×Int))):qu tb ZH (shN tb ZH fu 9) fu 156 ((dc cIn (d1 cIn)).enc (a,b)) ((d1 cIn)).dec=iSub a b:=by kernel_rfl
noncomputable def qw9:PrimD:=prim (dc cIn (d1 cIn)) (d1 cIn) (quY)
theorem qGE:Ok1 Tryz.prog tb qh.sound 156 qw9:=qf qx qam (by kernel_rfl) fun a y hg h=>⟨0,9,0,(qBB 0 a.1 a.2).trans (qzM a y hg h)⟩
theorem qGF (fu:Nat)  (n:Int):qu tb ZH (shN tb ZH fu 9) fu 28 ((d1 (cI .i64)).enc (n)) ((d1 cIn)).dec=iPt n:=by kernel_rfl
noncomputable def qDg:PrimD:=prim (d1 (cI .i64)) (d1 cIn) (qCL)
theorem qH7:Ok1 Tryz.prog tb qh.sound 28 qDg:=qf qx qam (by kernel_rfl) fun a y hg h=>⟨0,9,0,(qGF 0 a).trans (qFc a y hg h)⟩
theorem qxa (fu:Nat)  (c:((Bool×(Int×Int))×(Bool×(Int×Int)))):qu tb ZH (shN tb ZH fu 9) fu 155 ((d1 jE).enc (c)) ((d1 jE)).dec=quX c:=by kernel_rfl
noncomputable def qpY:PrimD:=prim (d1 jE) (d1 jE) (qo3)
theorem qBC:Ok1 Tryz.prog tb qh.sound 155 qpY:=qf qx qam (by kernel_rfl) fun a y hg h=>⟨0,9,0,(qxa 0 a).trans (quZ a y hg h)⟩
noncomputable def j7:qw:=qL [(156,qw9),(28,qDg),(155,qpY)] ZH
theorem yl:qo Tryz.prog tb qh.sound j7:=qk qam (qe qGE (qe qH7 (qe qBC qr)))
end Su
end
section
namespace Su
open Go Go.Proofs Fly
set_option maxRecDepth 100000
theorem qGG (fu:Nat)  (v:(Bool×(Int×Int))) (k:(Bool×(Int×Int))):qu tb j7 (shN tb j7 fu 9) fu 79 ((dc cIn (d1 cIn)).enc (v,k)) ((d1 jE)).dec=kOf v k:=by kernel_rfl
noncomputable def qDh:PrimD:=prim (dc cIn (d1 cIn)) (d1 jE) (qCN)
theorem qH8:Ok1 Tryz.prog tb qh.sound 79 qDh:=qf qx yl (by kernel_rfl) fun a y hg h=>⟨0,9,0,(qGG 0 a.1 a.2).trans (qFe a y hg h)⟩
theorem qxb (fu:Nat)  (c:((Bool×(Int×Int))×(Bool×(Int×Int)))):qu tb j7 (shN tb j7 fu 9) fu 102 ((d1 jE).enc (c)) ((d1 jE)).dec=qCM c:=by kernel_rfl
noncomputable def qpZ:PrimD:=prim (d1 jE) (d1 jE) (qo4)
theorem qBD:Ok1 Tryz.prog tb qh.sound 102 qpZ:=qf qx yl (by kernel_rfl) fun a y hg h=>⟨0,9,0,(qxb 0 a).trans (qu0 a y hg h)⟩
theorem qBE (fu:Nat)  (v:(Bool×(Int×Int))) (c:((Bool×(Int×Int))×(Bool×(Int×Int)))) (k:(Bool×(Int×Int))):qu tb j7 (shN tb j7 fu 9) fu 97 ((dc cIn (dc jE (d1 cIn))).enc (v,c,k)) ((d1 cIn)).dec=kRed v c k:=by kernel_rfl
noncomputable def qxc:PrimD:=prim (dc cIn (dc jE (d1 cIn))) (d1 cIn) (qu1)
theorem qGH:Ok1 Tryz.prog tb qh.sound 97 qxc:=qf qx yl (by kernel_rfl) fun a y hg h=>⟨0,9,0,(qBE 0 a.1 a.2.1 a.2.2).trans (qzN a y hg h)⟩
theorem qGI (fu:Nat)  (a:((Bool×(Int×Int))×(Bool×(Int×Int)))) (b:((Bool×(Int×Int))×(Bool×(Int×Int)))):qu tb j7 (shN tb j7 fu 9) fu 165 ((dc jE (d1 jE)).enc (a,b)) ((d1 jE)).dec=kMt a b:=by kernel_rfl
noncomputable def qDi:PrimD:=prim (dc jE (d1 jE)) (d1 jE) (qCO)
theorem qH9:Ok1 Tryz.prog tb qh.sound 165 qDi:=qf qx yl (by kernel_rfl) fun a y hg h=>⟨0,9,0,(qGI 0 a.1 a.2).trans (qFf a y hg h)⟩
theorem qGJ (fu:Nat)  (a:((Bool×(Int×Int))×(Bool×(Int×Int)))) (b:((Bool×(Int×Int))×(Bool×(Int×Int)))):qu tb j7 (shN tb j7 fu 9) fu 90 ((dc jE (d1 jE)).enc (a,b)) ((d1 jE)).dec=kJn a b:=by kernel_rfl
noncomputable def qDj:PrimD:=prim (dc jE (d1 jE)) (d1 jE) (qCP)
theorem qIa:Ok1 Tryz.prog tb qh.sound 90 qDj:=qf qx yl (by kernel_rfl) fun a y hg h=>⟨0,9,0,(qGJ 0 a.1 a.2).trans (qFg a y hg h)⟩
theorem qGK (fu:Nat)  (a:((Bool×(Int×Int))×(Bool×(Int×Int)))) (b:((Bool×(Int×Int))×(Bool×(Int×Int)))):qu tb j7 (shN tb j7 fu 9) fu 153 ((dc jE (d1 jE)).enc (a,b)) ((d1 cB)).dec=kIn a b:=by kernel_rfl
noncomputable def qDk:PrimD:=prim (dc jE (d1 jE)) (d1 cB) (qCQ)
theorem qIb:Ok1 Tryz.prog tb qh.sound 153 qDk:=qf qx yl (by kernel_rfl) fun a y hg h=>⟨0,9,0,(qGK 0 a.1 a.2).trans (qFh a y hg h)⟩
theorem qBF (fu:Nat)  (c:((Bool×(Int×Int))×(Bool×(Int×Int)))) (v:Int) (k:Int):qu tb j7 (shN tb j7 fu 9) fu 154 ((dc jE (dc (cI .i64) (d1 (cI .i64)))).enc (c,v,k)) ((d1 cB)).dec=qFd c v k:=by kernel_rfl
noncomputable def qxd:PrimD:=prim (dc jE (dc (cI .i64) (d1 (cI .i64)))) (d1 cB) (qu2)
theorem qGL:Ok1 Tryz.prog tb qh.sound 154 qxd:=qf qx yl (by kernel_rfl) fun a y hg h=>⟨0,9,0,(qBF 0 a.1 a.2.1 a.2.2).trans (qzO a y hg h)⟩
noncomputable def yD:qw:=qL [(79,qDh),(102,qpZ),(97,qxc),(165,qDi),(90,qDj),(153,qDk),(154,qxd)] j7
theorem y8:qo Tryz.prog tb qh.sound yD:=qk yl (qe qH8 (qe qBD (qe qGH (qe qH9 (qe qIa (qe qIb (qe qGL qr)))))))
end Su
end
section
namespace Su
open Go Go.Proofs Fly
set_option maxRecDepth 100000
theorem qxe (fu:Nat)  (lo:Int) (hi:Int):qu tb yD (shN tb yD fu 9) fu 95 ((dc (cI .u64) (d1 (cI .u64))).enc (lo,hi)) ((d1 yE)).dec=qCR lo hi:=by kernel_rfl
noncomputable def qp0:PrimD:=prim (dc (cI .u64) (d1 (cI .u64))) (d1 yE) (qo7)
theorem qBG:Ok1 Tryz.prog tb qh.sound 95 qp0:=qf qx y8 (by kernel_rfl) fun a y hg h=>⟨0,9,0,(qxe 0 a.1 a.2).trans (qu8 a y hg h)⟩
theorem qGM (fu:Nat)  (a:(Bool×(Int×Int))) (b:(Bool×(Int×Int))):qu tb yD (shN tb yD fu 9) fu 52 ((dc yE (d1 yE)).enc (a,b)) ((d1 cB)).dec=zIn a b:=by kernel_rfl
noncomputable def qDl:PrimD:=prim (dc yE (d1 yE)) (d1 cB) (qCS)
theorem qIc:Ok1 Tryz.prog tb qh.sound 52 qDl:=qf qx y8 (by kernel_rfl) fun a y hg h=>⟨0,9,0,(qGM 0 a.1 a.2).trans (qFl a y hg h)⟩
theorem qBH (fu:Nat)  (s:(Bool×(Int×Int))) (f:Int):qu tb yD (shN tb yD fu 9) fu 57 ((dc yE (d1 (cI .u64))).enc (s,f)) ((d1 cB)).dec=qFk s f:=by kernel_rfl
noncomputable def qxf:PrimD:=prim (dc yE (d1 (cI .u64))) (d1 cB) (qu9)
theorem qGN:Ok1 Tryz.prog tb qh.sound 57 qxf:=qf qx y8 (by kernel_rfl) fun a y hg h=>⟨0,9,0,(qBH 0 a.1 a.2).trans (qzR a y hg h)⟩
theorem qxg (fu:Nat)  (a:(Bool×(Int×Int))) (b:(Bool×(Int×Int))):qu tb yD (shN tb yD fu 9) fu 99 ((dc yE (d1 yE)).enc (a,b)) ((d1 yE)).dec=qu6 a b:=by kernel_rfl
noncomputable def qp1:PrimD:=prim (dc yE (d1 yE)) (d1 yE) (qo8)
theorem qBI:Ok1 Tryz.prog tb qh.sound 99 qp1:=qf qx y8 (by kernel_rfl) fun a y hg h=>⟨0,9,0,(qxg 0 a.1 a.2).trans (qva a y hg h)⟩
theorem qxh (fu:Nat) (l:(List (Bool×(Int×Int)))):qu tb yD (shN tb yD fu 9) fu 91 ((d1 (cL rSp)).enc (l)) ((d1 yE)).dec=qu7 fu l:=by kernel_rfl
noncomputable def qp2:PrimD:=prim (d1 (cL rSp)) (d1 yE) (qpa)
theorem qBJ:Ok1 Tryz.prog tb qh.sound 91 qp2:=qf qx y8 (by kernel_rfl) fun a y hg h=>by
 obtain ⟨n,hn⟩:=qvb a y hg h
 exact ⟨n,9,n,(qxh n a).trans hn⟩
theorem qrB (fu:Nat) (l:(List Int)):qu tb yD (shN tb yD fu 9) fu 92 ((d1 (cQ 2 1)).enc (l)) ((d1 (cI .u64))).dec=qnh fu l:=by kernel_rfl
noncomputable def ql5:PrimD:=prim (d1 (cQ 2 1)) (d1 (cI .u64)) (qlB)
theorem qxi:Ok1 Tryz.prog tb qh.sound 92 ql5:=qf qx y8 (by kernel_rfl) fun a y hg h=>by
 obtain ⟨n,hn⟩:=qq8 a y hg h
 exact ⟨n,9,n,(qrB n a).trans hn⟩
noncomputable def qdB:qw:=qL [(95,qp0),(52,qDl),(57,qxf),(99,qp1),(91,qp2),(92,ql5)] yD
theorem qdC:qo Tryz.prog tb qh.sound qdB:=qk y8 (qe qBG (qe qIc (qe qGN (qe qBI (qe qBJ (qe qxi qr))))))
end Su
end
section
namespace Su
open Go Go.Proofs Fly
set_option maxRecDepth 100000
theorem qxj (fu:Nat)  (x:Su.Ce) (t:Int):qu tb qdB (shN tb qdB fu 9) fu 151 ((dc cCe (d1 (cI .u8))).enc (x,t)) ((d1 cCe)).dec=qvc x t:=by kernel_rfl
noncomputable def qp3:PrimD:=prim (dc cCe (d1 (cI .u8))) (d1 cCe) (qpb)
theorem qBK:Ok1 Tryz.prog tb qh.sound 151 qp3:=qf qx qdC (by kernel_rfl) fun a y hg h=>⟨0,9,0,(qxj 0 a.1 a.2).trans (qve a y hg h)⟩
theorem qxk (fu:Nat)  (x:Su.Ce) (t:Int):qu tb qdB (shN tb qdB fu 9) fu 152 ((dc cCe (d1 (cI .u8))).enc (x,t)) ((d1 cB)).dec=qvd x t:=by kernel_rfl
noncomputable def qp4:PrimD:=prim (dc cCe (d1 (cI .u8))) (d1 cB) (qpc)
theorem qBL:Ok1 Tryz.prog tb qh.sound 152 qp4:=qf qx qdC (by kernel_rfl) fun a y hg h=>⟨0,9,0,(qxk 0 a.1 a.2).trans (qvf a y hg h)⟩
noncomputable def qjL:qw:=qL [(151,qp3),(152,qp4)] qdB
theorem qhX:qo Tryz.prog tb qh.sound qjL:=qk qdC (qe qBK (qe qBL qr))
end Su
end
section
namespace Su
open Go Go.Proofs Fly
set_option maxRecDepth 100000
theorem qxl (fu:Nat) (c:(Int×((List Su.Cc)×((List Su.T)×((List Su.T)×((List Su.T)×((List Su.T)×Int))))))) (l:(List (Bool×(Bool×(Int×(Int×(List Su.Ce))))))):qu tb qjL (shN tb qjL fu 9) fu 13 ((dc cCo (d1 (cL rSt))).enc (c,l)) ((d1 cB)).dec=qpd fu c l:=by kernel_rfl
noncomputable def qp5:PrimD:=prim (dc cCo (d1 (cL rSt))) (d1 cB) (qpe)
theorem qBM:Ok1 Tryz.prog tb qh.sound 13 qp5:=qf qx qhX (by kernel_rfl) fun a y hg h=>by
 obtain ⟨n,hn⟩:=qvh a y hg h
 exact ⟨n,9,n,(qxl n a.1 a.2).trans hn⟩
noncomputable def qjM:qw:=qL [(13,qp5)] qjL
theorem qhY:qo Tryz.prog tb qh.sound qjM:=qk qhX (qe qBM qr)
end Su
end
section
namespace Su
open Go Go.Proofs Fly
set_option maxRecDepth 100000
theorem qxm (fu:Nat) (c:(Int×((List Su.Cc)×((List Su.T)×((List Su.T)×((List Su.T)×((List Su.T)×Int))))))) (s:(Bool×(Bool×(Int×(Int×(List Su.Ce)))))):qu tb qjM (shN tb qjM fu 9) fu 37 ((dc cCo (d1 cSt)).enc (c,s)) ((d1 cSt)).dec=qpf fu c s:=by kernel_rfl
noncomputable def qp6:PrimD:=prim (dc cCo (d1 cSt)) (d1 cSt) (qpg)
theorem qBN:Ok1 Tryz.prog tb qh.sound 37 qp6:=qf qx qhY (by kernel_rfl) fun a y hg h=>by
 obtain ⟨n,hn⟩:=qvj a y hg h
 exact ⟨n,9,n,(qxm n a.1 a.2).trans hn⟩
noncomputable def qjN:qw:=qL [(37,qp6)] qjM
theorem qhZ:qo Tryz.prog tb qh.sound qjN:=qk qhY (qe qBN qr)
end Su
end
section
namespace Su
open Go Go.Proofs Fly
set_option maxRecDepth 100000
theorem qBO (fu:Nat) (c:(Int×((List Su.Cc)×((List Su.T)×((List Su.T)×((List Su.T)×((List Su.T)×Int))))))) (s:(Bool×(Bool×(Int×(Int×(List Su.Ce)))))):qu tb qjN (shN tb qjN fu 9) fu 34 ((dc cCo (d1 cSt)).enc (c,s)) ((d1 cSt)).dec=qzU fu c s:=by kernel_rfl
noncomputable def qxn:PrimD:=prim (dc cCo (d1 cSt)) (d1 cSt) (qvk)
theorem qGO:Ok1 Tryz.prog tb qh.sound 34 qxn:=qf qx qhZ (by kernel_rfl) fun a y hg h=>by
 obtain ⟨n,hn⟩:=qzW a y hg h
 exact ⟨n,9,n,(qBO n a.1 a.2).trans hn⟩
noncomputable def qjO:qw:=qL [(34,qxn)] qjN
theorem qh0:qo Tryz.prog tb qh.sound qjO:=qk qhZ (qe qGO qr)
end Su
end
section
namespace Su
open Go Go.Proofs Fly
set_option maxRecDepth 100000
theorem qBP (fu:Nat) (c:(Int×((List Su.Cc)×((List Su.T)×((List Su.T)×((List Su.T)×((List Su.T)×Int))))))) (s:(Bool×(Bool×(Int×(Int×(List Su.Ce)))))):qu tb qjO (shN tb qjO fu 9) fu 35 ((dc cCo (d1 cSt)).enc (c,s)) ((d1 cSt)).dec=qzX fu c s:=by kernel_rfl
noncomputable def qxo:PrimD:=prim (dc cCo (d1 cSt)) (d1 cSt) (qfY)
theorem qGP:Ok1 Tryz.prog tb qh.sound 35 qxo:=qf qx qh0 (by kernel_rfl) fun a y hg h=>by
 obtain ⟨n,hn⟩:=qzZ a y hg h
 exact ⟨n,9,n,(qBP n a.1 a.2).trans hn⟩
noncomputable def qjP:qw:=qL [(35,qxo)] qjO
theorem qh1:qo Tryz.prog tb qh.sound qjP:=qk qh0 (qe qGP qr)
end Su
end
section
namespace Su
open Go Go.Proofs Fly
set_option maxRecDepth 100000
theorem qrC (fu:Nat) (c:(Int×((List Su.Cc)×((List Su.T)×((List Su.T)×((List Su.T)×((List Su.T)×Int))))))) (s:(Bool×(Bool×(Int×(Int×(List Su.Ce)))))):qu tb qjP (shN tb qjP fu 9) fu 20 ((dc cCo (d1 cSt)).enc (c,s)) ((d1 cSt)).dec=qjf fu c s:=by kernel_rfl
noncomputable def ql6:PrimD:=prim (dc cCo (d1 cSt)) (d1 cSt) (Yg)
theorem qxp:Ok1 Tryz.prog tb qh.sound 20 ql6:=qf qx qh1 (by kernel_rfl) fun a y hg h=>by
 obtain ⟨n,hn⟩:=qrb a y hg h
 exact ⟨n,9,n,(qrC n a.1 a.2).trans hn⟩
noncomputable def qjQ:qw:=qL [(20,ql6)] qjP
theorem qh2:qo Tryz.prog tb qh.sound qjQ:=qk qh1 (qe qxp qr)
end Su
end
section
namespace Su
open Go Go.Proofs Fly
set_option maxRecDepth 100000
theorem qxq (fu:Nat)  (f:Int):qu tb qjQ (shN tb qjQ fu 9) fu 140 ((d1 (cI .u64)).enc (f)) ((d1 cRt)).dec=qCU f:=by kernel_rfl
noncomputable def qp7:PrimD:=prim (d1 (cI .u64)) (d1 cRt) (Z9)
theorem qBQ:Ok1 Tryz.prog tb qh.sound 140 qp7:=qf qx qh2 (by kernel_rfl) fun a y hg h=>⟨0,9,0,(qxq 0 a).trans (qvp a y hg h)⟩
noncomputable def qeF:qw:=qL [(140,qp7)] qjQ
theorem qgc:qo Tryz.prog tb qh.sound qeF:=qk qh2 (qe qBQ qr)
end Su
end
section
namespace Su
open Go Go.Proofs Fly
set_option maxRecDepth 100000
theorem qGQ (fu:Nat) (a:(Bool×(Int×((List Su.Tm)×Int)))) (f:Int):qu tb qeF (shN tb qeF fu 9) fu 56 ((dc jw (d1 (cI .u64))).enc (a,f)) ((d1 cB)).dec=aOf fu a f:=by kernel_rfl
noncomputable def qDm:PrimD:=prim (dc jw (d1 (cI .u64))) (d1 cB) (qcj)
theorem qId:Ok1 Tryz.prog tb qh.sound 56 qDm:=qf qx qgc (by kernel_rfl) fun a y hg h=>by
 obtain ⟨n,hn⟩:=qFu a y hg h
 exact ⟨n,9,n,(qGQ n a.1 a.2).trans hn⟩
noncomputable def qjR:qw:=qL [(56,qDm)] qeF
theorem qh3:qo Tryz.prog tb qh.sound qjR:=qk qgc (qe qId qr)
end Su
end
section
namespace Su
open Go Go.Proofs Fly
set_option maxRecDepth 100000
theorem qBR (fu:Nat) (c:(Int×((List Su.Cc)×((List Su.T)×((List Su.T)×((List Su.T)×((List Su.T)×Int))))))) (s:(Bool×(Bool×(Int×(Int×(List Su.Ce)))))) (row:(List Su.Vl)) (k:Int):qu tb qjR (shN tb qjR fu 9) fu 22 ((dc cCo (dc cSt (dc (cL rVl) (d1 (cI .i64))))).enc (c,s,row,k)) ((d1 cB)).dec=qAh fu c s row k:=by kernel_rfl
noncomputable def qxr:PrimD:=prim (dc cCo (dc cSt (dc (cL rVl) (d1 (cI .i64))))) (d1 cB) (qvr)
theorem qGR:Ok1 Tryz.prog tb qh.sound 22 qxr:=qf qx qh3 (by kernel_rfl) fun a y hg h=>by
 obtain ⟨n,hn⟩:=qAi a y hg h
 exact ⟨n,9,n,(qBR n a.1 a.2.1 a.2.2.1 a.2.2.2).trans hn⟩
noncomputable def qxs:qw:=qL [(22,qxr)] qjR
theorem qrD:qo Tryz.prog tb qh.sound qxs:=qk qh3 (qe qGR qr)
end Su
end
section
namespace Su
open Go Go.Proofs Fly
set_option maxRecDepth 100000
noncomputable def qxt (f:Int):Option (Rt×Bool):=some (bif Jv f.toNat then ((false,([],[])),false) else (qbV f.toNat,true))
noncomputable def qxu:PrimD:=prim (d1 (cI .u64)) (dc cRt (d1 cB)) qxt
theorem qxv:qxt=YG:=by
 funext f;unfold qxt YG;rw [qeq];rfl
theorem qBS:Ok1 Tryz.prog tb qh.sound 14 qxu:=by unfold qxu;rw [qxv];exact qwi
noncomputable def prW:qw:=qL [(14,qxu)] qa9
theorem qGS:qo Tryz.prog tb qh.sound prW:=qk qah (qe qBS qr)
theorem qrE:qu tb prW (shN tb prW 60 25) 60 12 [] (d1 cB).dec=some true:=by kernel_rfl
noncomputable def qp8:PrimD:=prim d0 (d1 cB) fun _=>some true
theorem qBT:Ok1 Tryz.prog tb qh.sound 12 qp8:=qf qx qGS (by kernel_rfl) fun a y hg h=>⟨60,25,60,qrE.trans h⟩
noncomputable def qjS:qw:=qL [(12,qp8)] qxs
theorem qh4:qo Tryz.prog tb qh.sound qjS:=qk qrD (qe qBT qr)
end Su
end
section
namespace Su
open Go Go.Proofs Fly
set_option maxRecDepth 100000
theorem qBU (fu:Nat)  (a:(Bool×Bool)) (b:(Bool×Bool)):qu tb qjS (shN tb qjS fu 9) fu 89 ((dc cB2 (d1 cB2)).enc (a,b)) ((d1 cB2)).dec=qFw a b:=by kernel_rfl
noncomputable def qxw:PrimD:=prim (dc cB2 (d1 cB2)) (d1 cB2) (qvs)
theorem qGT:Ok1 Tryz.prog tb qh.sound 89 qxw:=qf qx qh4 (by kernel_rfl) fun a y hg h=>⟨0,9,0,(qBU 0 a.1 a.2).trans (qAj a y hg h)⟩
noncomputable def qjT:qw:=qL [(89,qxw)] qjS
theorem qh5:qo Tryz.prog tb qh.sound qjT:=qk qh4 (qe qGT qr)
end Su
end
section
namespace Su
open Go Go.Proofs Fly
set_option maxRecDepth 100000
theorem qBV (fu:Nat)  (x:Su.Ce) (t:Int) (y:Su.Ce):qu tb qjT (shN tb qjT fu 9) fu 73 ((dc cCe (dc (cI .u8) (d1 cCe))).enc (x,t,y)) ((d1 cB)).dec=qFD x t y:=by kernel_rfl
noncomputable def qxx:PrimD:=prim (dc cCe (dc (cI .u8) (d1 cCe))) (d1 cB) (qf3)
theorem qGU:Ok1 Tryz.prog tb qh.sound 73 qxx:=qf qx qh5 (by kernel_rfl) fun a y hg h=>⟨0,9,0,(qBV 0 a.1 a.2.1 a.2.2).trans (qAs a y hg h)⟩
noncomputable def qjU:qw:=qL [(73,qxx)] qjT
theorem qh6:qo Tryz.prog tb qh.sound qjU:=qk qh5 (qe qGU qr)
end Su
end
section
namespace Su
open Go Go.Proofs Fly
set_option maxRecDepth 100000
theorem qxy (fu:Nat) (c:(Int×((List Su.Cc)×((List Su.T)×((List Su.T)×((List Su.T)×((List Su.T)×Int))))))) (s:(Bool×(Bool×(Int×(Int×(List Su.Ce)))))) (u:Unit):qu tb qjU (shN tb qjU fu 9) fu 70 ((dc cCo (dc cSt (d1 (cF 72)))).enc (c,s,u)) ((d1 cSt)).dec=qpr fu c s u:=by kernel_rfl
noncomputable def qp9:PrimD:=prim (dc cCo (dc cSt (d1 (cF 72)))) (d1 cSt) (qab)
theorem qBW:Ok1 Tryz.prog tb qh.sound 70 qp9:=qf qx qh6 (by kernel_rfl) fun a y hg h=>by
 obtain ⟨n,hn⟩:=qvE a y hg h
 exact ⟨n,9,n,(qxy n a.1 a.2.1 a.2.2).trans hn⟩
noncomputable def qjV:qw:=qL [(70,qp9)] qjU
theorem qh7:qo Tryz.prog tb qh.sound qjV:=qk qh6 (qe qBW qr)
end Su
end
section
namespace Su
open Go Go.Proofs Fly
set_option maxRecDepth 100000
theorem qBX (fu:Nat) (c:(Int×((List Su.Cc)×((List Su.T)×((List Su.T)×((List Su.T)×((List Su.T)×Int))))))) (a:(Bool×(Bool×(Int×(Int×(List Su.Ce)))))) (b:(Bool×(Bool×(Int×(Int×(List Su.Ce)))))):qu tb qjV (shN tb qjV fu 9) fu 21 ((dc cCo (dc cSt (d1 cSt))).enc (c,a,b)) ((d1 cB)).dec=qAt fu c a b:=by kernel_rfl
noncomputable def qxz:PrimD:=prim (dc cCo (dc cSt (d1 cSt))) (d1 cB) (YK)
theorem qGV:Ok1 Tryz.prog tb qh.sound 21 qxz:=qf qx qh7 (by kernel_rfl) fun a y hg h=>by
 obtain ⟨n,hn⟩:=qAu a y hg h
 exact ⟨n,9,n,(qBX n a.1 a.2.1 a.2.2).trans hn⟩
noncomputable def qxA:qw:=qL [(21,qxz)] qjV
theorem qrF:qo Tryz.prog tb qh.sound qxA:=qk qh7 (qe qGV qr)
end Su
end
section
namespace Su
open Go Go.Proofs Fly
set_option maxRecDepth 100000
abbrev dFF:Dec (Int×(Int×Int)):=dc (cI .u64) (dc (cI .u64) (d1 (cI .u8)))
noncomputable def qBY (n:Nat):Option Int:=Nat.rec (motive:=fun _=>Option Int) (some ((0:Nat):Int)) (fun m _=>some ((m+1:Nat):Int)) n
theorem qjW (n:Nat):qBY n=some (n:Int):=by cases n <;> rfl
noncomputable def qxB (p:Int×(Int×Int)):Option Int:=qBY (qln p.1.toNat p.2.1.toNat p.2.2)
noncomputable def qxC (p:Int×(Int×Int)):Option Int:=qBY (quj p.1.toNat p.2.1.toNat p.2.2)
noncomputable def upO (s:Nat):List Int→Nat
 | []=>s
 | x::l=>upO (qln s x.toNat 1) l
noncomputable def qGW (l:List Int):Option Int:=qBY (upO 0 l)
noncomputable def qxD (a:Fm):Fm:=bif (fI (nzI a.2.1)&&fI (nzI a.2.2.2))&&!((jI a.2.2.1).any fun t=>!fI t.c) then (a.1,(nzI a.2.1,(jI a.2.2.1,nzI a.2.2.2))) else qqZ
theorem qxE:∀ (l:List Int) (s:Nat),upO s l=upS s l
 | [],s=>rfl
 | x::l,s=>by show upO (qln s x.toNat 1) l=upS (qb0 s x.toNat 1) l;rw [qxE l,qb1]
noncomputable def qxF:PrimD:=prim dFF (d1 (cI .u64)) qxB
noncomputable def qxG:PrimD:=prim dFF (d1 (cI .u64)) qxC
noncomputable def qGX:PrimD:=prim (d1 (cQ 2 1)) (d1 (cI .u64)) qGW
noncomputable def qnx:PrimD:=qiI (2,103) (d1 qfu) (d1 jw) (fun a=>some (qxD a)) (d1 jw) (fun a=>bif a.2.2.1.all fun t=>!zI t.c then some (qxD a) else none)
theorem qBZ:Ok1 Tryz.prog tb qh.sound 114 qxF:=by
 have e:qxB=qi6:=by funext p;unfold qxB qi6;rw [qb1,qjW]
 unfold qxF;rw [e];exact qwG
theorem qB0:Ok1 Tryz.prog tb qh.sound 121 qxG:=by
 have e:qxC=qi7:=by funext p;unfold qxC qi7;rw [qoK,qjW]
 unfold qxG;rw [e];exact qwI
theorem qGY:Ok1 Tryz.prog tb qh.sound 112 qGX:=by
 have e:qGW=qoN:=by funext l;unfold qGW qoN;rw [qxE,qjW]
 unfold qGX;rw [e];exact qDf
theorem qxH:Ok1 Tryz.prog tb qh.sound 117 qnx:=by
 have e:qxD=Zr:=by funext a;rw [qfP];rfl
 unfold qnx;rw [e];exact qpQ
noncomputable def prA:qw:=qL [(114,qxF),(121,qxG),(112,qGX),(117,qnx),(175,qnw),(177,qjE),(107,qnv),(106,qjB)] YL
theorem qGZ:qo Tryz.prog tb qh.sound prA:=qk Ym (qe qBZ (qe qB0 (qe qGY (qe qxH (qe qwL (qe qpO (qe qwp (qe qpJ qr))))))))
theorem qB1:qu tb prA (shN tb prA 60 9) 60 53 ((dc jw (d1 jw)).enc ((false,(0,([],0))),(false,(0,([],0))))) (d1 jw).dec=some (false,(0,([],0))):=by kernel_rfl
theorem qB2 (m:Int) (l:List (U 10)) (e:Int) (b:Fm):qu tb prA (shN tb prA 60 9) 60 53 ((dc jw (d1 jw)).enc ((true,(m,(l,e))),b)) (d1 jw).dec=some (true,(0,([],0))):=by kernel_rfl
noncomputable def qDn:PrimD:=prim (dc jw (d1 jw)) (d1 jw) qlN
theorem qIe:Ok1 Tryz.prog tb qh.sound 53 qDn:=qf qx qGZ (by kernel_rfl) fun a y hg h=>⟨60,9,60,by
 obtain ⟨⟨b,m,l,e⟩,q⟩:=a
 unfold qlN at h
 cases b with
 | true =>
  have h:some qqZ=some y:=h
  exact (qB2 m l e q).trans h
 | false =>
  obtain ⟨h1,h2⟩:=qj h
  have h1:(qf4 (false,(m,(l,e)))&&qf4 q)=true:=h1
  rw [Bool.and_eq_true] at h1
  have e1:=qps h1.1
  have e2:=qps h1.2
  have e3:jF (false,(m,(l,e))) q=(false,(0,([],0))):=rfl
  have h2:some (jF (false,(m,(l,e))) q)=some y:=h2
  rw [e3] at h2
  simp only [Prod.mk.injEq,true_and] at e1
  obtain ⟨rfl,rfl,rfl⟩:=e1
  subst e2
  exact qB1.trans h2⟩
noncomputable def qdD:qw:=qL [(53,qDn)] qxA
theorem qh8:qo Tryz.prog tb qh.sound qdD:=qk qrF (qe qIe qr)
end Su
end
section
namespace Su
open Go Go.Proofs Fly
set_option maxRecDepth 100000
theorem qG0 (fu:Nat) (c:CoD) (s:StD) (u:Unit):qu tb qdD (shN tb qdD fu 9) fu 70 ((dc cCo (dc cSt (d1 (cF 86)))).enc (c,(s,u))) (d1 cSt).dec=joS fu c s u:=by kernel_rfl
theorem qG1 (fu:Nat) (c:CoD) (s:StD) (b:StD):qu tb qdD (shN tb qdD fu 9) fu 70 ((dc cCo (dc cSt (d1 (cJ 88)))).enc (c,(s,b))) (d1 cSt).dec=joJ fu c s b:=by kernel_rfl
noncomputable def qqa:PrimD:=prim (dc cCo (dc cSt (d1 (cDo 86 88)))) (d1 cSt) qac
theorem qB3:Ok1 Tryz.prog tb qh.sound 70 qqa:=qf qx qh8 (by kernel_rfl) fun a y hg h=>by
 obtain ⟨c,s,o⟩:=a
 cases o with
 | none =>
  obtain ⟨hm,h⟩:=qj (show (bif smS s then some (qp c s qI) else none)=some y from h)
  obtain ⟨n,hn⟩:=qFF c s () hm
  exact ⟨n,9,n,(qG0 n c s ()).trans (hn.trans h)⟩
 | some b =>
  obtain ⟨hm,h⟩:=qj (show (bif smS s&&Jo c.2.1.length (okJ s.2.2.2.2 b.2.2.2.2) then some (qp c s (jnF jF b.2.2.2.2)) else none)=some y from h)
  rw [Bool.and_eq_true] at hm
  obtain ⟨n,hn⟩:=qFH c s b hm.1 hm.2
  exact ⟨n,9,n,(qG1 n c s b).trans (hn.trans h)⟩
noncomputable def qjX:qw:=qL [(70,qqa)] qdD
theorem qh9:qo Tryz.prog tb qh.sound qjX:=qk qh8 (qe qB3 qr)
end Su
end
section
namespace Su
open Go Go.Proofs Fly
set_option maxRecDepth 100000
theorem qxI (fu:Nat)  (c:(Int×((List Su.Cc)×((List Su.T)×((List Su.T)×((List Su.T)×((List Su.T)×Int))))))) (a:(Bool×(Bool×(Int×(Int×(List Su.Ce)))))) (b:(Bool×(Bool×(Int×(Int×(List Su.Ce)))))):qu tb qjX (shN tb qjX fu 9) fu 32 ((dc cCo (dc cSt (d1 cSt))).enc (c,a,b)) ((d1 cSt)).dec=qpv c a b:=by kernel_rfl
noncomputable def qqb:PrimD:=prim (dc cCo (dc cSt (d1 cSt))) (d1 cSt) (qad)
theorem qB4:Ok1 Tryz.prog tb qh.sound 32 qqb:=qf qx qh9 (by kernel_rfl) fun a y hg h=>⟨0,9,0,(qxI 0 a.1 a.2.1 a.2.2).trans (qvF a y hg h)⟩
noncomputable def qny:qw:=qL [(32,qqb)] qjX
theorem qrG:qo Tryz.prog tb qh.sound qny:=qk qh9 (qe qB4 qr)
end Su
end
section
namespace Su
open Go Go.Proofs Fly
set_option maxRecDepth 100000
theorem qB5 (fu:Nat)  (c:(Int×((List Su.Cc)×((List Su.T)×((List Su.T)×((List Su.T)×((List Su.T)×Int))))))) (a:(Bool×(Bool×(Int×(Int×(List Su.Ce)))))) (b:(Bool×(Bool×(Int×(Int×(List Su.Ce)))))):qu tb qny (shN tb qny fu 9) fu 6 ((dc cCo (dc cSt (d1 cSt))).enc (c,a,b)) ((d1 cB)).dec=qAv c a b:=by kernel_rfl
noncomputable def qG2:PrimD:=prim (dc cCo (dc cSt (d1 cSt))) (d1 cB) (qvG)
theorem qG3:Ok1 Tryz.prog tb qh.sound 6 qG2:=qf qx qrG (by kernel_rfl) fun a y hg h=>⟨0,9,0,(qB5 0 a.1 a.2.1 a.2.2).trans (qAw a y hg h)⟩
end Su
end
