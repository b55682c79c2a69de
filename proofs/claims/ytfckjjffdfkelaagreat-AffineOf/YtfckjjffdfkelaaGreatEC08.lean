/-
  The evaluator computes what the plain functions say.
-/
import Derived.Test.YtfckjjffdfkelaaGreatNC07
import Derived.Test.YtfckjjffdfkelaaGreatSuTb
import Derived.Test.YtfckjjffdfkelaaGreatHSh3
import Derived.Test.YtfckjjffdfkelaaGreatNC10
import Derived.Test.YtfckjjffdfkelaaGreatNC13
import Derived.Test.YtfckjjffdfkelaaGreatNC14
import Derived.Test.YtfckjjffdfkelaaGreatNC19
import Derived.Test.YtfckjjffdfkelaaGreatNC26
import Derived.Test.YtfckjjffdfkelaaGreatRcv
import Derived.Test.YtfckjjffdfkelaaGreatNC31
import Derived.Test.YtfckjjffdfkelaaGreatRsk
import Derived.Test.YtfckjjffdfkelaaGreatSuWr
import Derived.Test.YtfckjjffdfkelaaGreatNS04
import Derived.Test.YtfckjjffdfkelaaGreatNS05
set_option linter.unusedVariables false
set_option linter.unusedSimpArgs false
set_option maxRecDepth 10000
section
namespace Su
noncomputable section
open Go Go.Proofs Fly
set_option maxRecDepth 100000
theorem qBs(fu:Nat)  (a:(Int×Int)):qz tb qa0 (shN tb qa0 fu 9) fu 225 ((d1 cW).enc (a)) (d1 (cI .i64)).dec=qEq a:=by kernel_rfl
def qw5:PrimD:=prim (d1 cW) (d1 (cI .i64)) (quY)
theorem qFY:OkT 225 qw5:=qj qy qbt (by kernel_rfl) fun a y hg h=>⟨0,9,0,(qBs 0 a).trans (qzE a y hg h)⟩
theorem qBt(fu:Nat)(a:(Int×Int))(n:Int):qz tb qa0 (shN tb qa0 fu 9) fu 221 ((dc cW (d1 (cI .i64))).enc (a,n)) (d1 cW).dec=qEr fu a n:=by kernel_rfl
def qw6:PrimD:=prim (dc cW (d1 (cI .i64))) (d1 cW) (quZ)
theorem qFZ:OkT 221 qw6:=qj qy qbt (by kernel_rfl) fun a y hg h=>by
 obtain⟨n,hn⟩:=qzF a y hg h;exact⟨n,9,n,(qBt n a.1 a.2).trans hn⟩
theorem qBu(fu:Nat)(a:(Int×Int))(n:Int):qz tb qa0 (shN tb qa0 fu 9) fu 222 ((dc cW (d1 (cI .i64))).enc (a,n)) (dc cW (d1 cB)).dec=qEs fu a n:=by kernel_rfl
def qw7:PrimD:=prim (dc cW (d1 (cI .i64))) (dc cW (d1 cB)) (qu0)
theorem qF0:OkT 222 qw7:=qj qy qbt (by kernel_rfl) fun a y hg h=>by
 obtain⟨n,hn⟩:=qzG a y hg h;exact⟨n,9,n,(qBu n a.1 a.2).trans hn⟩
def qd5:qp:=qV [(225,qw5),(221,qw6),(222,qw7)] qa0
theorem qd6:PkT qd5:=qn qbt (qf qFY (qf qFZ (qf qF0 qr)))
end
end Su
end
section
namespace Su
noncomputable section
open Go Go.Proofs Fly
set_option maxRecDepth 100000
theorem qF1(fu:Nat)  (x:(Bool×Int×Int×Int×Bool))(mode:Int)(odd:Bool)(half:Bool)(rest:Bool):qz tb qd5 (shN tb qd5 fu 9) fu 237 ((dc qjv (dc (cI .u8) (dc cB (dc cB (d1 cB))))).enc (x,mode,odd,half,rest)) (d1 cB).dec=rUp x mode odd half rest:=by kernel_rfl
def qCY:PrimD:=prim (dc qjv (dc (cI .u8) (dc cB (dc cB (d1 cB))))) (d1 cB) (qCw)
theorem qHq:OkT 237 qCY:=qj qy qd6 (by kernel_rfl) fun a y hg h=>⟨0,9,0,(qF1 0 a.1 a.2.1 a.2.2.1 a.2.2.2.1 a.2.2.2.2).trans (qEu a y hg h)⟩
theorem qw8(fu:Nat)  (x:(Bool×Int×Int×Int×Bool))(mode:Int):qz tb qd5 (shN tb qd5 fu 9) fu 238 ((dc qjv (d1 (cI .u8))).enc (x,mode)) (dc (cI .u64) (d1 (cI .u8))).dec=qu2 x mode:=by kernel_rfl
def qqW:PrimD:=prim (dc qjv (d1 (cI .u8))) (dc (cI .u64) (d1 (cI .u8))) (qp3)
theorem qBv:OkT 238 qqW:=qj qy qd6 (by kernel_rfl) fun a y hg h=>⟨0,9,0,(qw8 0 a.1 a.2).trans (qu3 a y hg h)⟩
def qkF:qp:=qV [(237,qCY),(238,qqW)] qd5
theorem qio:PkT qkF:=qn qd6 (qf qHq (qf qBv qr))
end
end Su
end
section
namespace Su
noncomputable section
open Go Go.Proofs Fly
set_option maxRecDepth 100000
theorem qsk(fu:Nat)  (x:(Bool×Int×Int×Int×Bool))(mode:Int):qz tb qkF (shN tb qkF fu 9) fu 226 ((dc qjv (d1 (cI .u8))).enc (x,mode)) (dc (cI .u64) (d1 (cI .u8))).dec=qoc x mode:=by kernel_rfl
def qnb:PrimD:=prim (dc qjv (d1 (cI .u8))) (dc (cI .u64) (d1 (cI .u8))) (Zw)
theorem qw9:OkT 226 qnb:=qj qy qio (by kernel_rfl) fun a y hg h=>⟨0,9,0,(qsk 0 a.1 a.2).trans (qrP a y hg h)⟩
def qa1:qp:=qV [(226,qnb)] qkF
theorem qbu:PkT qa1:=qn qio (qf qw9 qr)
end
end Su
end
section
namespace Su
noncomputable section
open Go Go.Proofs Fly
set_option maxRecDepth 100000
theorem qsl(fu:Nat)  (neg:Bool)(m:(Int×Int))(e:Int)(rest:Bool)(mode:Int):qz tb qa1 (shN tb qa1 fu 9) fu 208 ((dc cB (dc cW (dc (cI .i64) (dc cB (d1 (cI .u8)))))).enc (neg,m,e,rest,mode)) (dc (cI .u64) (d1 (cI .u8))).dec=qod neg m e rest mode:=by kernel_rfl
def qnc:PrimD:=prim (dc cB (dc cW (dc (cI .i64) (dc cB (d1 (cI .u8)))))) (dc (cI .u64) (d1 (cI .u8))) (qmh)
theorem qxa:OkT 208 qnc:=qj qy qbu (by kernel_rfl) fun a y hg h=>⟨0,9,0,(qsl 0 a.1 a.2.1 a.2.2.1 a.2.2.2.1 a.2.2.2.2).trans (qrQ a y hg h)⟩
theorem qF2(fu:Nat)  (f:Int):qz tb qa1 (shN tb qa1 fu 9) fu 201 ((d1 (cI .u64)).enc (f)) (d1 qrG).dec=sOf f:=by kernel_rfl
def qCZ:PrimD:=prim (d1 (cI .u64)) (d1 qrG) (fun a=>sOf a)
theorem qHr:OkT 201 qCZ:=qj qy qbu (by kernel_rfl) fun a y hg h=>⟨0,9,0,(qF2 0 a).trans h⟩
theorem qxb(fu:Nat)  (neg:Bool):qz tb qa1 (shN tb qa1 fu 9) fu 205 ((d1 cB).enc (neg)) (d1 (cI .u64)).dec=qCx neg:=by kernel_rfl
def qqX:PrimD:=prim (d1 cB) (d1 (cI .u64)) (fun a=>qCx a)
theorem qBw:OkT 205 qqX:=qj qy qbu (by kernel_rfl) fun a y hg h=>⟨0,9,0,(qxb 0 a).trans h⟩
def qkG:qp:=qV [(208,qnc),(201,qCZ),(205,qqX)] qa1
theorem qip:PkT qkG:=qn qbu (qf qxa (qf qHr (qf qBw qr)))
end
end Su
end
section
namespace Su
noncomputable section
open Go Go.Proofs Fly
set_option maxRecDepth 100000
theorem qxc(fu:Nat)  (x:(Int×Int×Bool×Int×Int))(y:(Int×Int×Bool×Int×Int))(mode:Int):qz tb qkG (shN tb qkG fu 9) fu 206 ((dc qrG (dc qrG (d1 (cI .u8)))).enc (x,y,mode)) (dc (cI .u64) (d1 (cI .u8))).dec=qcS x y mode:=by kernel_rfl
def qqY:PrimD:=prim (dc qrG (dc qrG (d1 (cI .u8)))) (dc (cI .u64) (d1 (cI .u8))) (fun a=>qcS a.1 a.2.1 a.2.2)
theorem qBx:OkT 206 qqY:=qj qy qip (by kernel_rfl) fun a y hg h=>⟨0,9,0,(qxc 0 a.1 a.2.1 a.2.2).trans h⟩
def qd7:qp:=qV [(206,qqY)] qkG
theorem qd8:PkT qd7:=qn qip (qf qBx qr)
end
end Su
end
section
namespace Su
noncomputable section
open Go Go.Proofs Fly
set_option maxRecDepth 100000
theorem qBy(fu:Nat)  (a:Int)(b:Int)(mode:Int):qz tb qd7 (shN tb qd7 fu 9) fu 174 ((dc (cI .u64) (dc (cI .u64) (d1 (cI .u8)))).enc (a,b,mode)) (dc (cI .u64) (d1 (cI .u8))).dec=qrS a b mode:=by kernel_rfl
def qxd:PrimD:=prim (dc (cI .u64) (dc (cI .u64) (d1 (cI .u8)))) (dc (cI .u64) (d1 (cI .u8))) (fun a=>qrS a.1 a.2.1 a.2.2)
theorem qF3:OkT 174 qxd:=qj qy qd8 (by kernel_rfl) fun a y hg h=>⟨0,9,0,(qBy 0 a.1 a.2.1 a.2.2).trans h⟩
theorem qBz(fu:Nat)  (a:Int)(b:Int)(mode:Int):qz tb qd7 (shN tb qd7 fu 9) fu 179 ((dc (cI .u64) (dc (cI .u64) (d1 (cI .u8)))).enc (a,b,mode)) (dc (cI .u64) (d1 (cI .u8))).dec=qu6 a b mode:=by kernel_rfl
def qxe:PrimD:=prim (dc (cI .u64) (dc (cI .u64) (d1 (cI .u8)))) (dc (cI .u64) (d1 (cI .u8))) (fun a=>qu6 a.1 a.2.1 a.2.2)
theorem qF4:OkT 179 qxe:=qj qy qd8 (by kernel_rfl) fun a y hg h=>⟨0,9,0,(qBz 0 a.1 a.2.1 a.2.2).trans h⟩
def qaf:qp:=qV [(174,qxd),(179,qxe)] qd7
theorem ZI:PkT qaf:=qn qd8 (qf qF3 (qf qF4 qr))
end
end Su
end
section
namespace Su
noncomputable section
open Go Go.Proofs Fly
set_option maxRecDepth 100000
theorem qBA(fu:Nat)  (a:Int)(b:Int)(mode:Int):qz tb qaf (shN tb qaf fu 9) fu 114 ((dc (cI .u64) (dc (cI .u64) (d1 (cI .u8)))).enc (a,b,mode)) (d1 (cI .u64)).dec=qEx a b mode:=by kernel_rfl
def qxf:PrimD:=prim (dc (cI .u64) (dc (cI .u64) (d1 (cI .u8)))) (d1 (cI .u64)) (qjP)
theorem qxg:OkT 114 qxf:=qj qy ZI (by kernel_rfl) fun a y hg h=>⟨0,9,0,(qBA 0 a.1 a.2.1 a.2.2).trans (qzI a y hg h)⟩
theorem qBB(fu:Nat)  (a:Int)(b:Int)(mode:Int):qz tb qaf (shN tb qaf fu 9) fu 121 ((dc (cI .u64) (dc (cI .u64) (d1 (cI .u8)))).enc (a,b,mode)) (d1 (cI .u64)).dec=qEy a b mode:=by kernel_rfl
def qxh:PrimD:=prim (dc (cI .u64) (dc (cI .u64) (d1 (cI .u8)))) (d1 (cI .u64)) (qjQ)
theorem qxi:OkT 121 qxh:=qj qy ZI (by kernel_rfl) fun a y hg h=>⟨0,9,0,(qBB 0 a.1 a.2.1 a.2.2).trans (qzJ a y hg h)⟩
theorem qF5(fu:Nat)(l:(List Int)):qz tb qaf (shN tb qaf fu 9) fu 112 ((d1 (cQ 2 1)).enc (l)) (d1 (cI .u64)).dec=aUp fu l:=by kernel_rfl
def qC0:PrimD:=prim (d1 (cQ 2 1)) (d1 (cI .u64)) (qp7)
theorem qC1:OkT 112 qC0:=qj qy ZI (by kernel_rfl) fun a y hg h=>by
 obtain⟨n,hn⟩:=qEz a y hg h;exact⟨n,9,n,(qF5 n a).trans hn⟩
def qb6:qp:=qV [(114,qxf),(121,qxh),(112,qC0)] qaf
theorem qbv:PkT qb6:=qn ZI (qf qxg (qf qxi (qf qC1 qr)))
end
end Su
end
section
namespace Su
noncomputable section
open Go Go.Proofs Fly
set_option maxRecDepth 100000
theorem qBC(fu:Nat)(l:(List Tm))(u:Unit):qpy tb qb6 fu 9 175 (0,103) ((dc qjx (d1 (cF 176))).enc (l,u)) (d1 ZV).dec=qEA fu l u:=by kernel_rfl
theorem qxj(fu:Nat)(l:(List Tm))(u:Unit):qz tb qb6 (shN tb qb6 fu 9) fu 175 ((dc ZV (d1 (cF 176))).enc (l,u)) (d1 ZV).dec=qva fu l u:=by kernel_rfl
theorem qxk(fu:Nat)(l:(List Tm))(u:Unit):qz tb qb6 (shN tb qb6 fu 9) fu 177 ((dc ZV (d1 (cF 178))).enc (l,u)) (d1 cB).dec=qvb fu l u:=by kernel_rfl
def qkH:PrimD:=prim (dc ZV (d1 (cF 178))) (d1 cB) (qqa)
theorem qqZ:OkT 177 qkH:=qj qy qbv (by kernel_rfl) fun a y hg h=>by
 obtain⟨n,hn⟩:=qvc a y hg h;exact⟨n,9,n,(qxk n a.1 a.2).trans hn⟩
theorem qBD:OkT 175 (qhJ (0,103) (dc qjx (d1 (cF 176))) (d1 ZV) (qog)):=qlR qy qbv (by kernel_rfl) (exc qCo (ex1 (exFn 176))) qGQ fun a y hg h=>by
 obtain⟨n,hn⟩:=qzN a y hg h;exact⟨n,9,(qBC n a.1 a.2).trans hn⟩
def qoI:PrimD:=qjt (0,103) (dc qjx (d1 (cF 176))) (d1 ZV) (qog) (dc ZV (d1 (cF 176))) qqb
theorem qxl:OkT 175 qoI:=qhK qy qbv qBD fun a y hg h=>by
 obtain⟨n,hn⟩:=qvd a y hg h;exact⟨n,9,n,(qxj n a.1 a.2).trans hn⟩
def qb7:qp:=qV [(175,qoI),(177,qkH)] qb6
theorem qbw:PkT qb7:=qn qbv (qf qxl (qf qqZ qr))
end
end Su
end
section
namespace Su
noncomputable section
open Go Go.Proofs Fly
set_option maxRecDepth 100000
theorem qxm(fu:Nat)  (a:Fm):qpy tb qb7 fu 9 117 (2,103) ((d1 qgb).enc (a)) (d1 qB).dec=qve a:=by kernel_rfl
theorem qsm(fu:Nat)  (a:Fm):qz tb qb7 (shN tb qb7 fu 9) fu 117 ((d1 qB).enc (a)) (d1 qB).dec=qoi a:=by kernel_rfl
theorem qBE(fu:Nat)(a:Fm):qz tb qb7 (shN tb qb7 fu 9) fu 39 ((d1 qB).enc (a)) (d1 cB).dec=qEB fu a:=by kernel_rfl
def qxn:PrimD:=prim (d1 qB) (d1 cB) (qvg)
theorem qF6:OkT 39 qxn:=qj qy qbw (by kernel_rfl) fun a y hg h=>by
 obtain⟨n,hn⟩:=qzO a y hg h;exact⟨n,9,n,(qBE n a).trans hn⟩
theorem qxo:OkT 117 (qhJ (2,103) (d1 qgb) (d1 qB) (qjT)):=qlR qy qbw (by kernel_rfl) exF4 hnA fun a y hg h=>⟨0,9,(qxm 0 a).trans (qvf a y hg h)⟩
def qq0:PrimD:=qjt (2,103) (d1 qgb) (d1 qB) (qjT) (d1 qB) qml
theorem qq1:OkT 117 qq0:=qhK qy qbw qxo fun a y hg h=>⟨0,9,0,(qsm 0 a).trans (qrV a y hg h)⟩
def qkI:qp:=qV [(117,qq0),(39,qxn)] qb7
theorem qiq:PkT qkI:=qn qbw (qf qq1 (qf qF6 qr))
end
end Su
end
section
namespace Su
noncomputable section
open Go Go.Proofs Fly
set_option maxRecDepth 100000
theorem qsn(fu:Nat)(l:(List Fm)):qz tb qkI (shN tb qkI fu 9) fu 110 ((d1 qDL).enc (l)) (d1 cB).dec=qok fu l:=by kernel_rfl
def qnd:PrimD:=prim (d1 qDL) (d1 cB) (qmm)
theorem qxp:OkT 110 qnd:=qj qy qiq (by kernel_rfl) fun a y hg h=>by
 obtain⟨n,hn⟩:=qrW a y hg h;exact⟨n,9,n,(qsn n a).trans hn⟩
def qd9:qp:=qV [(110,qnd)] qkI
theorem qea:PkT qd9:=qn qiq (qf qxp qr)
end
end Su
end
section
namespace Su
noncomputable section
open Go Go.Proofs Fly
set_option maxRecDepth 100000
theorem qBF(fu:Nat)(a:Fm):qz tb qd9 (shN tb qd9 fu 9) fu 47 ((d1 qB).enc (a)) (d1 qB).dec=qEC fu a:=by kernel_rfl
def qxq:PrimD:=prim (d1 qB) (d1 qB) (qjU)
theorem qF7:OkT 47 qxq:=qj qy qea (by kernel_rfl) fun a y hg h=>by
 obtain⟨n,hn⟩:=qzP a y hg h;exact⟨n,9,n,(qBF n a).trans hn⟩
theorem qso(fu:Nat)  (f:Int):qz tb qd9 (shN tb qd9 fu 9) fu 81 ((d1 (cI .u64)).enc (f)) (d1 qB).dec=qvi f:=by kernel_rfl
def qne:PrimD:=prim (d1 (cI .u64)) (d1 qB) (qmo)
theorem qxr:OkT 81 qne:=qj qy qea (by kernel_rfl) fun a y hg h=>⟨0,9,0,(qso 0 a).trans (qrX a y hg h)⟩
def qxs:qp:=qV [(47,qxq),(81,qne)] qd9
theorem qsp:PkT qxs:=qn qea (qf qF7 (qf qxr qr))
end
end Su
end
section
namespace Su
open Go Go.Proofs Fly
set_option maxRecDepth 100000
noncomputable def qfn:qp:=qV [] qxs
theorem qgI:PkT qfn:=qn qsp qr
end Su
end
section
namespace Su
noncomputable section
open Go Go.Proofs Fly
set_option maxRecDepth 100000
theorem qBG(fu:Nat)(a:Fm)(b:Fm):qz tb qfn (shN tb qfn fu 9) fu 42 ((dc qB (d1 qB)).enc (a,b)) (d1 qB).dec=qED fu a b:=by kernel_rfl
def qxt:PrimD:=prim (dc qB (d1 qB)) (d1 qB) (qjV)
theorem qF8:OkT 42 qxt:=qj qy qgI (by kernel_rfl) fun a y hg h=>by
 obtain⟨n,hn⟩:=qzQ a y hg h;exact⟨n,9,n,(qBG n a.1 a.2).trans hn⟩
def qkJ:qp:=qV [(42,qxt)] qfn
theorem qir:PkT qkJ:=qn qgI (qf qF8 qr)
end
end Su
end
section
namespace Su
noncomputable section
open Go Go.Proofs Fly
set_option maxRecDepth 100000
theorem qBH(fu:Nat)  (a:Fm)(b:Fm):qz tb qkJ (shN tb qkJ fu 9) fu 44 ((dc qB (d1 qB)).enc (a,b)) (d1 qB).dec=qEE a b:=by kernel_rfl
def qxu:PrimD:=prim (dc qB (d1 qB)) (d1 qB) (qvn)
theorem qF9:OkT 44 qxu:=qj qy qir (by kernel_rfl) fun a y hg h=>⟨0,9,0,(qBH 0 a.1 a.2).trans (qzR a y hg h)⟩
def qkK:qp:=qV [(44,qxu)] qkJ
theorem qis:PkT qkK:=qn qir (qf qF9 qr)
end
end Su
end
section
namespace Su
noncomputable section
open Go Go.Proofs Fly
set_option maxRecDepth 100000
theorem qBI(fu:Nat)  (a:Int)(b:Int):qz tb qkK (shN tb qkK fu 9) fu 129 ((dc (cI .u64) (d1 (cI .u64))).enc (a,b)) (d1 cB).dec=qEF a b:=by kernel_rfl
def qoJ:PrimD:=prim (dc (cI .u64) (d1 (cI .u64))) (d1 cB) (qvo)
theorem qxv:OkT 129 qoJ:=qj qy qis (by kernel_rfl) fun a y hg h=>⟨0,9,0,(qBI 0 a.1 a.2).trans (qzS a y hg h)⟩
def qkL:qp:=qV [(129,qoJ)] qkK
theorem qit:PkT qkL:=qn qis (qf qxv qr)
end
end Su
end
section
namespace Su
noncomputable section
open Go Go.Proofs Fly
set_option maxRecDepth 100000
theorem qsq(fu:Nat)(s:(Bool×Int×Int)):qz tb qkL (shN tb qkL fu 9) fu 128 ((d1 qgV).enc (s)) (d1 qgV).dec=qom fu s:=by kernel_rfl
def qgJ:PrimD:=prim (d1 qgV) (d1 qgV) (qmr)
theorem qnf:OkT 128 qgJ:=qj qy qit (by kernel_rfl) fun a y hg h=>by
 obtain⟨n,hn⟩:=qrY a y hg h;exact⟨n,9,n,(qsq n a).trans hn⟩
def qkM:qp:=qV [(128,qgJ)] qkL
theorem qiu:PkT qkM:=qn qit (qf qnf qr)
end
end Su
end
section
namespace Su
noncomputable section
open Go Go.Proofs Fly
set_option maxRecDepth 100000
theorem qBJ(fu:Nat)(a:Fm):qz tb qkM (shN tb qkM fu 9) fu 104 ((d1 qB).enc (a)) (d1 (cI .u64)).dec=qEG fu a:=by kernel_rfl
def qxw:PrimD:=prim (d1 qB) (d1 (cI .u64)) (qdB)
theorem qGa:OkT 104 qxw:=qj qy qiu (by kernel_rfl) fun a y hg h=>by
 obtain⟨n,hn⟩:=qzT a y hg h;exact⟨n,9,n,(qBJ n a).trans hn⟩
def qeb:qp:=qV [(104,qxw)] qkM
theorem qec:PkT qeb:=qn qiu (qf qGa qr)
end
end Su
end
section
namespace Su
noncomputable section
open Go Go.Proofs Fly
set_option maxRecDepth 100000
theorem qxx(fu:Nat)  (a:Fm):qz tb qeb (shN tb qeb fu 9) fu 120 ((d1 qB).enc (a)) (d1 (cI .u64)).dec=qvp a:=by kernel_rfl
def qq2:PrimD:=prim (d1 qB) (d1 (cI .u64)) (JV)
theorem qBK:OkT 120 qq2:=qj qy qec (by kernel_rfl) fun a y hg h=>⟨0,9,0,(qxx 0 a).trans (qvq a y hg h)⟩
theorem qBL(fu:Nat)  (a:Int)(b:Int):qz tb qeb (shN tb qeb fu 9) fu 126 ((dc (cI .u64) (d1 (cI .u64))).enc (a,b)) (d1 (cI .u64)).dec=aMid a b:=by kernel_rfl
def qxy:PrimD:=prim (dc (cI .u64) (d1 (cI .u64))) (d1 (cI .u64)) (qvr)
theorem qGb:OkT 126 qxy:=qj qy qec (by kernel_rfl) fun a y hg h=>⟨0,9,0,(qBL 0 a.1 a.2).trans (qzU a y hg h)⟩
def qkN:qp:=qV [(120,qq2),(126,qxy)] qeb
theorem qiv:PkT qkN:=qn qec (qf qBK (qf qGb qr))
end
end Su
end
section
namespace Su
noncomputable section
open Go Go.Proofs Fly
set_option maxRecDepth 100000
theorem qxz(fu:Nat)(a:Fm)(b:Fm):qz tb qkN (shN tb qkN fu 9) fu 45 ((dc qB (d1 qB)).enc (a,b)) (d1 qB).dec=qvs fu a b:=by kernel_rfl
def qq3:PrimD:=prim (dc qB (d1 qB)) (d1 qB) (qqd)
theorem qBM:OkT 45 qq3:=qj qy qiv (by kernel_rfl) fun a y hg h=>by
 obtain⟨n,hn⟩:=qvv a y hg h;exact⟨n,9,n,(qxz n a.1 a.2).trans hn⟩
def qkO:qp:=qV [(45,qq3)] qkN
theorem qiw:PkT qkO:=qn qiv (qf qBM qr)
end
end Su
end
section
namespace Su
noncomputable section
open Go Go.Proofs Fly
set_option maxRecDepth 100000
theorem qxA(fu:Nat)  (a:Fm):qz tb qkO (shN tb qkO fu 9) fu 50 ((d1 qB).enc (a)) (d1 qgV).dec=qvw a:=by kernel_rfl
def qq4:PrimD:=prim (d1 qB) (d1 qgV) (qfb)
theorem qBN:OkT 50 qq4:=qj qy qiw (by kernel_rfl) fun a y hg h=>⟨0,9,0,(qxA 0 a).trans (qvx a y hg h)⟩
def qxB:qp:=qV [(50,qq4)] qkO
theorem qsr:PkT qxB:=qn qiw (qf qBN qr)
end
end Su
end
section
namespace Fly
open Go Go.Proofs Su
set_option maxRecDepth 10000
noncomputable def tb:Tabs Tryz.prog:=Su.Jv.sound.tb
section
variable {P:Program} {n:Nat} {X:Cx} {L:Lo} {V:qc} {G:Own} {Q:Value→qc→Own→Prop}
variable {ty:TypeId} {pos:String} {af:Array Edge} {gd:Option (Nat×Bool)} {ds:Option Tmp}
theorem qng{t e:TypeId}{a:Option Addr}{len cap:Nat}(hu:P.underlying t=some (.slice e))(w:World):(Op.equal t (.slice a len cap) (.slice none 0 0)).run P w = .ok a.isNone w:=by
 show(Op.equalIn (9999+1) t (.slice a len cap) (.slice none 0 0)).run P w=_
 unfold Op.equalIn;rw[Sem.run_bind,run_underlying hu];cases a <;> rfl
theorem qkP{t u e:TypeId}{x y:Operand}{a:Option Addr}{len cap:Nat}(hx:ev L x=some (.slice a len cap))(hy:ev L y=some (.slice none 0 0))(hu:P.underlying t=some (.slice e))(k:Q (.bool a.isNone) V G) :
 Opr P n X L V G ⟨ds,.binOp .eql t x y u,ty,pos,af,gd⟩ Q:=qiX hx hy rfl (fun w=>by simp[eqGuard]) (qng hu) k
end
attribute [local irreducible] WC WE WR Opr St Go.Calls qsD qx3 qhe Rel yg qCj qx4 Owe One qkZ Go.CallsD
theorem c53n{V:qc}{len cap:Nat}{Q:Value→qc→Own→Prop}(hQ:Q (.slice none 0 0) V []):yg Tryz.prog 133 #[.slice none len cap] V [] Q:=by
 refine yH (args:=[_]) Tryz.func133 rfl Tryz.ntmps133 rfl ?_
 intro X w hM hb hw hV0 hR;dsimp only[ZK,zQ,Nat.reduceAdd]
 (repeat' (first | refine J1 ?_ | refine j0 ?_ | refine J4 ?_ | refine Qx ?_ | refine yF ?_ | refine Qv ?_ | refine J3 ?_ | refine Qw ?_ | refine qS ?_ | refine qO ?_ | refine jF rfl ?_ | refine jp ?_ | refine J2 ?_ | ((first | refine Qy rfl ?_ | refine Jd ?_ | refine qbz rfl rfl rfl ?_);(first | (refine qkP (e:=103) rfl rfl (by kernel_rfl) ?_) | refine Qz rfl ?_ | refine j4 rfl ?_ | refine J7 rfl rfl ?_ | refine J8 rfl rfl ?_ | refine J9 rfl rfl ?_ | refine Ya rfl rfl ?_ | refine Yb rfl rfl ?_ | refine Yc rfl rfl ?_ | refine jG rfl rfl ?_ | refine Yf rfl ?_ | refine j8 rfl rfl ?_ | refine j9 rfl rfl ?_ | refine Je rfl rfl (by omega) (by omega) ?_ | refine Jf rfl rfl (by omega) (by omega) ?_ | refine Jg rfl rfl (by omega) (by omega) ?_ | refine Jy rfl rfl ?_ | refine Jz rfl rfl ?_ | refine JA rfl rfl ?_ | refine qI tb rfl rfl ?_ | refine jO tb rfl rfl rfl ?_ | refine J5 rfl rfl ?_ | refine qap rfl rfl ?_ | refine J6 rfl rfl ?_ | refine j7 rfl rfl ?_ | refine Yd rfl rfl (by decide) ?_ | refine Ye rfl rfl (by decide) ?_ | refine Yl rfl rfl ?_ | refine QE rfl rfl ?_ | refine Jh rfl rfl (by kernel_rfl) ?_ | refine y6 rfl rfl (by kernel_rfl) ?_ | refine jH tb rfl rfl rfl ?_ | refine Yg rfl ?_ | refine yS tb rfl rfl rfl ?_ | (apply yW tb rfl rfl;(· (first | (refine At.own (?_);repeat (first | exact Has.here | refine Has.there ?_)) | exact At.seen (by assumption)));(· exact rfl)) | (apply yG tb rfl rfl;(· (first | (refine At.own (?_);repeat (first | exact Has.here | refine Has.there ?_)) | exact At.seen (by assumption)));(· exact rfl)) | (apply yu tb rfl rfl rfl rfl rfl;(· (repeat (first | exact Upd.here | apply Upd.there)));(· exact rfl)) | (apply yv tb rfl rfl rfl rfl rfl;(· (repeat (first | exact Upd.here | apply Upd.there)));(· exact rfl)) | (apply yp tb (by kernel_rfl) rfl (rfl:tb.fo _ 0=_);(· (repeat (first | exact Fill.nil | (apply Fill.cons;(· exact rfl);(· exact rfl);(· exact rfl);(· exact rfl);(· exact rfl)))))) | (refine yl rfl ?_;intro b) | (refine Qd rfl rfl ?_;intro b) | (refine yo tb rfl ?_;intro b) | (apply qG tb;(· exact rfl);(· exact rfl);(· exact rfl);(· decide);(· (repeat (first | exact Cat.nil | (apply Cat.cons;(· exact rfl);(· exact rfl);(· exact rfl)) | exact App.nil | apply App.cons)));intro b))) | refine qgP rfl rfl rfl rfl ?_ | refine jY rfl ?_ | refine jZ rfl ?_ | refine qbA rfl (fun _=>?_) (fun _=>?_) | refine Y3 rfl (fun _=>?_) (fun _=>?_) | refine yY rfl rfl (fun _=>?_) (fun _=>?_) | refine yZ rfl rfl (fun _=>?_) (fun _=>?_) | refine Ji rfl (fun _=>?_) (fun _=>?_) | refine Y6 rfl (fun _=>?_) (fun _=>?_) | refine yw rfl rfl (fun _=>?_) (fun _=>?_) | refine y7 rfl rfl (fun _=>?_) (fun _=>?_)))
 exact Zj hM hw hV0 hR [] (VX _) (qrc rfl rfl) hQ
theorem c53e{V:qc}{a:Addr}{cap:Nat}{Q:Value→qc→Own→Prop}(hQ:∀b,Q (.slice (some ⟨b,0,none⟩) 0 0) V [(b,.cells #[] 103 (0,0))]):yg Tryz.prog 133 #[.slice (some a) 0 cap] V [] Q:=by
 refine yH (args:=[_]) Tryz.func133 rfl Tryz.ntmps133 rfl ?_
 intro X w hM hb hw hV0 hR;dsimp only[ZK,zQ,Nat.reduceAdd]
 (repeat' (first | refine J1 ?_ | refine j0 ?_ | refine J4 ?_ | refine Qx ?_ | refine yF ?_ | refine Qv ?_ | refine J3 ?_ | refine Qw ?_ | refine qS ?_ | refine qO ?_ | refine jF rfl ?_ | refine jp ?_ | refine J2 ?_ | ((first | refine Qy rfl ?_ | refine Jd ?_ | refine qbz rfl rfl rfl ?_);(first | (refine qkP (e:=103) rfl rfl (by kernel_rfl) ?_) | refine Qz rfl ?_ | refine j4 rfl ?_ | refine J7 rfl rfl ?_ | refine J8 rfl rfl ?_ | refine J9 rfl rfl ?_ | refine Ya rfl rfl ?_ | refine Yb rfl rfl ?_ | refine Yc rfl rfl ?_ | refine jG rfl rfl ?_ | refine Yf rfl ?_ | refine j8 rfl rfl ?_ | refine j9 rfl rfl ?_ | refine Je rfl rfl (by omega) (by omega) ?_ | refine Jf rfl rfl (by omega) (by omega) ?_ | refine Jg rfl rfl (by omega) (by omega) ?_ | refine Jy rfl rfl ?_ | refine Jz rfl rfl ?_ | refine JA rfl rfl ?_ | refine qI tb rfl rfl ?_ | refine jO tb rfl rfl rfl ?_ | refine J5 rfl rfl ?_ | refine qap rfl rfl ?_ | refine J6 rfl rfl ?_ | refine j7 rfl rfl ?_ | refine Yd rfl rfl (by decide) ?_ | refine Ye rfl rfl (by decide) ?_ | refine Yl rfl rfl ?_ | refine QE rfl rfl ?_ | refine Jh rfl rfl (by kernel_rfl) ?_ | refine y6 rfl rfl (by kernel_rfl) ?_ | refine jH tb rfl rfl rfl ?_ | refine Yg rfl ?_ | refine yS tb rfl rfl rfl ?_ | (apply yW tb rfl rfl;(· (first | (refine At.own (?_);repeat (first | exact Has.here | refine Has.there ?_)) | exact At.seen (by assumption)));(· exact rfl)) | (apply yG tb rfl rfl;(· (first | (refine At.own (?_);repeat (first | exact Has.here | refine Has.there ?_)) | exact At.seen (by assumption)));(· exact rfl)) | (apply yu tb rfl rfl rfl rfl rfl;(· (repeat (first | exact Upd.here | apply Upd.there)));(· exact rfl)) | (apply yv tb rfl rfl rfl rfl rfl;(· (repeat (first | exact Upd.here | apply Upd.there)));(· exact rfl)) | (apply yp tb (by kernel_rfl) rfl (rfl:tb.fo _ 0=_);(· (repeat (first | exact Fill.nil | (apply Fill.cons;(· exact rfl);(· exact rfl);(· exact rfl);(· exact rfl);(· exact rfl)))))) | (refine yl rfl ?_;intro b) | (refine Qd rfl rfl ?_;intro b) | (refine yo tb rfl ?_;intro b) | (apply qG tb;(· exact rfl);(· exact rfl);(· exact rfl);(· decide);(· (repeat (first | exact Cat.nil | (apply Cat.cons;(· exact rfl);(· exact rfl);(· exact rfl)) | exact App.nil | apply App.cons)));intro b))) | refine qgP rfl rfl rfl rfl ?_ | refine jY rfl ?_ | refine jZ rfl ?_ | refine qbA rfl (fun _=>?_) (fun _=>?_) | refine Y3 rfl (fun _=>?_) (fun _=>?_) | refine yY rfl rfl (fun _=>?_) (fun _=>?_) | refine yZ rfl rfl (fun _=>?_) (fun _=>?_) | refine Ji rfl (fun _=>?_) (fun _=>?_) | refine Y6 rfl (fun _=>?_) (fun _=>?_) | refine yw rfl rfl (fun _=>?_) (fun _=>?_) | refine y7 rfl rfl (fun _=>?_) (fun _=>?_)))
 refine Qy rfl (ZR (e:=103) (k:=2) tb rfl rfl rfl (zE 0) ?_)
 (repeat' (first | refine J1 ?_ | refine j0 ?_ | refine J4 ?_ | refine Qx ?_ | refine yF ?_ | refine Qv ?_ | refine J3 ?_ | refine Qw ?_ | refine qS ?_ | refine qO ?_ | refine jF rfl ?_ | refine jp ?_ | refine J2 ?_ | ((first | refine Qy rfl ?_ | refine Jd ?_ | refine qbz rfl rfl rfl ?_);(first | refine Qz rfl ?_ | refine j4 rfl ?_ | refine J7 rfl rfl ?_ | refine J8 rfl rfl ?_ | refine J9 rfl rfl ?_ | refine Ya rfl rfl ?_ | refine Yb rfl rfl ?_ | refine Yc rfl rfl ?_ | refine jG rfl rfl ?_ | refine Yf rfl ?_ | refine j8 rfl rfl ?_ | refine j9 rfl rfl ?_ | refine Je rfl rfl (by omega) (by omega) ?_ | refine Jf rfl rfl (by omega) (by omega) ?_ | refine Jg rfl rfl (by omega) (by omega) ?_ | refine Jy rfl rfl ?_ | refine Jz rfl rfl ?_ | refine JA rfl rfl ?_ | refine qI tb rfl rfl ?_ | refine jO tb rfl rfl rfl ?_ | refine J5 rfl rfl ?_ | refine qap rfl rfl ?_ | refine J6 rfl rfl ?_ | refine j7 rfl rfl ?_ | refine Yd rfl rfl (by decide) ?_ | refine Ye rfl rfl (by decide) ?_ | refine Yl rfl rfl ?_ | refine QE rfl rfl ?_ | refine Jh rfl rfl (by kernel_rfl) ?_ | refine y6 rfl rfl (by kernel_rfl) ?_ | refine jH tb rfl rfl rfl ?_ | refine Yg rfl ?_ | refine yS tb rfl rfl rfl ?_ | (apply yW tb rfl rfl;(· (first | (refine At.own (?_);repeat (first | exact Has.here | refine Has.there ?_)) | exact At.seen (by assumption)));(· exact rfl)) | (apply yG tb rfl rfl;(· (first | (refine At.own (?_);repeat (first | exact Has.here | refine Has.there ?_)) | exact At.seen (by assumption)));(· exact rfl)) | (apply yu tb rfl rfl rfl rfl rfl;(· (repeat (first | exact Upd.here | apply Upd.there)));(· exact rfl)) | (apply yv tb rfl rfl rfl rfl rfl;(· (repeat (first | exact Upd.here | apply Upd.there)));(· exact rfl)) | (apply yp tb (by kernel_rfl) rfl (rfl:tb.fo _ 0=_);(· (repeat (first | exact Fill.nil | (apply Fill.cons;(· exact rfl);(· exact rfl);(· exact rfl);(· exact rfl);(· exact rfl)))))) | (refine yl rfl ?_;intro b) | (refine Qd rfl rfl ?_;intro b) | (refine yo tb rfl ?_;intro b) | (apply qG tb;(· exact rfl);(· exact rfl);(· exact rfl);(· decide);(· (repeat (first | exact Cat.nil | (apply Cat.cons;(· exact rfl);(· exact rfl);(· exact rfl)) | exact App.nil | apply App.cons)));intro b))) | refine qgP rfl rfl rfl rfl ?_ | refine jY rfl ?_ | refine jZ rfl ?_ | refine qbA rfl (fun _=>?_) (fun _=>?_) | refine Y3 rfl (fun _=>?_) (fun _=>?_) | refine yY rfl rfl (fun _=>?_) (fun _=>?_) | refine yZ rfl rfl (fun _=>?_) (fun _=>?_) | refine Ji rfl (fun _=>?_) (fun _=>?_) | refine Y6 rfl (fun _=>?_) (fun _=>?_) | refine yw rfl rfl (fun _=>?_) (fun _=>?_) | refine y7 rfl rfl (fun _=>?_) (fun _=>?_)))
 exact Zj hM hw hV0 hR [(b,.cells #[] 103 (0,0))] (VX _) (qrc rfl rfl) (hQ b)
theorem c53s{V:qc}{bb off len cap:Nat}{news:List Value}{Q:Value→qc→Own→Prop}(hn:news.length=len*2)(h1:∀u∈news,u.oneCell'=true)(hr:∀(j:Nat) (u:Value),news[j]?=some u→rd V bb (off+j) u)(h0:0<len)(hl:len≤549755813888)
 (hQ:∀v' Gr',RowC 103 2 v' Gr' len news→Q v' V Gr'):yg Tryz.prog 133 #[.slice (some ⟨bb,off,none⟩) len cap] V [] Q:=by
 refine yH (args:=[_]) Tryz.func133 rfl Tryz.ntmps133 rfl ?_
 intro X w hM hb hw hV0 hR;dsimp only[ZK,zQ,Nat.reduceAdd]
 (repeat' (first | refine J1 ?_ | refine j0 ?_ | refine J4 ?_ | refine Qx ?_ | refine yF ?_ | refine Qv ?_ | refine J3 ?_ | refine Qw ?_ | refine qS ?_ | refine qO ?_ | refine jF rfl ?_ | refine jp ?_ | refine J2 ?_ | ((first | refine Qy rfl ?_ | refine Jd ?_ | refine qbz rfl rfl rfl ?_);(first | (refine qkP (e:=103) rfl rfl (by kernel_rfl) ?_) | refine Qz rfl ?_ | refine j4 rfl ?_ | refine J7 rfl rfl ?_ | refine J8 rfl rfl ?_ | refine J9 rfl rfl ?_ | refine Ya rfl rfl ?_ | refine Yb rfl rfl ?_ | refine Yc rfl rfl ?_ | refine jG rfl rfl ?_ | refine Yf rfl ?_ | refine j8 rfl rfl ?_ | refine j9 rfl rfl ?_ | refine Je rfl rfl (by omega) (by omega) ?_ | refine Jf rfl rfl (by omega) (by omega) ?_ | refine Jg rfl rfl (by omega) (by omega) ?_ | refine Jy rfl rfl ?_ | refine Jz rfl rfl ?_ | refine JA rfl rfl ?_ | refine qI tb rfl rfl ?_ | refine jO tb rfl rfl rfl ?_ | refine J5 rfl rfl ?_ | refine qap rfl rfl ?_ | refine J6 rfl rfl ?_ | refine j7 rfl rfl ?_ | refine Yd rfl rfl (by decide) ?_ | refine Ye rfl rfl (by decide) ?_ | refine Yl rfl rfl ?_ | refine QE rfl rfl ?_ | refine Jh rfl rfl (by kernel_rfl) ?_ | refine y6 rfl rfl (by kernel_rfl) ?_ | refine jH tb rfl rfl rfl ?_ | refine Yg rfl ?_ | refine yS tb rfl rfl rfl ?_ | (apply yW tb rfl rfl;(· (first | (refine At.own (?_);repeat (first | exact Has.here | refine Has.there ?_)) | exact At.seen (by assumption)));(· exact rfl)) | (apply yG tb rfl rfl;(· (first | (refine At.own (?_);repeat (first | exact Has.here | refine Has.there ?_)) | exact At.seen (by assumption)));(· exact rfl)) | (apply yu tb rfl rfl rfl rfl rfl;(· (repeat (first | exact Upd.here | apply Upd.there)));(· exact rfl)) | (apply yv tb rfl rfl rfl rfl rfl;(· (repeat (first | exact Upd.here | apply Upd.there)));(· exact rfl)) | (apply yp tb (by kernel_rfl) rfl (rfl:tb.fo _ 0=_);(· (repeat (first | exact Fill.nil | (apply Fill.cons;(· exact rfl);(· exact rfl);(· exact rfl);(· exact rfl);(· exact rfl)))))) | (refine yl rfl ?_;intro b) | (refine Qd rfl rfl ?_;intro b) | (refine yo tb rfl ?_;intro b) | (apply qG tb;(· exact rfl);(· exact rfl);(· exact rfl);(· decide);(· (repeat (first | exact Cat.nil | (apply Cat.cons;(· exact rfl);(· exact rfl);(· exact rfl)) | exact App.nil | apply App.cons)));intro b))) | refine qgP rfl rfl rfl rfl ?_ | refine jY rfl ?_ | refine jZ rfl ?_ | refine qbA rfl (fun _=>?_) (fun _=>?_) | refine Y3 rfl (fun _=>?_) (fun _=>?_) | refine yY rfl rfl (fun _=>?_) (fun _=>?_) | refine yZ rfl rfl (fun _=>?_) (fun _=>?_) | refine Ji rfl (fun _=>?_) (fun _=>?_) | refine Y6 rfl (fun _=>?_) (fun _=>?_) | refine yw rfl rfl (fun _=>?_) (fun _=>?_) | refine y7 rfl rfl (fun _=>?_) (fun _=>?_)))
 refine Qy rfl (ZS (e:=103) (k:=2) (m:=0) (z:=[.int .i64 0,.int .u64 0]) (Gr:=[(b,.cells #[] 103 (0,0))]) (G1:=[]) (xs:=[]) (news:=news) tb rfl rfl rfl (zo (by kernel_rfl)) rfl rfl (fun w hw j u hj=>?_) hn h1 (RowC.some (g:=b) (cur:=#[]) (zE 0) (zE 0) (by simp[maxLen]) rfl rfl) (Kz _) h0 (by omega) fun v' Gr' hR'=>?_)
 · obtain⟨arr,e,f0,q1,q2⟩:=hr j u hj
   rw[yV,yA (hw.view _ _ q1)];exact q2
 · (repeat' (first | refine J1 ?_ | refine j0 ?_ | refine J4 ?_ | refine Qx ?_ | refine yF ?_ | refine Qv ?_ | refine J3 ?_ | refine Qw ?_ | refine qS ?_ | refine qO ?_ | refine jF rfl ?_ | refine jp ?_ | refine J2 ?_ | ((first | refine Qy rfl ?_ | refine Jd ?_ | refine qbz rfl rfl rfl ?_);(first | refine Qz rfl ?_ | refine j4 rfl ?_ | refine J7 rfl rfl ?_ | refine J8 rfl rfl ?_ | refine J9 rfl rfl ?_ | refine Ya rfl rfl ?_ | refine Yb rfl rfl ?_ | refine Yc rfl rfl ?_ | refine jG rfl rfl ?_ | refine Yf rfl ?_ | refine j8 rfl rfl ?_ | refine j9 rfl rfl ?_ | refine Je rfl rfl (by omega) (by omega) ?_ | refine Jf rfl rfl (by omega) (by omega) ?_ | refine Jg rfl rfl (by omega) (by omega) ?_ | refine Jy rfl rfl ?_ | refine Jz rfl rfl ?_ | refine JA rfl rfl ?_ | refine qI tb rfl rfl ?_ | refine jO tb rfl rfl rfl ?_ | refine J5 rfl rfl ?_ | refine qap rfl rfl ?_ | refine J6 rfl rfl ?_ | refine j7 rfl rfl ?_ | refine Yd rfl rfl (by decide) ?_ | refine Ye rfl rfl (by decide) ?_ | refine Yl rfl rfl ?_ | refine QE rfl rfl ?_ | refine Jh rfl rfl (by kernel_rfl) ?_ | refine y6 rfl rfl (by kernel_rfl) ?_ | refine jH tb rfl rfl rfl ?_ | refine Yg rfl ?_ | refine yS tb rfl rfl rfl ?_ | (apply yW tb rfl rfl;(· (first | (refine At.own (?_);repeat (first | exact Has.here | refine Has.there ?_)) | exact At.seen (by assumption)));(· exact rfl)) | (apply yG tb rfl rfl;(· (first | (refine At.own (?_);repeat (first | exact Has.here | refine Has.there ?_)) | exact At.seen (by assumption)));(· exact rfl)) | (apply yu tb rfl rfl rfl rfl rfl;(· (repeat (first | exact Upd.here | apply Upd.there)));(· exact rfl)) | (apply yv tb rfl rfl rfl rfl rfl;(· (repeat (first | exact Upd.here | apply Upd.there)));(· exact rfl)) | (apply yp tb (by kernel_rfl) rfl (rfl:tb.fo _ 0=_);(· (repeat (first | exact Fill.nil | (apply Fill.cons;(· exact rfl);(· exact rfl);(· exact rfl);(· exact rfl);(· exact rfl)))))) | (refine yl rfl ?_;intro b) | (refine Qd rfl rfl ?_;intro b) | (refine yo tb rfl ?_;intro b) | (apply qG tb;(· exact rfl);(· exact rfl);(· exact rfl);(· decide);(· (repeat (first | exact Cat.nil | (apply Cat.cons;(· exact rfl);(· exact rfl);(· exact rfl)) | exact App.nil | apply App.cons)));intro b))) | refine qgP rfl rfl rfl rfl ?_ | refine jY rfl ?_ | refine jZ rfl ?_ | refine qbA rfl (fun _=>?_) (fun _=>?_) | refine Y3 rfl (fun _=>?_) (fun _=>?_) | refine yY rfl rfl (fun _=>?_) (fun _=>?_) | refine yZ rfl rfl (fun _=>?_) (fun _=>?_) | refine Ji rfl (fun _=>?_) (fun _=>?_) | refine Y6 rfl (fun _=>?_) (fun _=>?_) | refine yw rfl rfl (fun _=>?_) (fun _=>?_) | refine y7 rfl rfl (fun _=>?_) (fun _=>?_)))
   rw[zO];refine Zj hM hw hV0 hR Gr' (VX _) (qrc rfl rfl) (hQ _ _ ?_)
   rw[zQ,zX]at hR';exact hR'
end Fly
namespace Su
open Go Go.Proofs Fly
theorem qnh{P:Program}{f:Nat}{V:qc}{vs:List Value}{l:List T}{e w:Nat}
 (h:yg P f vs.toArray V [] fun v V' G'=>∃ie,RepOB V' [ie] (.row false e w l) ie G'∧RepS V' [ie] (.osl 0 0 l.length) v):yg P f vs.toArray V [] fun v V' _=>∃rvs,RepA V' [.sl w l] rvs∧v=JN rvs:=by
 intro w0 hs hG hV hnd;refine(h w0 hs hG hV hnd).mono ?_
 rintro ex w' ⟨v,V',G',rfl,hh,ie,m1,m2⟩
 have hsub:sub l 0 l.length=some l:=qhX l _ rfl
 have hz:toTs 64 ⟨[],[],[.row false e w l]⟩ [.osl 0 0 l.length]=some ([.sl w l],(St.mk [] [] [.row false e w l]).frow 0 w l):=by
  simp only[toTs,toT,VC,hsub,zi]
 obtain⟨V2,G2,g2,s2,r2,_⟩:=(yK (I:=[ie]) (L:=[]) 64).2 ⟨[],[],[.row false e w l]⟩ _ [.osl 0 0 l.length] _ hz V' G' [v] (.cons m2 .nil) ⟨⟨G'++[],.cons m1 .nil,by rw[zO]⟩,fun d sv hd _=>by simp[St.look]at hd⟩ ⟨fun p hp=>(hh.free p (by simp[hp])).2,by have:=hh.nodup;simpa using this⟩
 exact⟨_,V2,G2,rfl,g2.holds _ _ hh,[v],r2,rfl⟩
noncomputable def qgK:PrimD:=⟨List Tm,fun xs=>((d1 ZV).dec xs).bind fun l=>bif JL l then some l else none,fun l=>[.sl 2 (l.map vT)],none,some (103,2),fun _=>none⟩
theorem qss{V:qc}{v:Value}{l:List T}(hl:l.length≤549755813888)(h:Rep V (.sl 2 l) v) :
 yg Tryz.prog 133 #[v] V [] fun v' V' G'=>∃ie,RepOB V' [ie] (.row false 103 2 l) ie G'∧RepS V' [ie] (.osl 0 0 l.length) v':=by
 cases h with | @sl _ _ vs a cap a1 a2 a3 a4 a5 a6=>
 have hn:vs.length=l.length*2:=by rw[← a1.length,y8 a3]
 by_cases h0:l=[]
 · subst h0
   cases a with
   | none=>exact c53n ⟨.vrow,.vrow,.oslv rfl⟩
   | some a=>exact c53e fun b=>⟨.row b 2 0,.row (by simp) (by simp[maxLen]) (by simp) (by simpa using RepA.nil) (by simp) (by simp),by
    have:=RepS.osl (V:=V) (I:=[IE.row b 2 0]) (n:=0) (off:=0) (len:=0) (b:=b) (k:=2) (ct:=0) (cap:=0) rfl (by omega) (by simp[maxLen]) ⟨by simp,by simp⟩
    simpa using this⟩
 · have yQ:0<l.length:=Kg.2 h0
   rcases a6 with a6 | ⟨b,off,rfl,a6⟩
   · exact absurd a6 h0
   · refine c53s hn (QH a1 a2) a6 yQ hl fun v' Gr' hR=>?_
     obtain⟨b',ct,cap,rfl,b1,b2,b3⟩:=qpo (V:=V) (I:=[.row 0 0 0]) (l:=l) hR yQ rfl a1 a2 a3
     refine⟨.row b' 2 ct,b3.row_any,?_⟩
     have:=RepS.osl (V:=V) (I:=[IE.row b' 2 ct]) (n:=0) (off:=0) (len:=l.length) (b:=b') (k:=2) (ct:=ct) (cap:=cap) rfl (by omega) b2 ⟨b1.1,by omega⟩
     rw[Vo]at this;exact this
theorem qni(xs:List T)(y:List Tm)(h:((d1 ZV).dec xs).bind (fun l=>bif JL l then some l else none)=some y)(V:qc)(vs:List Value)(hr:RepA V xs vs) :
 yg Tryz.prog 133 vs.toArray V [] fun v V' G'=>∃ie,RepOB V' [ie] (.row false 103 2 (y.map vT)) ie G'∧RepS V' [ie] (.osl 0 0 (y.map vT).length) v:=by
 obtain⟨l,h1,h2⟩:=osm h;obtain⟨h3,h4⟩:=qi h2;have:=soi h4;subst this
 have hr2:=(d1 ZV).rep h1 hr
 cases hr2 with | cons k1 k2=>cases k2 with | nil=>
 cases k1 with | ql k1=>
 exact qss (l:=l.map vT) (by have h5:(l.map (view 10)).length=l.length:=zr ..;rw[show(List.map vT l).length=l.length from h5];exact zo h3) k1
theorem qnj:OkT 133 qgK:=by
 refine⟨by kernel_rfl,fun xs y h V vs _ hr=>qnh (qni xs y h V vs hr),fun j hj xs y h V vs _ hr=>?_⟩
 have hj:some ((103,2):Nat×Nat)=some j:=hj
 simp only[zg]at hj;subst hj;intro w0 a1 a2 a3 a4;refine(qni xs y h V vs hr w0 a1 a2 a3 a4).mono ?_
 rintro e w' ⟨v,V',G',rfl,hh,ie,m1,m2⟩
 refine⟨v,V',G',rfl,hh,fun w l he hw=>?_⟩
 have he:[T.sl 2 (y.map vT)]=[.sl w l]:=he
 simp only[V9,T.sl.injEq,and_true]at he;obtain⟨rfl,rfl⟩:=he;exact⟨ie,m1,m2⟩
end Su
end
section
namespace Su
noncomputable section
open Go Go.Proofs Fly
set_option maxRecDepth 100000
abbrev dFF:Dec (Int×Int×Int):=dc (cI .u64) (dc (cI .u64) (d1 (cI .u8)))
def qBO(n:Nat):Option Int:=Nat.rec (motive:=fun _=>Option Int) (some ((0:Nat):Int)) (fun m _=>some ((m+1:Nat):Int)) n
theorem qkQ(n:Nat):qBO n=some (n:Int):=by cases n <;> rfl
def qxC(p:Int×Int×Int):Option Int:=qBO (YF p.1.toNat p.2.1.toNat p.2.2)
def qxD(p:Int×Int×Int):Option Int:=qBO (qrT p.1.toNat p.2.1.toNat p.2.2)
def upO(s:Nat):List Int→Nat
 | []=>s
 | x::l=>upO (YF s x.toNat 1) l
def qGc(l:List Int):Option Int:=qBO (upO 0 l)
def qxE(a:Fm):Fm:=bif(fI (nzI a.2.1)&&fI (nzI a.2.2.2))&&!((jJ a.2.2.1).any fun t=>!fI t.c)then(a.1,nzI a.2.1,jJ a.2.2.1,nzI a.2.2.2)else qgX
theorem qxF:∀(l:List Int) (s:Nat),upO s l=upS s l
 | [],s=>rfl
 | x::l,s=>by show upO (YF s x.toNat 1) l=upS (Qt s x.toNat 1) l;rw[qxF l,Z5]
def qxG:PrimD:=prim dFF (d1 (cI .u64)) qxC
def qxH:PrimD:=prim dFF (d1 (cI .u64)) qxD
def qGd:PrimD:=prim (d1 (cQ 2 1)) (d1 (cI .u64)) qGc
def qoK:PrimD:=qjt (2,103) (d1 qgb) (d1 qB) (fun a=>some (qxE a)) (d1 qB) (fun a=>bif a.2.2.1.all fun t=>!zI t.c then some (qxE a)else none)
theorem qBP:OkT 114 qxG:=by
 have e:qxC=qjP:=by funext p;unfold qxC qjP;rw[Z5,qkQ]
 unfold qxG;rw[e];exact qxg
theorem qBQ:OkT 121 qxH:=by
 have e:qxD=qjQ:=by funext p;unfold qxD qjQ;rw[qjN,qkQ]
 unfold qxH;rw[e];exact qxi
theorem qGe:OkT 112 qGd:=by
 have e:qGc=qp7:=by funext l;unfold qGc qp7;rw[qxF,qkQ]
 unfold qGd;rw[e];exact qC1
theorem qxI:OkT 117 qoK:=by
 have e:qxE=jR:=by funext a;rw[qaP];rfl
 unfold qoK;rw[e];exact qq1
def prB:qp:=qV [(114,qxG),(121,qxH),(112,qGd),(117,qoK),(133,qgK),(128,qgJ),(129,qoJ),(175,qoI),(177,qkH),(107,qoH),(106,qkE)] qaf
theorem qGf:PkT prB:=qn ZI (qf qBP (qf qBQ (qf qGe (qf qxI (qf qnj (qf qnf (qf qxv (qf qxl (qf qqZ (qf qwZ (qf qqU qr)))))))))))
theorem qnk:qz tb prB (shN tb prB 60 9) 60 38 [] (d1 cB).dec=some true:=by kernel_rfl
def qix:PrimD:=prim d0 (d1 cB) fun _=>some true
theorem qst:OkT 38 qix:=qj qy qGf (by kernel_rfl) fun a y hg h=>⟨60,9,60,qnk.trans h⟩
def qkR:qp:=qV [(38,qix),(133,qgK)] qxB
theorem qiy:PkT qkR:=qn qsr (qf qst (qf qnj qr))
end
end Su
end
section
namespace Su
noncomputable section
open Go Go.Proofs Fly
set_option maxRecDepth 100000
theorem qxJ(fu:Nat)  (a:Fm)(e:Int):qz tb qkR (shN tb qkR fu 9) fu 55 ((dc qB (d1 (cI .u64))).enc (a,e)) (d1 qB).dec=qvy a e:=by kernel_rfl
def qq5:PrimD:=prim (dc qB (d1 (cI .u64))) (d1 qB) (qfc)
theorem qBR:OkT 55 qq5:=qj qy qiy (by kernel_rfl) fun a y hg h=>⟨0,9,0,(qxJ 0 a.1 a.2).trans (qvz a y hg h)⟩
def qkS:qp:=qV [(55,qq5)] qkR
theorem qiz:PkT qkS:=qn qiy (qf qBR qr)
end
end Su
end
section
namespace Su
noncomputable section
open Go Go.Proofs Fly
set_option maxRecDepth 100000
theorem qBS(fu:Nat)(a:Fm)(j:Fm):qz tb qkS (shN tb qkS fu 9) fu 132 ((dc qB (d1 qB)).enc (a,j)) (d1 (cI .u64)).dec=qAf fu a j:=by kernel_rfl
def qxK:PrimD:=prim (dc qB (d1 qB)) (d1 (cI .u64)) (qvZ)
theorem qGg:OkT 132 qxK:=qj qy qiz (by kernel_rfl) fun a y hg h=>by
 obtain⟨n,hn⟩:=qAg a y hg h;exact⟨n,9,n,(qBS n a.1 a.2).trans hn⟩
def qkT:qp:=qV [(132,qxK)] qkS
theorem qiA:PkT qkT:=qn qiz (qf qGg qr)
end
end Su
end
section
namespace Su
noncomputable section
open Go Go.Proofs Fly
set_option maxRecDepth 100000
theorem qBT(fu:Nat)(a:Fm)(b:Fm):qz tb qkT (shN tb qkT fu 9) fu 53 ((dc qB (d1 qB)).enc (a,b)) (d1 qB).dec=qAh fu a b:=by kernel_rfl
def qxL:PrimD:=prim (dc qB (d1 qB)) (d1 qB) (qdH)
theorem qGh:OkT 53 qxL:=qj qy qiA (by kernel_rfl) fun a y hg h=>by
 obtain⟨n,hn⟩:=qAi a y hg h;exact⟨n,9,n,(qBT n a.1 a.2).trans hn⟩
def qoL:qp:=qV [(53,qxL)] qkT
theorem qiB:PkT qoL:=qn qiA (qf qGh qr)
end
end Su
end
section
namespace Su
noncomputable section
open Go Go.Proofs Fly
set_option maxRecDepth 100000
theorem qBU(fu:Nat)(L:(List Tm))(a:Int)(b:Int)(n:Int)(u:Unit):qgE tb qoL qAR fu 9 239 103 ((dc (cI .i64) (dc (cI .i64) (dc (cI .i64) (d1 (cF 135))))).enc (a,b,n,u)) (L.map vT) some=qEZ fu L a b n u:=by kernel_rfl
theorem qGi:YX Tryz.prog tb Jv.sound 239 (qby 103 (dc (cI .i64) (dc (cI .i64) (dc (cI .i64) (d1 (cF 135))))) qaa):=qbq qy qiB qks (by kernel_rfl) fun L a y hl hg h=>by
 obtain⟨n,hn⟩:=qAk L a y hl hg h;exact⟨n,9,(qBU n L a.1 a.2.1 a.2.2.1 a.2.2.2).trans hn⟩
def qoM:Wr:=qkt [(239,qby 103 (dc (cI .i64) (dc (cI .i64) (dc (cI .i64) (d1 (cF 135))))) qaa)] qAR
theorem qiC:qc7 Tryz.prog tb Jv.sound qoM:=YY qks (YZ qGi qb5)
def qoN:qp:=qV [] qoL
theorem qiD:PkT qoN:=qn qiB qr
end
end Su
end
section
namespace Su
noncomputable section
open Go Go.Proofs Fly
set_option maxRecDepth 100000
theorem qBV(fu:Nat)(L:(List Tm))(a:Int)(b:Int)(u:Unit):qgE tb qoN qoM fu 9 210 103 ((dc (cI .i64) (dc (cI .i64) (d1 (cF 135)))).enc (a,b,u)) (L.map vT) some=qE1 fu L a b u:=by kernel_rfl
theorem qGj:YX Tryz.prog tb Jv.sound 210 (qby 103 (dc (cI .i64) (dc (cI .i64) (d1 (cF 135)))) qab):=qbq qy qiD qiC (by kernel_rfl) fun L a y hl hg h=>by
 obtain⟨n,hn⟩:=qAo L a y hl hg h;exact⟨n,9,(qBV n L a.1 a.2.1 a.2.2).trans hn⟩
def qoO:Wr:=qkt [(210,qby 103 (dc (cI .i64) (dc (cI .i64) (d1 (cF 135)))) qab)] qoM
theorem qiE:qc7 Tryz.prog tb Jv.sound qoO:=YY qiC (YZ qGj qb5)
def qoP:qp:=qV [] qoN
theorem qiF:PkT qoP:=qn qiD qr
end
end Su
end
section
namespace Su
noncomputable section
open Go Go.Proofs Fly
set_option maxRecDepth 100000
theorem qBW(fu:Nat)(L:(List Tm))(a:Int)(m:Int)(b:Int)(u:Unit):qgE tb qoP qoO fu 9 228 103 ((dc (cI .i64) (dc (cI .i64) (dc (cI .i64) (d1 (cF 135))))).enc (a,m,b,u)) (L.map vT) some=qE2 fu L a m b u:=by kernel_rfl
theorem qGk:YX Tryz.prog tb Jv.sound 228 (qby 103 (dc (cI .i64) (dc (cI .i64) (dc (cI .i64) (d1 (cF 135))))) qaW):=qbq qy qiF qiE (by kernel_rfl) fun L a y hl hg h=>by
 obtain⟨n,hn⟩:=qAq L a y hl hg h;exact⟨n,9,(qBW n L a.1 a.2.1 a.2.2.1 a.2.2.2).trans hn⟩
def qoQ:Wr:=qkt [(228,qby 103 (dc (cI .i64) (dc (cI .i64) (dc (cI .i64) (d1 (cF 135))))) qaW)] qoO
theorem qiG:qc7 Tryz.prog tb Jv.sound qoQ:=YY qiE (YZ qGk qb5)
def qoR:qp:=qV [] qoP
theorem qiH:PkT qoR:=qn qiF qr
end
end Su
end
section
namespace Su
noncomputable section
open Go Go.Proofs Fly
set_option maxRecDepth 100000
abbrev qBX:Dec (Int×Int×Int×Unit):=dc (cI .i64) (dc (cI .i64) (dc (cI .i64) (d1 (cF 135))))
theorem qBY(fu:Nat)(R:List Tm→Int×(Int×Int×Unit)→Option (List Tm))(L:List Tm)(a m b:Int)(u:Unit):qgE tb qoR (qkt [(211,qby 103 qBX R)] qoQ) fu 9 211 103 (qBX.enc (a,m,b,u)) (L.map vT) some=qmN fu R L a m b u:=by kernel_rfl
theorem qxM:∀k,YX Tryz.prog tb Jv.sound 211 (qby 103 qBX (JX k))
 | 0=>fun O svs os k y hr=>by
  unfold qby at hr;split at hr
  · obtain⟨_,hr⟩:=qi hr
    obtain⟨ts,h1,hr⟩:=osm hr;obtain⟨a,h2,hr⟩:=osm hr;obtain⟨L,h3,hr⟩:=osm hr;obtain⟨L',h4,hr⟩:=osm hr;exact absurd ((qFa L a).symm.trans h4) (by simp)
  · cases hr
 | k+1=>qbq qy qiH (YY qiG (YZ (qxM k) qb5)) (by kernel_rfl) fun L a L' hl hg h=>by
  obtain⟨n,hn⟩:=qAD k L a L' h;exact⟨n,9,(qBY n (JX k) L a.1 a.2.1 a.2.2.1 a.2.2.2).trans hn⟩
def qoS:Wr:=qkt [(211,qby 103 qBX (JX 1000000))] qoQ
theorem qiI:qc7 Tryz.prog tb Jv.sound qoS:=YY qiG (YZ (qxM 1000000) qb5)
def qoT:qp:=qV [] qoR
theorem qiJ:PkT qoT:=qn qiH qr
end
end Su
end
section
namespace Su
noncomputable section
open Go Go.Proofs Fly
set_option maxRecDepth 100000
theorem qBZ(fu:Nat)(L:(List Tm))(n:Int)(u:Unit):qgE tb qoT qoS fu 9 184 103 ((dc (cI .i64) (d1 (cF 135))).enc (n,u)) (L.map vT) some=qwf fu L n u:=by kernel_rfl
theorem qGl:YX Tryz.prog tb Jv.sound 184 (qby 103 (dc (cI .i64) (d1 (cF 135))) qkl):=qbq qy qiJ qiI (by kernel_rfl) fun L a y hl hg h=>by
 obtain⟨n,hn⟩:=qAF L a y hl hg h;exact⟨n,9,(qBZ n L a.1 a.2).trans hn⟩
def qxN:Wr:=qkt [(184,qby 103 (dc (cI .i64) (d1 (cF 135))) qkl)] qoS
theorem qsu:qc7 Tryz.prog tb Jv.sound qxN:=YY qiI (YZ qGl qb5)
def qoU:qp:=qV [] qoT
theorem qiK:PkT qoU:=qn qiJ qr
end
end Su
end
