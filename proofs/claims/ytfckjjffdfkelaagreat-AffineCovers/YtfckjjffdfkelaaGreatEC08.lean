/-
  The evaluator computes what the plain functions say.
-/
import Derived.Test.YtfckjjffdfkelaaGreatNC07
import Derived.Test.YtfckjjffdfkelaaGreatSuTb
import Derived.Test.YtfckjjffdfkelaaGreatHSh3
import Derived.Test.YtfckjjffdfkelaaGreatNC10
import Derived.Test.YtfckjjffdfkelaaGreatNC13
import Derived.Test.YtfckjjffdfkelaaGreatNC14
import Derived.Test.YtfckjjffdfkelaaGreatNC19
import Derived.Test.YtfckjjffdfkelaaGreatNC26
import Derived.Test.YtfckjjffdfkelaaGreatRay
import Derived.Test.YtfckjjffdfkelaaGreatND27
import Derived.Test.YtfckjjffdfkelaaGreatRso
import Derived.Test.YtfckjjffdfkelaaGreatNC32
set_option maxRecDepth 10000
section
namespace Su
noncomputable section
open Go Go.Proofs Fly
set_option maxRecDepth 100000
theorem qz2 (fu:Nat)  (a:(Int×Int)):qx tb qaL (shN tb qaL fu 9) fu 225 ((d1 cW).enc (a)) ((d1 (cI .i64))).dec=qDa a:=by kernel_rfl
def qvL:PrimD:=prim (d1 cW) (d1 (cI .i64)) (qtG)
theorem qEx:OkT 225 qvL:=qi qz qbb (by kernel_rfl) fun a y hg h=>⟨0,9,0,(qz2 0 a).trans (qyo a y hg h)⟩
theorem qz3 (fu:Nat) (a:(Int×Int)) (n:Int):qx tb qaL (shN tb qaL fu 9) fu 221 ((dc cW (d1 (cI .i64))).enc (a,n)) ((d1 cW)).dec=qDb fu a n:=by kernel_rfl
def qvM:PrimD:=prim (dc cW (d1 (cI .i64))) (d1 cW) (qtH)
theorem qEy:OkT 221 qvM:=qi qz qbb (by kernel_rfl) fun a y hg h=>by
 obtain ⟨n,hn⟩:=qyp a y hg h
 exact ⟨n,9,n,(qz3 n a.1 a.2).trans hn⟩
theorem qz4 (fu:Nat) (a:(Int×Int)) (n:Int):qx tb qaL (shN tb qaL fu 9) fu 222 ((dc cW (d1 (cI .i64))).enc (a,n)) ((dc cW (d1 cB))).dec=qDc fu a n:=by kernel_rfl
def qvN:PrimD:=prim (dc cW (d1 (cI .i64))) (dc cW (d1 cB)) (qtI)
theorem qEz:OkT 222 qvN:=qi qz qbb (by kernel_rfl) fun a y hg h=>by
 obtain ⟨n,hn⟩:=qyq a y hg h
 exact ⟨n,9,n,(qz4 n a.1 a.2).trans hn⟩
def qdO:qq:=qX [(225,qvL),(221,qvM),(222,qvN)] qaL
theorem qdP:PkT qdO:=qm qbb (qf qEx (qf qEy (qf qEz qr)))
end
end Su
end
section
namespace Su
noncomputable section
open Go Go.Proofs Fly
set_option maxRecDepth 100000
theorem qEA (fu:Nat)  (x:(Bool×(Int×(Int×(Int×Bool))))) (mode:Int) (odd:Bool) (half:Bool) (rest:Bool):qx tb qdO (shN tb qdO fu 9) fu 237 ((dc qiO (dc (cI .u8) (dc cB (dc cB (d1 cB))))).enc (x,mode,odd,half,rest)) ((d1 cB)).dec=rUp x mode odd half rest:=by kernel_rfl
def qBF:PrimD:=prim (dc qiO (dc (cI .u8) (dc cB (dc cB (d1 cB))))) (d1 cB) (qA5)
theorem qF6:OkT 237 qBF:=qi qz qdP (by kernel_rfl) fun a y hg h=>⟨0,9,0,(qEA 0 a.1 a.2.1 a.2.2.1 a.2.2.2.1 a.2.2.2.2).trans (qDe a y hg h)⟩
theorem qvO (fu:Nat)  (x:(Bool×(Int×(Int×(Int×Bool))))) (mode:Int):qx tb qdO (shN tb qdO fu 9) fu 238 ((dc qiO (d1 (cI .u8))).enc (x,mode)) ((dc (cI .u64) (d1 (cI .u8)))).dec=qtK x mode:=by kernel_rfl
def qpE:PrimD:=prim (dc qiO (d1 (cI .u8))) (dc (cI .u64) (d1 (cI .u8))) (qoM)
theorem qz5:OkT 238 qpE:=qi qz qdP (by kernel_rfl) fun a y hg h=>⟨0,9,0,(qvO 0 a.1 a.2).trans (qtL a y hg h)⟩
def qjL:qq:=qX [(237,qBF),(238,qpE)] qdO
theorem qhU:PkT qjL:=qm qdP (qf qF6 (qf qz5 qr))
end
end Su
end
section
namespace Su
noncomputable section
open Go Go.Proofs Fly
set_option maxRecDepth 100000
theorem qq3 (fu:Nat)  (x:(Bool×(Int×(Int×(Int×Bool))))) (mode:Int):qx tb qjL (shN tb qjL fu 9) fu 226 ((dc qiO (d1 (cI .u8))).enc (x,mode)) ((dc (cI .u64) (d1 (cI .u8)))).dec=qm2 x mode:=by kernel_rfl
def ql0:PrimD:=prim (dc qiO (d1 (cI .u8))) (dc (cI .u64) (d1 (cI .u8))) (Zm)
theorem qvP:OkT 226 ql0:=qi qz qhU (by kernel_rfl) fun a y hg h=>⟨0,9,0,(qq3 0 a.1 a.2).trans (qqy a y hg h)⟩
def qaM:qq:=qX [(226,ql0)] qjL
theorem qbc:PkT qaM:=qm qhU (qf qvP qr)
end
end Su
end
section
namespace Su
noncomputable section
open Go Go.Proofs Fly
set_option maxRecDepth 100000
theorem qq4 (fu:Nat)  (neg:Bool) (m:(Int×Int)) (e:Int) (rest:Bool) (mode:Int):qx tb qaM (shN tb qaM fu 9) fu 208 ((dc cB (dc cW (dc (cI .i64) (dc cB (d1 (cI .u8)))))).enc (neg,m,e,rest,mode)) ((dc (cI .u64) (d1 (cI .u8)))).dec=qm3 neg m e rest mode:=by kernel_rfl
def ql1:PrimD:=prim (dc cB (dc cW (dc (cI .i64) (dc cB (d1 (cI .u8)))))) (dc (cI .u64) (d1 (cI .u8))) (qlj)
theorem qvQ:OkT 208 ql1:=qi qz qbc (by kernel_rfl) fun a y hg h=>⟨0,9,0,(qq4 0 a.1 a.2.1 a.2.2.1 a.2.2.2.1 a.2.2.2.2).trans (qqz a y hg h)⟩
theorem qEB (fu:Nat)  (f:Int):qx tb qaM (shN tb qaM fu 9) fu 201 ((d1 (cI .u64)).enc (f)) ((d1 qqr)).dec=sOf f:=by kernel_rfl
def qBG:PrimD:=prim (d1 (cI .u64)) (d1 qqr) (fun a=>sOf a)
theorem qF7:OkT 201 qBG:=qi qz qbc (by kernel_rfl) fun a y hg h=>⟨0,9,0,(qEB 0 a).trans h⟩
theorem qvR (fu:Nat)  (neg:Bool):qx tb qaM (shN tb qaM fu 9) fu 205 ((d1 cB).enc (neg)) ((d1 (cI .u64))).dec=qA6 neg:=by kernel_rfl
def qpF:PrimD:=prim (d1 cB) (d1 (cI .u64)) (fun a=>qA6 a)
theorem qz6:OkT 205 qpF:=qi qz qbc (by kernel_rfl) fun a y hg h=>⟨0,9,0,(qvR 0 a).trans h⟩
def qjM:qq:=qX [(208,ql1),(201,qBG),(205,qpF)] qaM
theorem qhV:PkT qjM:=qm qbc (qf qvQ (qf qF7 (qf qz6 qr)))
end
end Su
end
section
namespace Su
noncomputable section
open Go Go.Proofs Fly
set_option maxRecDepth 100000
theorem qvS (fu:Nat)  (x:(Int×(Int×(Bool×(Int×Int))))) (y:(Int×(Int×(Bool×(Int×Int))))) (mode:Int):qx tb qjM (shN tb qjM fu 9) fu 206 ((dc qqr (dc qqr (d1 (cI .u8)))).enc (x,y,mode)) ((dc (cI .u64) (d1 (cI .u8)))).dec=qcD x y mode:=by kernel_rfl
def qpG:PrimD:=prim (dc qqr (dc qqr (d1 (cI .u8)))) (dc (cI .u64) (d1 (cI .u8))) (fun a=>qcD a.1 a.2.1 a.2.2)
theorem qz7:OkT 206 qpG:=qi qz qhV (by kernel_rfl) fun a y hg h=>⟨0,9,0,(qvS 0 a.1 a.2.1 a.2.2).trans h⟩
def qdQ:qq:=qX [(206,qpG)] qjM
theorem qdR:PkT qdQ:=qm qhV (qf qz7 qr)
end
end Su
end
section
namespace Su
noncomputable section
open Go Go.Proofs Fly
set_option maxRecDepth 100000
theorem qz8 (fu:Nat)  (a:Int) (b:Int) (mode:Int):qx tb qdQ (shN tb qdQ fu 9) fu 174 ((dc (cI .u64) (dc (cI .u64) (d1 (cI .u8)))).enc (a,b,mode)) ((dc (cI .u64) (d1 (cI .u8)))).dec=qqB a b mode:=by kernel_rfl
def qvT:PrimD:=prim (dc (cI .u64) (dc (cI .u64) (d1 (cI .u8)))) (dc (cI .u64) (d1 (cI .u8))) (fun a=>qqB a.1 a.2.1 a.2.2)
theorem qEC:OkT 174 qvT:=qi qz qdR (by kernel_rfl) fun a y hg h=>⟨0,9,0,(qz8 0 a.1 a.2.1 a.2.2).trans h⟩
theorem qz9 (fu:Nat)  (a:Int) (b:Int) (mode:Int):qx tb qdQ (shN tb qdQ fu 9) fu 179 ((dc (cI .u64) (dc (cI .u64) (d1 (cI .u8)))).enc (a,b,mode)) ((dc (cI .u64) (d1 (cI .u8)))).dec=qtO a b mode:=by kernel_rfl
def qvU:PrimD:=prim (dc (cI .u64) (dc (cI .u64) (d1 (cI .u8)))) (dc (cI .u64) (d1 (cI .u8))) (fun a=>qtO a.1 a.2.1 a.2.2)
theorem qED:OkT 179 qvU:=qi qz qdR (by kernel_rfl) fun a y hg h=>⟨0,9,0,(qz9 0 a.1 a.2.1 a.2.2).trans h⟩
def ZZ:qq:=qX [(174,qvT),(179,qvU)] qdQ
theorem Zw:PkT ZZ:=qm qdR (qf qEC (qf qED qr))
end
end Su
end
section
namespace Su
noncomputable section
open Go Go.Proofs Fly
set_option maxRecDepth 100000
theorem qAa (fu:Nat)  (a:Int) (b:Int) (mode:Int):qx tb ZZ (shN tb ZZ fu 9) fu 114 ((dc (cI .u64) (dc (cI .u64) (d1 (cI .u8)))).enc (a,b,mode)) ((d1 (cI .u64))).dec=qDh a b mode:=by kernel_rfl
def qvV:PrimD:=prim (dc (cI .u64) (dc (cI .u64) (d1 (cI .u8)))) (d1 (cI .u64)) (qi9)
theorem qvW:OkT 114 qvV:=qi qz Zw (by kernel_rfl) fun a y hg h=>⟨0,9,0,(qAa 0 a.1 a.2.1 a.2.2).trans (qys a y hg h)⟩
theorem qAb (fu:Nat)  (a:Int) (b:Int) (mode:Int):qx tb ZZ (shN tb ZZ fu 9) fu 121 ((dc (cI .u64) (dc (cI .u64) (d1 (cI .u8)))).enc (a,b,mode)) ((d1 (cI .u64))).dec=qDi a b mode:=by kernel_rfl
def qvX:PrimD:=prim (dc (cI .u64) (dc (cI .u64) (d1 (cI .u8)))) (d1 (cI .u64)) (qja)
theorem qvY:OkT 121 qvX:=qi qz Zw (by kernel_rfl) fun a y hg h=>⟨0,9,0,(qAb 0 a.1 a.2.1 a.2.2).trans (qyt a y hg h)⟩
theorem qEE (fu:Nat) (l:(List Int)):qx tb ZZ (shN tb ZZ fu 9) fu 112 ((d1 (cQ 2 1)).enc (l)) ((d1 (cI .u64))).dec=aUp fu l:=by kernel_rfl
def qBH:PrimD:=prim (d1 (cQ 2 1)) (d1 (cI .u64)) (qoQ)
theorem qBI:OkT 112 qBH:=qi qz Zw (by kernel_rfl) fun a y hg h=>by
 obtain ⟨n,hn⟩:=qDj a y hg h
 exact ⟨n,9,n,(qEE n a).trans hn⟩
def qbQ:qq:=qX [(114,qvV),(121,qvX),(112,qBH)] ZZ
theorem qbd:PkT qbQ:=qm Zw (qf qvW (qf qvY (qf qBI qr)))
end
end Su
end
section
namespace Su
noncomputable section
open Go Go.Proofs Fly
set_option maxRecDepth 100000
theorem qAc (fu:Nat) (l:(List Tm)) (u:Unit):qoh tb qbQ fu 9 175 (0,103) ((dc qiQ (d1 (cF 176))).enc (l,u)) ((d1 ZJ)).dec=qDk fu l u:=by kernel_rfl
theorem qvZ (fu:Nat) (l:(List Tm)) (u:Unit):qx tb qbQ (shN tb qbQ fu 9) fu 175 ((dc ZJ (d1 (cF 176))).enc (l,u)) ((d1 ZJ)).dec=qtS fu l u:=by kernel_rfl
theorem qv0 (fu:Nat) (l:(List Tm)) (u:Unit):qx tb qbQ (shN tb qbQ fu 9) fu 177 ((dc ZJ (d1 (cF 178))).enc (l,u)) ((d1 cB)).dec=qtT fu l u:=by kernel_rfl
def qjN:PrimD:=prim (dc ZJ (d1 (cF 178))) (d1 cB) (qoT)
theorem qpH:OkT 177 qjN:=qi qz qbd (by kernel_rfl) fun a y hg h=>by
 obtain ⟨n,hn⟩:=qtU a y hg h
 exact ⟨n,9,n,(qv0 n a.1 a.2).trans hn⟩
theorem qAd:OkT 175 (qhk (0,103) (dc qiQ (d1 (cF 176))) (d1 ZJ) (qm6)):=qkU qz qbd (by kernel_rfl) (exc qAX (ex1 (exFn 176))) qFs fun a y hg h=>by
 obtain ⟨n,hn⟩:=qyw a y hg h
 exact ⟨n,9,(qAc n a.1 a.2).trans hn⟩
def qnB:PrimD:=qiM (0,103) (dc qiQ (d1 (cF 176))) (d1 ZJ) (qm6) (dc ZJ (d1 (cF 176))) qoU
theorem qv1:OkT 175 qnB:=qhl qz qbd qAd fun a y hg h=>by
 obtain ⟨n,hn⟩:=qtV a y hg h
 exact ⟨n,9,n,(qvZ n a.1 a.2).trans hn⟩
def qbR:qq:=qX [(175,qnB),(177,qjN)] qbQ
theorem qbe:PkT qbR:=qm qbd (qf qv1 (qf qpH qr))
end
end Su
end
section
namespace Su
noncomputable section
open Go Go.Proofs Fly
set_option maxRecDepth 100000
theorem qv2 (fu:Nat)  (a:Fm):qoh tb qbR fu 9 117 (2,103) ((d1 qfV).enc (a)) ((d1 qu)).dec=qtW a:=by kernel_rfl
theorem qq5 (fu:Nat)  (a:Fm):qx tb qbR (shN tb qbR fu 9) fu 117 ((d1 qu).enc (a)) ((d1 qu)).dec=qm8 a:=by kernel_rfl
theorem qAe (fu:Nat) (a:Fm):qx tb qbR (shN tb qbR fu 9) fu 39 ((d1 qu).enc (a)) ((d1 cB)).dec=qDl fu a:=by kernel_rfl
def qv3:PrimD:=prim (d1 qu) (d1 cB) (qtY)
theorem qEF:OkT 39 qv3:=qi qz qbe (by kernel_rfl) fun a y hg h=>by
 obtain ⟨n,hn⟩:=qyx a y hg h
 exact ⟨n,9,n,(qAe n a).trans hn⟩
theorem qv4:OkT 117 (qhk (2,103) (d1 qfV) (d1 qu) (qje)):=qkU qz qbe (by kernel_rfl) exF4 hnA fun a y hg h=>⟨0,9,(qv2 0 a).trans (qtX a y hg h)⟩
def qpI:PrimD:=qiM (2,103) (d1 qfV) (d1 qu) (qje) (d1 qu) qln
theorem qpJ:OkT 117 qpI:=qhl qz qbe qv4 fun a y hg h=>⟨0,9,0,(qq5 0 a).trans (qqE a y hg h)⟩
def qjO:qq:=qX [(117,qpI),(39,qv3)] qbR
theorem qhW:PkT qjO:=qm qbe (qf qpJ (qf qEF qr))
end
end Su
end
section
namespace Su
noncomputable section
open Go Go.Proofs Fly
set_option maxRecDepth 100000
theorem qq6 (fu:Nat) (l:(List Fm)):qx tb qjO (shN tb qjO fu 9) fu 110 ((d1 qCv).enc (l)) ((d1 cB)).dec=qna fu l:=by kernel_rfl
def ql2:PrimD:=prim (d1 qCv) (d1 cB) (qlo)
theorem qv5:OkT 110 ql2:=qi qz qhW (by kernel_rfl) fun a y hg h=>by
 obtain ⟨n,hn⟩:=qqF a y hg h
 exact ⟨n,9,n,(qq6 n a).trans hn⟩
def qdS:qq:=qX [(110,ql2)] qjO
theorem qdT:PkT qdS:=qm qhW (qf qv5 qr)
end
end Su
end
section
namespace Su
noncomputable section
open Go Go.Proofs Fly
set_option maxRecDepth 100000
theorem qAf (fu:Nat) (a:Fm):qx tb qdS (shN tb qdS fu 9) fu 47 ((d1 qu).enc (a)) ((d1 qu)).dec=qDm fu a:=by kernel_rfl
def qv6:PrimD:=prim (d1 qu) (d1 qu) (qjf)
theorem qEG:OkT 47 qv6:=qi qz qdT (by kernel_rfl) fun a y hg h=>by
 obtain ⟨n,hn⟩:=qyy a y hg h
 exact ⟨n,9,n,(qAf n a).trans hn⟩
theorem qq7 (fu:Nat)  (f:Int):qx tb qdS (shN tb qdS fu 9) fu 81 ((d1 (cI .u64)).enc (f)) ((d1 qu)).dec=qt0 f:=by kernel_rfl
def ql3:PrimD:=prim (d1 (cI .u64)) (d1 qu) (qlq)
theorem qv7:OkT 81 ql3:=qi qz qdT (by kernel_rfl) fun a y hg h=>⟨0,9,0,(qq7 0 a).trans (qqG a y hg h)⟩
def qv8:qq:=qX [(47,qv6),(81,ql3)] qdS
theorem qq8:PkT qv8:=qm qdT (qf qEG (qf qv7 qr))
end
end Su
end
section
namespace Su
open Go Go.Proofs Fly
set_option maxRecDepth 100000
noncomputable def qe7:qq:=qX [] qv8
theorem qgo:PkT qe7:=qm qq8 qr
end Su
end
section
namespace Su
noncomputable section
open Go Go.Proofs Fly
set_option maxRecDepth 100000
theorem qAg (fu:Nat) (a:Fm) (b:Fm):qx tb qe7 (shN tb qe7 fu 9) fu 42 ((dc qu (d1 qu)).enc (a,b)) ((d1 qu)).dec=qDn fu a b:=by kernel_rfl
def qv9:PrimD:=prim (dc qu (d1 qu)) (d1 qu) (qjg)
theorem qEH:OkT 42 qv9:=qi qz qgo (by kernel_rfl) fun a y hg h=>by
 obtain ⟨n,hn⟩:=qyz a y hg h
 exact ⟨n,9,n,(qAg n a.1 a.2).trans hn⟩
def qjP:qq:=qX [(42,qv9)] qe7
theorem qhX:PkT qjP:=qm qgo (qf qEH qr)
end
end Su
end
section
namespace Su
noncomputable section
open Go Go.Proofs Fly
set_option maxRecDepth 100000
theorem qAh (fu:Nat)  (a:Fm) (b:Fm):qx tb qjP (shN tb qjP fu 9) fu 44 ((dc qu (d1 qu)).enc (a,b)) ((d1 qu)).dec=qDo a b:=by kernel_rfl
def qwa:PrimD:=prim (dc qu (d1 qu)) (d1 qu) (qt5)
theorem qEI:OkT 44 qwa:=qi qz qhX (by kernel_rfl) fun a y hg h=>⟨0,9,0,(qAh 0 a.1 a.2).trans (qyA a y hg h)⟩
def qjQ:qq:=qX [(44,qwa)] qjP
theorem qhY:PkT qjQ:=qm qhX (qf qEI qr)
end
end Su
end
section
namespace Su
noncomputable section
open Go Go.Proofs Fly
set_option maxRecDepth 100000
theorem qAi (fu:Nat)  (a:Int) (b:Int):qx tb qjQ (shN tb qjQ fu 9) fu 129 ((dc (cI .u64) (d1 (cI .u64))).enc (a,b)) ((d1 cB)).dec=qDp a b:=by kernel_rfl
def qnC:PrimD:=prim (dc (cI .u64) (d1 (cI .u64))) (d1 cB) (qt6)
theorem qwb:OkT 129 qnC:=qi qz qhY (by kernel_rfl) fun a y hg h=>⟨0,9,0,(qAi 0 a.1 a.2).trans (qyB a y hg h)⟩
def qjR:qq:=qX [(129,qnC)] qjQ
theorem qhZ:PkT qjR:=qm qhY (qf qwb qr)
end
end Su
end
section
namespace Su
noncomputable section
open Go Go.Proofs Fly
set_option maxRecDepth 100000
theorem qq9 (fu:Nat) (s:(Bool×(Int×Int))):qx tb qjR (shN tb qjR fu 9) fu 128 ((d1 Yv).enc (s)) ((d1 Yv)).dec=qnc fu s:=by kernel_rfl
def qgp:PrimD:=prim (d1 Yv) (d1 Yv) (qlu)
theorem ql4:OkT 128 qgp:=qi qz qhZ (by kernel_rfl) fun a y hg h=>by
 obtain ⟨n,hn⟩:=qqH a y hg h
 exact ⟨n,9,n,(qq9 n a).trans hn⟩
def qjS:qq:=qX [(128,qgp)] qjR
theorem qh0:PkT qjS:=qm qhZ (qf ql4 qr)
end
end Su
end
section
namespace Su
noncomputable section
open Go Go.Proofs Fly
set_option maxRecDepth 100000
theorem qAj (fu:Nat) (a:Fm):qx tb qjS (shN tb qjS fu 9) fu 104 ((d1 qu).enc (a)) ((d1 (cI .u64))).dec=qDq fu a:=by kernel_rfl
def qwc:PrimD:=prim (d1 qu) (d1 (cI .u64)) (qdo)
theorem qEJ:OkT 104 qwc:=qi qz qh0 (by kernel_rfl) fun a y hg h=>by
 obtain ⟨n,hn⟩:=qyC a y hg h
 exact ⟨n,9,n,(qAj n a).trans hn⟩
def qdU:qq:=qX [(104,qwc)] qjS
theorem qdV:PkT qdU:=qm qh0 (qf qEJ qr)
end
end Su
end
section
namespace Su
noncomputable section
open Go Go.Proofs Fly
set_option maxRecDepth 100000
theorem qwd (fu:Nat)  (a:Fm):qx tb qdU (shN tb qdU fu 9) fu 120 ((d1 qu).enc (a)) ((d1 (cI .u64))).dec=qt7 a:=by kernel_rfl
def qpK:PrimD:=prim (d1 qu) (d1 (cI .u64)) (JT)
theorem qAk:OkT 120 qpK:=qi qz qdV (by kernel_rfl) fun a y hg h=>⟨0,9,0,(qwd 0 a).trans (qt8 a y hg h)⟩
theorem qAl (fu:Nat)  (a:Int) (b:Int):qx tb qdU (shN tb qdU fu 9) fu 126 ((dc (cI .u64) (d1 (cI .u64))).enc (a,b)) ((d1 (cI .u64))).dec=aMid a b:=by kernel_rfl
def qwe:PrimD:=prim (dc (cI .u64) (d1 (cI .u64))) (d1 (cI .u64)) (qt9)
theorem qEK:OkT 126 qwe:=qi qz qdV (by kernel_rfl) fun a y hg h=>⟨0,9,0,(qAl 0 a.1 a.2).trans (qyD a y hg h)⟩
def qjT:qq:=qX [(120,qpK),(126,qwe)] qdU
theorem qh1:PkT qjT:=qm qdV (qf qAk (qf qEK qr))
end
end Su
end
section
namespace Su
noncomputable section
open Go Go.Proofs Fly
set_option maxRecDepth 100000
theorem qwf (fu:Nat) (a:Fm) (b:Fm):qx tb qjT (shN tb qjT fu 9) fu 45 ((dc qu (d1 qu)).enc (a,b)) ((d1 qu)).dec=qua fu a b:=by kernel_rfl
def qpL:PrimD:=prim (dc qu (d1 qu)) (d1 qu) (qoV)
theorem qAm:OkT 45 qpL:=qi qz qh1 (by kernel_rfl) fun a y hg h=>by
 obtain ⟨n,hn⟩:=qud a y hg h
 exact ⟨n,9,n,(qwf n a.1 a.2).trans hn⟩
def qjU:qq:=qX [(45,qpL)] qjT
theorem qh2:PkT qjU:=qm qh1 (qf qAm qr)
end
end Su
end
section
namespace Su
noncomputable section
open Go Go.Proofs Fly
set_option maxRecDepth 100000
theorem qwg (fu:Nat)  (a:Fm):qx tb qjU (shN tb qjU fu 9) fu 50 ((d1 qu).enc (a)) ((d1 Yv)).dec=que a:=by kernel_rfl
def qpM:PrimD:=prim (d1 qu) (d1 Yv) (Ql)
theorem qAn:OkT 50 qpM:=qi qz qh2 (by kernel_rfl) fun a y hg h=>⟨0,9,0,(qwg 0 a).trans (quf a y hg h)⟩
def qwh:qq:=qX [(50,qpM)] qjU
theorem qra:PkT qwh:=qm qh2 (qf qAn qr)
end
end Su
end
section
namespace Fly
open Go Go.Proofs Su
set_option maxRecDepth 10000
noncomputable def tb:Tabs Tryz.prog:=Su.qlQ.sound.tb
section
variable {P:Program} {n:Nat} {X:Cx} {L:Lo} {V:qc} {G:Own} {Q:Value→qc→Own→Prop}
variable {ty:TypeId} {pos:String} {af:Array Edge} {gd:Option (Nat×Bool)} {ds:Option Tmp}
theorem ql5 {t e:TypeId} {a:Option Addr} {len cap:Nat} (hu:P.underlying t=some (.slice e)) (w:World):(Op.equal t (.slice a len cap) (.slice none 0 0)).run P w = .ok a.isNone w:=by
 show (Op.equalIn (9999+1) t (.slice a len cap) (.slice none 0 0)).run P w=_
 unfold Op.equalIn
 rw [Sem.run_bind,run_underlying hu]
 cases a <;> rfl
theorem qjV {t u e:TypeId} {x y:Operand} {a:Option Addr} {len cap:Nat} (hx:ev L x=some (.slice a len cap)) (hy:ev L y=some (.slice none 0 0)) (hu:P.underlying t=some (.slice e)) (k:Q (.bool a.isNone) V G) :
 Opr P n X L V G ⟨ds,.binOp .eql t x y u,ty,pos,af,gd⟩ Q:=qii hx hy rfl (fun w=>by simp [eqGuard]) (ql5 hu) k
end
attribute [local irreducible] WC WE WR Opr St Go.Calls qrl qwL qgP Rel yq qAT qwM Owe One qj3 Go.CallsD
theorem c53n {V:qc} {len cap:Nat} {Q:Value→qc→Own→Prop} (hQ:Q (.slice none 0 0) V []):yq Tryz.prog 133 #[.slice none len cap] V [] Q:=by
 refine yJ (args:=[_]) Tryz.func133 rfl Tryz.ntmps133 rfl ?_
 intro X w hM hb hw hV0 hR;dsimp only [Zy,Nat.zero_add,Nat.reduceAdd]
 (repeat' (first | refine J1 ?_ | refine j8 ?_ | refine J4 ?_ | refine QJ ?_ | refine yH ?_ | refine QH ?_ | refine J3 ?_ | refine QI ?_ | refine qQ ?_ | refine qK ?_ | refine jD rfl ?_ | refine jl ?_ | refine J2 ?_ | ((first | refine QK rfl ?_ | refine Jg ?_ | refine qbh rfl rfl rfl ?_);(first | (refine qjV (e:=103) rfl rfl (by kernel_rfl) ?_) | refine QL rfl ?_ | refine j9 rfl ?_ | refine J7 rfl rfl ?_ | refine J8 rfl rfl ?_ | refine J9 rfl rfl ?_ | refine Ya rfl rfl ?_ | refine Yb rfl rfl ?_ | refine Yc rfl rfl ?_ | refine jE rfl rfl ?_ | refine Yf rfl ?_ | refine yd rfl rfl ?_ | refine ye rfl rfl ?_ | refine Jh rfl rfl (by omega) (by omega) ?_ | refine Ji rfl rfl (by omega) (by omega) ?_ | refine Jj rfl rfl (by omega) (by omega) ?_ | refine Jz rfl rfl ?_ | refine JA rfl rfl ?_ | refine JB rfl rfl ?_ | refine qF tb rfl rfl ?_ | refine jP tb rfl rfl rfl ?_ | refine J5 rfl rfl ?_ | refine qab rfl rfl ?_ | refine J6 rfl rfl ?_ | refine yc rfl rfl ?_ | refine Yd rfl rfl (by decide) ?_ | refine Ye rfl rfl (by decide) ?_ | refine Yl rfl rfl ?_ | refine QP rfl rfl ?_ | refine Jk rfl rfl (by kernel_rfl) ?_ | refine Qa rfl rfl (by kernel_rfl) ?_ | refine jF tb rfl rfl rfl ?_ | refine Yg rfl ?_ | refine yW tb rfl rfl rfl ?_ | (apply y5 tb rfl rfl;(· (first | (refine At.own (?_);repeat (first | exact Has.here | refine Has.there ?_)) | exact At.seen (by assumption)));(· exact rfl)) | (apply yI tb rfl rfl;(· (first | (refine At.own (?_);repeat (first | exact Has.here | refine Has.there ?_)) | exact At.seen (by assumption)));(· exact rfl)) | (apply yw tb rfl rfl rfl rfl rfl;(· (repeat (first | exact Upd.here | apply Upd.there)));(· exact rfl)) | (apply yx tb rfl rfl rfl rfl rfl;(· (repeat (first | exact Upd.here | apply Upd.there)));(· exact rfl)) | (apply yp tb (by kernel_rfl) rfl (rfl:tb.fo _ 0=_);(· (repeat (first | exact Fill.nil | (apply Fill.cons;(· exact rfl);(· exact rfl);(· exact rfl);(· exact rfl);(· exact rfl)))))) | (refine ym rfl ?_;intro b) | (refine Qg rfl rfl ?_;intro b) | (refine yo tb rfl ?_;intro b) | (apply qE tb;(· exact rfl);(· exact rfl);(· exact rfl);(· decide);(· (repeat (first | exact Cat.nil | (apply Cat.cons;(· exact rfl);(· exact rfl);(· exact rfl)) | exact App.nil | apply App.cons)));intro b))) | refine qgu rfl rfl rfl rfl ?_ | refine j4 rfl ?_ | refine j7 rfl ?_ | refine qbi rfl (fun _=>?_) (fun _=>?_) | refine YY rfl (fun _=>?_) (fun _=>?_) | refine y7 rfl rfl (fun _=>?_) (fun _=>?_) | refine y8 rfl rfl (fun _=>?_) (fun _=>?_) | refine Jl rfl (fun _=>?_) (fun _=>?_) | refine Y1 rfl (fun _=>?_) (fun _=>?_) | refine yy rfl rfl (fun _=>?_) (fun _=>?_) | refine Qb rfl rfl (fun _=>?_) (fun _=>?_)))
 exact Y9 hM hw hV0 hR [] (List.Sublist.refl _) (qpX rfl rfl) hQ
theorem c53e {V:qc} {a:Addr} {cap:Nat} {Q:Value→qc→Own→Prop} (hQ:∀ b,Q (.slice (some ⟨b,0,none⟩) 0 0) V [(b,.cells #[] 103 (0,0))]):yq Tryz.prog 133 #[.slice (some a) 0 cap] V [] Q:=by
 refine yJ (args:=[_]) Tryz.func133 rfl Tryz.ntmps133 rfl ?_
 intro X w hM hb hw hV0 hR;dsimp only [Zy,Nat.zero_add,Nat.reduceAdd]
 (repeat' (first | refine J1 ?_ | refine j8 ?_ | refine J4 ?_ | refine QJ ?_ | refine yH ?_ | refine QH ?_ | refine J3 ?_ | refine QI ?_ | refine qQ ?_ | refine qK ?_ | refine jD rfl ?_ | refine jl ?_ | refine J2 ?_ | ((first | refine QK rfl ?_ | refine Jg ?_ | refine qbh rfl rfl rfl ?_);(first | (refine qjV (e:=103) rfl rfl (by kernel_rfl) ?_) | refine QL rfl ?_ | refine j9 rfl ?_ | refine J7 rfl rfl ?_ | refine J8 rfl rfl ?_ | refine J9 rfl rfl ?_ | refine Ya rfl rfl ?_ | refine Yb rfl rfl ?_ | refine Yc rfl rfl ?_ | refine jE rfl rfl ?_ | refine Yf rfl ?_ | refine yd rfl rfl ?_ | refine ye rfl rfl ?_ | refine Jh rfl rfl (by omega) (by omega) ?_ | refine Ji rfl rfl (by omega) (by omega) ?_ | refine Jj rfl rfl (by omega) (by omega) ?_ | refine Jz rfl rfl ?_ | refine JA rfl rfl ?_ | refine JB rfl rfl ?_ | refine qF tb rfl rfl ?_ | refine jP tb rfl rfl rfl ?_ | refine J5 rfl rfl ?_ | refine qab rfl rfl ?_ | refine J6 rfl rfl ?_ | refine yc rfl rfl ?_ | refine Yd rfl rfl (by decide) ?_ | refine Ye rfl rfl (by decide) ?_ | refine Yl rfl rfl ?_ | refine QP rfl rfl ?_ | refine Jk rfl rfl (by kernel_rfl) ?_ | refine Qa rfl rfl (by kernel_rfl) ?_ | refine jF tb rfl rfl rfl ?_ | refine Yg rfl ?_ | refine yW tb rfl rfl rfl ?_ | (apply y5 tb rfl rfl;(· (first | (refine At.own (?_);repeat (first | exact Has.here | refine Has.there ?_)) | exact At.seen (by assumption)));(· exact rfl)) | (apply yI tb rfl rfl;(· (first | (refine At.own (?_);repeat (first | exact Has.here | refine Has.there ?_)) | exact At.seen (by assumption)));(· exact rfl)) | (apply yw tb rfl rfl rfl rfl rfl;(· (repeat (first | exact Upd.here | apply Upd.there)));(· exact rfl)) | (apply yx tb rfl rfl rfl rfl rfl;(· (repeat (first | exact Upd.here | apply Upd.there)));(· exact rfl)) | (apply yp tb (by kernel_rfl) rfl (rfl:tb.fo _ 0=_);(· (repeat (first | exact Fill.nil | (apply Fill.cons;(· exact rfl);(· exact rfl);(· exact rfl);(· exact rfl);(· exact rfl)))))) | (refine ym rfl ?_;intro b) | (refine Qg rfl rfl ?_;intro b) | (refine yo tb rfl ?_;intro b) | (apply qE tb;(· exact rfl);(· exact rfl);(· exact rfl);(· decide);(· (repeat (first | exact Cat.nil | (apply Cat.cons;(· exact rfl);(· exact rfl);(· exact rfl)) | exact App.nil | apply App.cons)));intro b))) | refine qgu rfl rfl rfl rfl ?_ | refine j4 rfl ?_ | refine j7 rfl ?_ | refine qbi rfl (fun _=>?_) (fun _=>?_) | refine YY rfl (fun _=>?_) (fun _=>?_) | refine y7 rfl rfl (fun _=>?_) (fun _=>?_) | refine y8 rfl rfl (fun _=>?_) (fun _=>?_) | refine Jl rfl (fun _=>?_) (fun _=>?_) | refine Y1 rfl (fun _=>?_) (fun _=>?_) | refine yy rfl rfl (fun _=>?_) (fun _=>?_) | refine Qb rfl rfl (fun _=>?_) (fun _=>?_)))
 refine QK rfl (ZF (e:=103) (k:=2) tb rfl rfl rfl (Nat.le_refl 0) ?_)
 (repeat' (first | refine J1 ?_ | refine j8 ?_ | refine J4 ?_ | refine QJ ?_ | refine yH ?_ | refine QH ?_ | refine J3 ?_ | refine QI ?_ | refine qQ ?_ | refine qK ?_ | refine jD rfl ?_ | refine jl ?_ | refine J2 ?_ | ((first | refine QK rfl ?_ | refine Jg ?_ | refine qbh rfl rfl rfl ?_);(first | refine QL rfl ?_ | refine j9 rfl ?_ | refine J7 rfl rfl ?_ | refine J8 rfl rfl ?_ | refine J9 rfl rfl ?_ | refine Ya rfl rfl ?_ | refine Yb rfl rfl ?_ | refine Yc rfl rfl ?_ | refine jE rfl rfl ?_ | refine Yf rfl ?_ | refine yd rfl rfl ?_ | refine ye rfl rfl ?_ | refine Jh rfl rfl (by omega) (by omega) ?_ | refine Ji rfl rfl (by omega) (by omega) ?_ | refine Jj rfl rfl (by omega) (by omega) ?_ | refine Jz rfl rfl ?_ | refine JA rfl rfl ?_ | refine JB rfl rfl ?_ | refine qF tb rfl rfl ?_ | refine jP tb rfl rfl rfl ?_ | refine J5 rfl rfl ?_ | refine qab rfl rfl ?_ | refine J6 rfl rfl ?_ | refine yc rfl rfl ?_ | refine Yd rfl rfl (by decide) ?_ | refine Ye rfl rfl (by decide) ?_ | refine Yl rfl rfl ?_ | refine QP rfl rfl ?_ | refine Jk rfl rfl (by kernel_rfl) ?_ | refine Qa rfl rfl (by kernel_rfl) ?_ | refine jF tb rfl rfl rfl ?_ | refine Yg rfl ?_ | refine yW tb rfl rfl rfl ?_ | (apply y5 tb rfl rfl;(· (first | (refine At.own (?_);repeat (first | exact Has.here | refine Has.there ?_)) | exact At.seen (by assumption)));(· exact rfl)) | (apply yI tb rfl rfl;(· (first | (refine At.own (?_);repeat (first | exact Has.here | refine Has.there ?_)) | exact At.seen (by assumption)));(· exact rfl)) | (apply yw tb rfl rfl rfl rfl rfl;(· (repeat (first | exact Upd.here | apply Upd.there)));(· exact rfl)) | (apply yx tb rfl rfl rfl rfl rfl;(· (repeat (first | exact Upd.here | apply Upd.there)));(· exact rfl)) | (apply yp tb (by kernel_rfl) rfl (rfl:tb.fo _ 0=_);(· (repeat (first | exact Fill.nil | (apply Fill.cons;(· exact rfl);(· exact rfl);(· exact rfl);(· exact rfl);(· exact rfl)))))) | (refine ym rfl ?_;intro b) | (refine Qg rfl rfl ?_;intro b) | (refine yo tb rfl ?_;intro b) | (apply qE tb;(· exact rfl);(· exact rfl);(· exact rfl);(· decide);(· (repeat (first | exact Cat.nil | (apply Cat.cons;(· exact rfl);(· exact rfl);(· exact rfl)) | exact App.nil | apply App.cons)));intro b))) | refine qgu rfl rfl rfl rfl ?_ | refine j4 rfl ?_ | refine j7 rfl ?_ | refine qbi rfl (fun _=>?_) (fun _=>?_) | refine YY rfl (fun _=>?_) (fun _=>?_) | refine y7 rfl rfl (fun _=>?_) (fun _=>?_) | refine y8 rfl rfl (fun _=>?_) (fun _=>?_) | refine Jl rfl (fun _=>?_) (fun _=>?_) | refine Y1 rfl (fun _=>?_) (fun _=>?_) | refine yy rfl rfl (fun _=>?_) (fun _=>?_) | refine Qb rfl rfl (fun _=>?_) (fun _=>?_)))
 exact Y9 hM hw hV0 hR [(b,.cells #[] 103 (0,0))] (List.Sublist.refl _) (qpX rfl rfl) (hQ b)
theorem c53s {V:qc} {bb off len cap:Nat} {news:List Value} {Q:Value→qc→Own→Prop} (hn:news.length=len*2) (h1:∀ u∈news,u.oneCell'=true) (hr:∀ (j:Nat) (u:Value),news[j]?=some u→rd V bb (off+j) u) (h0:0<len) (hl:len≤549755813888)
 (hQ:∀ v' Gr',RowC 103 2 v' Gr' len news→Q v' V Gr'):yq Tryz.prog 133 #[.slice (some ⟨bb,off,none⟩) len cap] V [] Q:=by
 refine yJ (args:=[_]) Tryz.func133 rfl Tryz.ntmps133 rfl ?_
 intro X w hM hb hw hV0 hR;dsimp only [Zy,Nat.zero_add,Nat.reduceAdd]
 (repeat' (first | refine J1 ?_ | refine j8 ?_ | refine J4 ?_ | refine QJ ?_ | refine yH ?_ | refine QH ?_ | refine J3 ?_ | refine QI ?_ | refine qQ ?_ | refine qK ?_ | refine jD rfl ?_ | refine jl ?_ | refine J2 ?_ | ((first | refine QK rfl ?_ | refine Jg ?_ | refine qbh rfl rfl rfl ?_);(first | (refine qjV (e:=103) rfl rfl (by kernel_rfl) ?_) | refine QL rfl ?_ | refine j9 rfl ?_ | refine J7 rfl rfl ?_ | refine J8 rfl rfl ?_ | refine J9 rfl rfl ?_ | refine Ya rfl rfl ?_ | refine Yb rfl rfl ?_ | refine Yc rfl rfl ?_ | refine jE rfl rfl ?_ | refine Yf rfl ?_ | refine yd rfl rfl ?_ | refine ye rfl rfl ?_ | refine Jh rfl rfl (by omega) (by omega) ?_ | refine Ji rfl rfl (by omega) (by omega) ?_ | refine Jj rfl rfl (by omega) (by omega) ?_ | refine Jz rfl rfl ?_ | refine JA rfl rfl ?_ | refine JB rfl rfl ?_ | refine qF tb rfl rfl ?_ | refine jP tb rfl rfl rfl ?_ | refine J5 rfl rfl ?_ | refine qab rfl rfl ?_ | refine J6 rfl rfl ?_ | refine yc rfl rfl ?_ | refine Yd rfl rfl (by decide) ?_ | refine Ye rfl rfl (by decide) ?_ | refine Yl rfl rfl ?_ | refine QP rfl rfl ?_ | refine Jk rfl rfl (by kernel_rfl) ?_ | refine Qa rfl rfl (by kernel_rfl) ?_ | refine jF tb rfl rfl rfl ?_ | refine Yg rfl ?_ | refine yW tb rfl rfl rfl ?_ | (apply y5 tb rfl rfl;(· (first | (refine At.own (?_);repeat (first | exact Has.here | refine Has.there ?_)) | exact At.seen (by assumption)));(· exact rfl)) | (apply yI tb rfl rfl;(· (first | (refine At.own (?_);repeat (first | exact Has.here | refine Has.there ?_)) | exact At.seen (by assumption)));(· exact rfl)) | (apply yw tb rfl rfl rfl rfl rfl;(· (repeat (first | exact Upd.here | apply Upd.there)));(· exact rfl)) | (apply yx tb rfl rfl rfl rfl rfl;(· (repeat (first | exact Upd.here | apply Upd.there)));(· exact rfl)) | (apply yp tb (by kernel_rfl) rfl (rfl:tb.fo _ 0=_);(· (repeat (first | exact Fill.nil | (apply Fill.cons;(· exact rfl);(· exact rfl);(· exact rfl);(· exact rfl);(· exact rfl)))))) | (refine ym rfl ?_;intro b) | (refine Qg rfl rfl ?_;intro b) | (refine yo tb rfl ?_;intro b) | (apply qE tb;(· exact rfl);(· exact rfl);(· exact rfl);(· decide);(· (repeat (first | exact Cat.nil | (apply Cat.cons;(· exact rfl);(· exact rfl);(· exact rfl)) | exact App.nil | apply App.cons)));intro b))) | refine qgu rfl rfl rfl rfl ?_ | refine j4 rfl ?_ | refine j7 rfl ?_ | refine qbi rfl (fun _=>?_) (fun _=>?_) | refine YY rfl (fun _=>?_) (fun _=>?_) | refine y7 rfl rfl (fun _=>?_) (fun _=>?_) | refine y8 rfl rfl (fun _=>?_) (fun _=>?_) | refine Jl rfl (fun _=>?_) (fun _=>?_) | refine Y1 rfl (fun _=>?_) (fun _=>?_) | refine yy rfl rfl (fun _=>?_) (fun _=>?_) | refine Qb rfl rfl (fun _=>?_) (fun _=>?_)))
 refine QK rfl (ZG (e:=103) (k:=2) (m:=0) (z:=[.int .i64 0,.int .u64 0]) (Gr:=[(b,.cells #[] 103 (0,0))]) (G1:=[]) (xs:=[]) (news:=news) tb rfl rfl rfl (Nat.le_of_ble_eq_true (by kernel_rfl)) rfl rfl (fun w hw j u hj=>?_) hn h1 (RowC.some (g:=b) (cur:=#[]) (Nat.le_refl 0) (Nat.le_refl 0) (by simp [maxLen]) rfl rfl) (List.Perm.refl _) h0 (by omega) fun v' Gr' hR'=>?_)
 · obtain ⟨arr,e,f0,q1,q2⟩:=hr j u hj
   rw [yZ,yS (hw.view _ _ q1)];exact q2
 · (repeat' (first | refine J1 ?_ | refine j8 ?_ | refine J4 ?_ | refine QJ ?_ | refine yH ?_ | refine QH ?_ | refine J3 ?_ | refine QI ?_ | refine qQ ?_ | refine qK ?_ | refine jD rfl ?_ | refine jl ?_ | refine J2 ?_ | ((first | refine QK rfl ?_ | refine Jg ?_ | refine qbh rfl rfl rfl ?_);(first | refine QL rfl ?_ | refine j9 rfl ?_ | refine J7 rfl rfl ?_ | refine J8 rfl rfl ?_ | refine J9 rfl rfl ?_ | refine Ya rfl rfl ?_ | refine Yb rfl rfl ?_ | refine Yc rfl rfl ?_ | refine jE rfl rfl ?_ | refine Yf rfl ?_ | refine yd rfl rfl ?_ | refine ye rfl rfl ?_ | refine Jh rfl rfl (by omega) (by omega) ?_ | refine Ji rfl rfl (by omega) (by omega) ?_ | refine Jj rfl rfl (by omega) (by omega) ?_ | refine Jz rfl rfl ?_ | refine JA rfl rfl ?_ | refine JB rfl rfl ?_ | refine qF tb rfl rfl ?_ | refine jP tb rfl rfl rfl ?_ | refine J5 rfl rfl ?_ | refine qab rfl rfl ?_ | refine J6 rfl rfl ?_ | refine yc rfl rfl ?_ | refine Yd rfl rfl (by decide) ?_ | refine Ye rfl rfl (by decide) ?_ | refine Yl rfl rfl ?_ | refine QP rfl rfl ?_ | refine Jk rfl rfl (by kernel_rfl) ?_ | refine Qa rfl rfl (by kernel_rfl) ?_ | refine jF tb rfl rfl rfl ?_ | refine Yg rfl ?_ | refine yW tb rfl rfl rfl ?_ | (apply y5 tb rfl rfl;(· (first | (refine At.own (?_);repeat (first | exact Has.here | refine Has.there ?_)) | exact At.seen (by assumption)));(· exact rfl)) | (apply yI tb rfl rfl;(· (first | (refine At.own (?_);repeat (first | exact Has.here | refine Has.there ?_)) | exact At.seen (by assumption)));(· exact rfl)) | (apply yw tb rfl rfl rfl rfl rfl;(· (repeat (first | exact Upd.here | apply Upd.there)));(· exact rfl)) | (apply yx tb rfl rfl rfl rfl rfl;(· (repeat (first | exact Upd.here | apply Upd.there)));(· exact rfl)) | (apply yp tb (by kernel_rfl) rfl (rfl:tb.fo _ 0=_);(· (repeat (first | exact Fill.nil | (apply Fill.cons;(· exact rfl);(· exact rfl);(· exact rfl);(· exact rfl);(· exact rfl)))))) | (refine ym rfl ?_;intro b) | (refine Qg rfl rfl ?_;intro b) | (refine yo tb rfl ?_;intro b) | (apply qE tb;(· exact rfl);(· exact rfl);(· exact rfl);(· decide);(· (repeat (first | exact Cat.nil | (apply Cat.cons;(· exact rfl);(· exact rfl);(· exact rfl)) | exact App.nil | apply App.cons)));intro b))) | refine qgu rfl rfl rfl rfl ?_ | refine j4 rfl ?_ | refine j7 rfl ?_ | refine qbi rfl (fun _=>?_) (fun _=>?_) | refine YY rfl (fun _=>?_) (fun _=>?_) | refine y7 rfl rfl (fun _=>?_) (fun _=>?_) | refine y8 rfl rfl (fun _=>?_) (fun _=>?_) | refine Jl rfl (fun _=>?_) (fun _=>?_) | refine Y1 rfl (fun _=>?_) (fun _=>?_) | refine yy rfl rfl (fun _=>?_) (fun _=>?_) | refine Qb rfl rfl (fun _=>?_) (fun _=>?_)))
   rw [List.append_nil]
   refine Y9 hM hw hV0 hR Gr' (List.Sublist.refl _) (qpX rfl rfl) (hQ _ _ ?_)
   rw [Nat.zero_add,List.nil_append] at hR'
   exact hR'
end Fly
namespace Su
open Go Go.Proofs Fly
theorem ql6 {P:Program} {f:Nat} {V:qc} {vs:List Value} {l:List T} {e w:Nat}
 (h:yq P f vs.toArray V [] fun v V' G'=>∃ ie,RepOB V' [ie] (.row false e w l) ie G'∧RepS V' [ie] (.osl 0 0 l.length) v):yq P f vs.toArray V [] fun v V' _=>∃ rvs,RepA V' [.sl w l] rvs∧v=YJ rvs:=by
 intro w0 hs hG hV hnd
 refine (h w0 hs hG hV hnd).mono ?_
 rintro ex w' ⟨v,V',G',rfl,hh,ie,m1,m2⟩
 have hsub:sub l 0 l.length=some l:=qhy l _ rfl
 have hz:toTs 64 ⟨[],[],[.row false e w l]⟩ [.osl 0 0 l.length]=some ([.sl w l],(St.mk [] [] [.row false e w l]).frow 0 w l):=by
  simp only [toTs,toT,List.getElem?_cons_zero,hsub,Option.bind_some]
 obtain ⟨V2,G2,g2,s2,r2,_⟩:=(yM (I:=[ie]) (L:=[]) 64).2 ⟨[],[],[.row false e w l]⟩ _ [.osl 0 0 l.length] _ hz V' G' [v] (.cons m2 .nil) ⟨⟨G'++[],.cons m1 .nil,by rw [List.append_nil]⟩,fun d sv hd _=>by simp [St.look] at hd⟩ ⟨fun p hp=>(hh.free p (by simp [hp])).2,by have:=hh.nodup;simpa using this⟩
 exact ⟨_,V2,G2,rfl,g2.holds _ _ hh,[v],r2,rfl⟩
noncomputable def qgq:PrimD:=⟨List Tm,fun xs=>((d1 ZJ).dec xs).bind fun l=>bif Jv l then some l else none,fun l=>[.sl 2 (l.map vT)],none,some (103,2),fun _=>none⟩
theorem qrb {V:qc} {v:Value} {l:List T} (hl:l.length≤549755813888) (h:Rep V (.sl 2 l) v) :
 yq Tryz.prog 133 #[v] V [] fun v' V' G'=>∃ ie,RepOB V' [ie] (.row false 103 2 l) ie G'∧RepS V' [ie] (.osl 0 0 l.length) v':=by
 cases h with | @sl _ _ vs a cap a1 a2 a3 a4 a5 a6 =>
 have hn:vs.length=l.length*2:=by rw [← a1.length,Qc a3]
 by_cases h0:l=[]
 · subst h0
   cases a with
   | none=>exact c53n ⟨.vrow,.vrow,.oslv rfl⟩
   | some a=>exact c53e fun b=>⟨.row b 2 0,.row (by simp) (by simp [maxLen]) (by simp) (by simpa using RepA.nil) (by simp) (by simp),by
    have:=RepS.osl (V:=V) (I:=[IE.row b 2 0]) (n:=0) (off:=0) (len:=0) (b:=b) (k:=2) (ct:=0) (cap:=0) rfl (by omega) (by simp [maxLen]) ⟨by simp,by simp⟩
    simpa using this⟩
 · have yG:0<l.length:=List.length_pos_iff.2 h0
   rcases a6 with a6 | ⟨b,off,rfl,a6⟩
   · exact absurd a6 h0
   · refine c53s hn (QS a1 a2) a6 yG hl fun v' Gr' hR=>?_
     obtain ⟨b',ct,cap,rfl,b1,b2,b3⟩:=qn7 (V:=V) (I:=[.row 0 0 0]) (l:=l) hR yG rfl a1 a2 a3
     refine ⟨.row b' 2 ct,b3.row_any,?_⟩
     have:=RepS.osl (V:=V) (I:=[IE.row b' 2 ct]) (n:=0) (off:=0) (len:=l.length) (b:=b') (k:=2) (ct:=ct) (cap:=cap) rfl (by omega) b2 ⟨b1.1,by omega⟩
     rw [Nat.zero_mul] at this
     exact this
theorem ql7 (xs:List T) (y:List Tm) (h:((d1 ZJ).dec xs).bind (fun l=>bif Jv l then some l else none)=some y) (V:qc) (vs:List Value) (hr:RepA V xs vs) :
 yq Tryz.prog 133 vs.toArray V [] fun v V' G'=>∃ ie,RepOB V' [ie] (.row false 103 2 (y.map vT)) ie G'∧RepS V' [ie] (.osl 0 0 (y.map vT).length) v:=by
 obtain ⟨l,h1,h2⟩:=osm h
 obtain ⟨h3,h4⟩:=qj h2
 have:=soi h4;subst this
 have hr2:=(d1 ZJ).rep h1 hr
 cases hr2 with | cons k1 k2=>cases k2 with | nil =>
 cases k1 with | ql k1 =>
 exact qrb (l:=l.map vT) (by have h5:(l.map (view 10)).length=l.length:=List.length_map ..;rw [show (List.map vT l).length=l.length from h5];exact Nat.le_of_ble_eq_true h3) k1
theorem ql8:OkT 133 qgq:=by
 refine ⟨by kernel_rfl,fun xs y h V vs _ hr=>ql6 (ql7 xs y h V vs hr),fun j hj xs y h V vs _ hr=>?_⟩
 have hj:some ((103,2):Nat×Nat)=some j:=hj
 simp only [Option.some.injEq] at hj;subst hj
 intro w0 a1 a2 a3 a4
 refine (ql7 xs y h V vs hr w0 a1 a2 a3 a4).mono ?_
 rintro e w' ⟨v,V',G',rfl,hh,ie,m1,m2⟩
 refine ⟨v,V',G',rfl,hh,fun w l he hw=>?_⟩
 have he:[T.sl 2 (y.map vT)]=[.sl w l]:=he
 simp only [List.cons.injEq,T.sl.injEq,and_true] at he
 obtain ⟨rfl,rfl⟩:=he
 exact ⟨ie,m1,m2⟩
end Su
end
section
namespace Su
noncomputable section
open Go Go.Proofs Fly
set_option maxRecDepth 100000
abbrev dFF:Dec (Int×(Int×Int)):=dc (cI .u64) (dc (cI .u64) (d1 (cI .u8)))
def qAo (n:Nat):Option Int:=Nat.rec (motive:=fun _=>Option Int) (some ((0:Nat):Int)) (fun m _=>some ((m+1:Nat):Int)) n
theorem qjW (n:Nat):qAo n=some (n:Int):=by cases n <;> rfl
def qwi (p:Int×(Int×Int)):Option Int:=qAo (YL p.1.toNat p.2.1.toNat p.2.2)
def qwj (p:Int×(Int×Int)):Option Int:=qAo (qqC p.1.toNat p.2.1.toNat p.2.2)
def upO (s:Nat):List Int→Nat
 | []=>s
 | x::l=>upO (YL s x.toNat 1) l
def qEL (l:List Int):Option Int:=qAo (upO 0 l)
def qwk (a:Fm):Fm:=bif (fI (nzI a.2.1)&&fI (nzI a.2.2.2))&&!((qP a.2.2.1).any fun t=>!fI t.c) then (a.1,(nzI a.2.1,(qP a.2.2.1,nzI a.2.2.2))) else qbK
theorem qwl:∀ (l:List Int) (s:Nat),upO s l=upS s l
 | [],s=>rfl
 | x::l,s=>by show upO (YL s x.toNat 1) l=upS (jL s x.toNat 1) l;rw [qwl l,ZV]
def qwm:PrimD:=prim dFF (d1 (cI .u64)) qwi
def qwn:PrimD:=prim dFF (d1 (cI .u64)) qwj
def qEM:PrimD:=prim (d1 (cQ 2 1)) (d1 (cI .u64)) qEL
def qnD:PrimD:=qiM (2,103) (d1 qfV) (d1 qu) (fun a=>some (qwk a)) (d1 qu) (fun a=>bif a.2.2.1.all fun t=>!zI t.c then some (qwk a) else none)
theorem qAp:OkT 114 qwm:=by
 have e:qwi=qi9:=by funext p;unfold qwi qi9;rw [ZV,qjW]
 unfold qwm;rw [e];exact qvW
theorem qAq:OkT 121 qwn:=by
 have e:qwj=qja:=by funext p;unfold qwj qja;rw [qi7,qjW]
 unfold qwn;rw [e];exact qvY
theorem qEN:OkT 112 qEM:=by
 have e:qEL=qoQ:=by funext l;unfold qEL qoQ;rw [qwl,qjW]
 unfold qEM;rw [e];exact qBI
theorem qwo:OkT 117 qnD:=by
 have e:qwk=qH:=by funext a;rw [Ju];rfl
 unfold qnD;rw [e];exact qpJ
def prB:qq:=qX [(114,qwm),(121,qwn),(112,qEM),(117,qnD),(133,qgq),(128,qgp),(129,qnC),(175,qnB),(177,qjN),(107,qnA),(106,qjK)] ZZ
theorem qEO:PkT prB:=qm Zw (qf qAp (qf qAq (qf qEN (qf qwo (qf ql8 (qf ql4 (qf qwb (qf qv1 (qf qpH (qf qvF (qf qpC qr)))))))))))
theorem ql9:qx tb prB (shN tb prB 60 9) 60 38 [] (d1 cB).dec=some true:=by kernel_rfl
def qh3:PrimD:=prim d0 (d1 cB) fun _=>some true
theorem qrc:OkT 38 qh3:=qi qz qEO (by kernel_rfl) fun a y hg h=>⟨60,9,60,ql9.trans h⟩
def qjX:qq:=qX [(38,qh3),(133,qgq)] qwh
theorem qh4:PkT qjX:=qm qra (qf qrc (qf ql8 qr))
end
end Su
end
section
namespace Su
noncomputable section
open Go Go.Proofs Fly
set_option maxRecDepth 100000
theorem qAr (fu:Nat)  (a:(Bool×((List Int)×(List Int)))) (b:(Bool×((List Int)×(List Int)))):qx tb qjX (shN tb qjX fu 9) fu 108 ((dc cRt (d1 cRt)).enc (a,b)) ((dc cRt (d1 (cI .i64)))).dec=qyZ a b:=by kernel_rfl
def qwp:PrimD:=prim (dc cRt (d1 cRt)) (dc cRt (d1 (cI .i64))) (qdu)
theorem qEP:OkT 108 qwp:=qi qz qh4 (by kernel_rfl) fun a y hg h=>⟨0,9,0,(qAr 0 a.1 a.2).trans (qy0 a y hg h)⟩
def qjY:qq:=qX [(108,qwp)] qjX
theorem qh5:PkT qjY:=qm qh4 (qf qEP qr)
end
end Su
end
section
namespace Su
noncomputable section
open Go Go.Proofs Fly
set_option maxRecDepth 100000
theorem qwq (fu:Nat)  (l:(List Int)) (id:Int):qx tb qjY (shN tb qjY fu 9) fu 170 ((dc (cQ 3 1) (d1 (cI .i64))).enc (l,id)) ((d1 cRt)).dec=qpb l id:=by kernel_rfl
def qpN:PrimD:=prim (dc (cQ 3 1) (d1 (cI .i64))) (d1 cRt) (qpc)
theorem qAs:OkT 170 qpN:=qi qz qh5 (by kernel_rfl) fun a y hg h=>⟨0,9,0,(qwq 0 a.1 a.2).trans (quE a y hg h)⟩
def qdW:qq:=qX [(170,qpN)] qjY
theorem qdX:PkT qdW:=qm qh5 (qf qAs qr)
end
end Su
end
section
namespace Su
noncomputable section
open Go Go.Proofs Fly
set_option maxRecDepth 100000
theorem qEQ (fu:Nat)  (r:(Bool×((List Int)×(List Int)))) (s:(Bool×(Int×Int))):qx tb qdW (shN tb qdW fu 9) fu 49 ((dc cRt (d1 Yv)).enc (r,s)) ((d1 cB)).dec=wit r s:=by kernel_rfl
def qBJ:PrimD:=prim (dc cRt (d1 Yv)) (d1 cB) (qaE)
theorem qF8:OkT 49 qBJ:=qi qz qdX (by kernel_rfl) fun a y hg h=>⟨0,9,0,(qEQ 0 a.1 a.2).trans (qDG a y hg h)⟩
theorem qAt (fu:Nat) (a:Fm) (l:(List Int)):qx tb qdW (shN tb qdW fu 9) fu 109 ((dc qu (d1 (cQ 3 1))).enc (a,l)) ((d1 cRt)).dec=qy1 fu a l:=by kernel_rfl
def qwr:PrimD:=prim (dc qu (d1 (cQ 3 1))) (d1 cRt) (qdw)
theorem qER:OkT 109 qwr:=qi qz qdX (by kernel_rfl) fun a y hg h=>by
 obtain ⟨n,hn⟩:=qy3 a y hg h
 exact ⟨n,9,n,(qAt n a.1 a.2).trans hn⟩
def qdY:qq:=qX [(49,qBJ),(109,qwr)] qdW
theorem qdZ:PkT qdY:=qm qdX (qf qF8 (qf qER qr))
end
end Su
end
section
namespace Su
noncomputable section
open Go Go.Proofs Fly
set_option maxRecDepth 100000
theorem qAu (fu:Nat)  (a:Fm) (l:(List Int)) (rest:Int):qx tb qdY (shN tb qdY fu 9) fu 40 ((dc qu (dc (cQ 3 1) (d1 (cI .i64)))).enc (a,l,rest)) ((d1 cRt)).dec=qy4 a l rest:=by kernel_rfl
def qws:PrimD:=prim (dc qu (dc (cQ 3 1) (d1 (cI .i64)))) (d1 cRt) (yY)
theorem qES:OkT 40 qws:=qi qz qdZ (by kernel_rfl) fun a y hg h=>⟨0,9,0,(qAu 0 a.1 a.2.1 a.2.2).trans (qy6 a y hg h)⟩
theorem qAv (fu:Nat)  (a:Fm) (l:(List Int)) (r:(Bool×((List Int)×(List Int)))):qx tb qdY (shN tb qdY fu 9) fu 41 ((dc qu (dc (cQ 3 1) (d1 cRt))).enc (a,l,r)) ((d1 cB)).dec=qy5 a l r:=by kernel_rfl
def qwt:PrimD:=prim (dc qu (dc (cQ 3 1) (d1 cRt))) (d1 cB) (qT)
theorem qET:OkT 41 qwt:=qi qz qdZ (by kernel_rfl) fun a y hg h=>⟨0,9,0,(qAv 0 a.1 a.2.1 a.2.2).trans (qy7 a y hg h)⟩
def qjZ:qq:=qX [(40,qws),(41,qwt)] qdY
theorem qh6:PkT qjZ:=qm qdZ (qf qES (qf qET qr))
end
end Su
end
section
namespace Su
noncomputable section
open Go Go.Proofs Fly
set_option maxRecDepth 100000
theorem qwu (fu:Nat)  (a:Fm) (e:Int):qx tb qjZ (shN tb qjZ fu 9) fu 55 ((dc qu (d1 (cI .u64))).enc (a,e)) ((d1 qu)).dec=quJ a e:=by kernel_rfl
def qpO:PrimD:=prim (dc qu (d1 (cI .u64))) (d1 qu) (JX)
theorem qAw:OkT 55 qpO:=qi qz qh6 (by kernel_rfl) fun a y hg h=>⟨0,9,0,(qwu 0 a.1 a.2).trans (quK a y hg h)⟩
def qwv:qq:=qX [(55,qpO)] qjZ
theorem qrd:PkT qwv:=qm qh6 (qf qAw qr)
end
end Su
end
section
namespace Su
noncomputable section
open Go Go.Proofs Fly
set_option maxRecDepth 100000
def nvr:PrimD:={ ρ:=Unit,g:=fun _=>none,enc:=fun _=>[] }
theorem qpP {f:Nat} (h:qlQ.sound.tb.go f=true):OkT f nvr :=
 ⟨h,⟨fun _ _ h=>absurd h (by unfold nvr;simp),fun _ hj=>absurd hj (by unfold nvr;simp)⟩⟩
def qww:PrimD:=nvr
def qwx:PrimD:=nvr
def qwy:PrimD:=nvr
def qwz:PrimD:=nvr
theorem qEU:OkT 211 qww:=qpP (by kernel_rfl)
theorem qEV:OkT 212 qwx:=qpP (by kernel_rfl)
theorem qEW:OkT 213 qwy:=qpP (by kernel_rfl)
theorem qEX:OkT 214 qwz:=qpP (by kernel_rfl)
def qbf:qq:=qX [(211,qww),(212,qwx),(213,qwy),(214,qwz)] qwv
theorem qbS:PkT qbf:=qm qrd (qf qEU (qf qEV (qf qEW (qf qEX qr))))
end
end Su
end
section
namespace Su
noncomputable section
open Go Go.Proofs Fly
set_option maxRecDepth 100000
theorem qwA (fu:Nat) (s:(Bool×(Int×Int))) (id:Int):qx tb qbf (shN tb qbf fu 9) fu 51 ((dc Yv (d1 (cI .i64))).enc (s,id)) ((d1 qu)).dec=quO fu s id:=by kernel_rfl
def qpQ:PrimD:=prim (dc Yv (d1 (cI .i64))) (d1 qu) (qpf)
theorem qAx:OkT 51 qpQ:=qi qz qbS (by kernel_rfl) fun a y hg h=>by
 obtain ⟨n,hn⟩:=quR a y hg h
 exact ⟨n,9,n,(qwA n a.1 a.2).trans hn⟩
theorem qEY (fu:Nat)  (a:(Bool×(Int×Int))) (b:(Bool×(Int×Int))):qx tb qbf (shN tb qbf fu 9) fu 52 ((dc Yv (d1 Yv)).enc (a,b)) ((d1 cB)).dec=zIn a b:=by kernel_rfl
def qBK:PrimD:=prim (dc Yv (d1 Yv)) (d1 cB) (qBn)
theorem qF9:OkT 52 qBK:=qi qz qbS (by kernel_rfl) fun a y hg h=>⟨0,9,0,(qEY 0 a.1 a.2).trans (qDH a y hg h)⟩
def qj0:qq:=qX [(51,qpQ),(52,qBK)] qbf
theorem qh7:PkT qj0:=qm qbS (qf qAx (qf qF9 qr))
end
end Su
end
section
namespace Su
noncomputable section
open Go Go.Proofs Fly
set_option maxRecDepth 100000
theorem qAy (fu:Nat) (a:Fm) (most:Int):qx tb qj0 (shN tb qj0 fu 9) fu 54 ((dc qu (d1 (cI .i64))).enc (a,most)) ((d1 qu)).dec=qqR fu a most:=by kernel_rfl
def qwB:PrimD:=prim (dc qu (d1 (cI .i64))) (d1 qu) (ZX)
theorem qEZ:OkT 54 qwB:=qi qz qh7 (by kernel_rfl) fun a y hg h=>by
 obtain ⟨n,hn⟩:=qzi a y hg h
 exact ⟨n,9,n,(qAy n a.1 a.2).trans hn⟩
def qj1:qq:=qX [(54,qwB)] qj0
theorem qh8:PkT qj1:=qm qh7 (qf qEZ qr)
end
end Su
end
section
namespace Su
noncomputable section
open Go Go.Proofs Fly
set_option maxRecDepth 100000
theorem qAz (fu:Nat) (a:Fm) (j:Fm):qx tb qj1 (shN tb qj1 fu 9) fu 132 ((dc qu (d1 qu)).enc (a,j)) ((d1 (cI .u64))).dec=qzj fu a j:=by kernel_rfl
def qwC:PrimD:=prim (dc qu (d1 qu)) (d1 (cI .u64)) (quT)
theorem qE0:OkT 132 qwC:=qi qz qh8 (by kernel_rfl) fun a y hg h=>by
 obtain ⟨n,hn⟩:=qzk a y hg h
 exact ⟨n,9,n,(qAz n a.1 a.2).trans hn⟩
def qj2:qq:=qX [(132,qwC)] qj1
theorem qh9:PkT qj2:=qm qh8 (qf qE0 qr)
end
end Su
end
