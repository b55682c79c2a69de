/-
  What functions of the program compute, in plain Lean, and that the evaluator finds it.
-/
import Derived.Test.YtfckjjffdfkelaaGreatSuSd
import Derived.Test.YtfckjjffdfkelaaGreatNB25
import Derived.Test.YtfckjjffdfkelaaGreatNB10
import Derived.Test.YtfckjjffdfkelaaGreatNC14
set_option maxRecDepth 10000
section
namespace Su
open Go Fly
set_option linter.unusedVariables false
noncomputable section
abbrev qdb:=(Int×((List Su.Cc)×((List Su.T)×((List Su.T)×((List Su.T)×((List Su.T)×(Int×(Bool×(Bool×(Int×(Int×((List Su.Ce)×(Int×((List Su.Cc)×((List Su.T)×((List Su.T)×((List Su.T)×((List Su.T)×(Int×((List Su.Ce)×(Int×(Int×((List Su.T)×(Bool×(Bool×(Int×(Int×(Nat×((List Su.T)×(Bool×(Bool×(Int×(Int×(Nat×Unit))))))))))))))))))))))))))))))))))
def qcf:qdb→Option (qdb ⊕ (Lp qdb (Bool×(Bool×(Int×(Int×(List Su.Ce))))))):=fun p0=>(bif (decide ((p0.2.2.2.2.2.2.2.2.2.2.2.2.2.2.2.2.2.2.2.2.2.1<p0.2.2.2.2.2.2.2.2.2.2.2.2.2.2.2.2.2.2.2.2.1))) then
 ((Su.idx p0.2.2.2.2.2.2.2.2.2.2.2.2.2.2.2.2.2.2.2.1 p0.2.2.2.2.2.2.2.2.2.2.2.2.2.2.2.2.2.2.2.2.2.1)).bind fun x1 =>
 ((Su.idx p0.2.2.2.2.2.2.2.2.2.2.2.2.2.1 p0.2.2.2.2.2.2.2.2.2.2.2.2.2.2.2.2.2.2.2.2.2.1)).bind fun x2 =>
 ((Su.idx p0.2.1 p0.2.2.2.2.2.2.2.2.2.2.2.2.2.2.2.2.2.2.2.2.2.1)).bind fun x3 =>
 (bif (decide (((Su.Cc.type x3)=2))) then
 ((Su.Z6 x1.8)).bind fun x4 =>
 (bif (Su.qT (Su.qq (Su.Ce.mk (Su.Ce.f x1) (Su.Ce.t x1) (Su.Jz x1.3 (x1.4,x1.5) (p0.2.2.2.2.2.2.2.2.1,(p0.2.2.2.2.2.2.2.2.2.1,p0.2.2.2.2.2.2.2.2.2.2.1))) (Su.qap (x1.4,x1.5) (Su.yG (Su.Jz x1.3 (x1.4,x1.5) (p0.2.2.2.2.2.2.2.2.1,(p0.2.2.2.2.2.2.2.2.2.1,p0.2.2.2.2.2.2.2.2.2.2.1))) (p0.2.2.2.2.2.2.2.2.1,(p0.2.2.2.2.2.2.2.2.2.1,p0.2.2.2.2.2.2.2.2.2.2.1)))).1 (Su.qap (x1.4,x1.5) (Su.yG (Su.Jz x1.3 (x1.4,x1.5) (p0.2.2.2.2.2.2.2.2.1,(p0.2.2.2.2.2.2.2.2.2.1,p0.2.2.2.2.2.2.2.2.2.2.1))) (p0.2.2.2.2.2.2.2.2.1,(p0.2.2.2.2.2.2.2.2.2.1,p0.2.2.2.2.2.2.2.2.2.2.1)))).2 (Su.Jp x1.6 x4) (Su.Ce.sl x1) x1.8) (Su.Cc.type x2)) (Su.Cc.type x2)) then
 some (.inr (.ret (true,(false,((0:Int),((0:Int),[]))))))
 else
  (bif ((true&&(Nat.beq p0.2.2.2.2.2.2.2.2.2.2.2.2.2.2.2.2.2.2.2.2.2.2.2.2.2.2.2.2.2.2.2.2.2.1 (List.length p0.2.2.2.2.2.2.2.2.2.2.2.2.2.2.2.2.2.2.2.2.2.2.2.2.2.2.2.2.1)))&&(Nat.ble ((List.length p0.2.2.2.2.2.2.2.2.2.2.2.2.2.2.2.2.2.2.2.2.2.2.2.2.2.2.2.2.1)+(List.length [(Su.view 14 (Su.qq (Su.Ce.mk (Su.Ce.f x1) (Su.Ce.t x1) (Su.Jz x1.3 (x1.4,x1.5) (p0.2.2.2.2.2.2.2.2.1,(p0.2.2.2.2.2.2.2.2.2.1,p0.2.2.2.2.2.2.2.2.2.2.1))) (Su.qap (x1.4,x1.5) (Su.yG (Su.Jz x1.3 (x1.4,x1.5) (p0.2.2.2.2.2.2.2.2.1,(p0.2.2.2.2.2.2.2.2.2.1,p0.2.2.2.2.2.2.2.2.2.2.1))) (p0.2.2.2.2.2.2.2.2.1,(p0.2.2.2.2.2.2.2.2.2.1,p0.2.2.2.2.2.2.2.2.2.2.1)))).1 (Su.qap (x1.4,x1.5) (Su.yG (Su.Jz x1.3 (x1.4,x1.5) (p0.2.2.2.2.2.2.2.2.1,(p0.2.2.2.2.2.2.2.2.2.1,p0.2.2.2.2.2.2.2.2.2.2.1))) (p0.2.2.2.2.2.2.2.2.1,(p0.2.2.2.2.2.2.2.2.2.1,p0.2.2.2.2.2.2.2.2.2.2.1)))).2 (Su.Jp x1.6 x4) (Su.Ce.sl x1) x1.8) (Su.Cc.type x2)))])) 549755813888)) then
  some (.inl (p0.1,(p0.2.1,(p0.2.2.1,(p0.2.2.2.1,(p0.2.2.2.2.1,(p0.2.2.2.2.2.1,(p0.2.2.2.2.2.2.1,(p0.2.2.2.2.2.2.2.1,(p0.2.2.2.2.2.2.2.2.1,(p0.2.2.2.2.2.2.2.2.2.1,(p0.2.2.2.2.2.2.2.2.2.2.1,(p0.2.2.2.2.2.2.2.2.2.2.2.1,(p0.2.2.2.2.2.2.2.2.2.2.2.2.1,(p0.2.2.2.2.2.2.2.2.2.2.2.2.2.1,(p0.2.2.2.2.2.2.2.2.2.2.2.2.2.2.1,(p0.2.2.2.2.2.2.2.2.2.2.2.2.2.2.2.1,(p0.2.2.2.2.2.2.2.2.2.2.2.2.2.2.2.2.1,(p0.2.2.2.2.2.2.2.2.2.2.2.2.2.2.2.2.2.1,(p0.2.2.2.2.2.2.2.2.2.2.2.2.2.2.2.2.2.2.1,(p0.2.2.2.2.2.2.2.2.2.2.2.2.2.2.2.2.2.2.2.1,(p0.2.2.2.2.2.2.2.2.2.2.2.2.2.2.2.2.2.2.2.2.1,((Go.IntKind.wrap .i64 (p0.2.2.2.2.2.2.2.2.2.2.2.2.2.2.2.2.2.2.2.2.2.1+1)),(p0.2.2.2.2.2.2.2.2.2.2.2.2.2.2.2.2.2.2.2.2.2.2.1,(p0.2.2.2.2.2.2.2.2.2.2.2.2.2.2.2.2.2.2.2.2.2.2.2.1,(p0.2.2.2.2.2.2.2.2.2.2.2.2.2.2.2.2.2.2.2.2.2.2.2.2.1,(p0.2.2.2.2.2.2.2.2.2.2.2.2.2.2.2.2.2.2.2.2.2.2.2.2.2.1,(p0.2.2.2.2.2.2.2.2.2.2.2.2.2.2.2.2.2.2.2.2.2.2.2.2.2.2.1,(p0.2.2.2.2.2.2.2.2.2.2.2.2.2.2.2.2.2.2.2.2.2.2.2.2.2.2.2.1,((p0.2.2.2.2.2.2.2.2.2.2.2.2.2.2.2.2.2.2.2.2.2.2.2.2.2.2.2.2.1++[(Su.view 14 (Su.qq (Su.Ce.mk (Su.Ce.f x1) (Su.Ce.t x1) (Su.Jz x1.3 (x1.4,x1.5) (p0.2.2.2.2.2.2.2.2.1,(p0.2.2.2.2.2.2.2.2.2.1,p0.2.2.2.2.2.2.2.2.2.2.1))) (Su.qap (x1.4,x1.5) (Su.yG (Su.Jz x1.3 (x1.4,x1.5) (p0.2.2.2.2.2.2.2.2.1,(p0.2.2.2.2.2.2.2.2.2.1,p0.2.2.2.2.2.2.2.2.2.2.1))) (p0.2.2.2.2.2.2.2.2.1,(p0.2.2.2.2.2.2.2.2.2.1,p0.2.2.2.2.2.2.2.2.2.2.1)))).1 (Su.qap (x1.4,x1.5) (Su.yG (Su.Jz x1.3 (x1.4,x1.5) (p0.2.2.2.2.2.2.2.2.1,(p0.2.2.2.2.2.2.2.2.2.1,p0.2.2.2.2.2.2.2.2.2.2.1))) (p0.2.2.2.2.2.2.2.2.1,(p0.2.2.2.2.2.2.2.2.2.1,p0.2.2.2.2.2.2.2.2.2.2.1)))).2 (Su.Jp x1.6 x4) (Su.Ce.sl x1) x1.8) (Su.Cc.type x2)))]),(p0.2.2.2.2.2.2.2.2.2.2.2.2.2.2.2.2.2.2.2.2.2.2.2.2.2.2.2.2.2.1,(p0.2.2.2.2.2.2.2.2.2.2.2.2.2.2.2.2.2.2.2.2.2.2.2.2.2.2.2.2.2.2.1,(p0.2.2.2.2.2.2.2.2.2.2.2.2.2.2.2.2.2.2.2.2.2.2.2.2.2.2.2.2.2.2.2.1,(p0.2.2.2.2.2.2.2.2.2.2.2.2.2.2.2.2.2.2.2.2.2.2.2.2.2.2.2.2.2.2.2.2.1,((List.length (p0.2.2.2.2.2.2.2.2.2.2.2.2.2.2.2.2.2.2.2.2.2.2.2.2.2.2.2.2.1++[(Su.view 14 (Su.qq (Su.Ce.mk (Su.Ce.f x1) (Su.Ce.t x1) (Su.Jz x1.3 (x1.4,x1.5) (p0.2.2.2.2.2.2.2.2.1,(p0.2.2.2.2.2.2.2.2.2.1,p0.2.2.2.2.2.2.2.2.2.2.1))) (Su.qap (x1.4,x1.5) (Su.yG (Su.Jz x1.3 (x1.4,x1.5) (p0.2.2.2.2.2.2.2.2.1,(p0.2.2.2.2.2.2.2.2.2.1,p0.2.2.2.2.2.2.2.2.2.2.1))) (p0.2.2.2.2.2.2.2.2.1,(p0.2.2.2.2.2.2.2.2.2.1,p0.2.2.2.2.2.2.2.2.2.2.1)))).1 (Su.qap (x1.4,x1.5) (Su.yG (Su.Jz x1.3 (x1.4,x1.5) (p0.2.2.2.2.2.2.2.2.1,(p0.2.2.2.2.2.2.2.2.2.1,p0.2.2.2.2.2.2.2.2.2.2.1))) (p0.2.2.2.2.2.2.2.2.1,(p0.2.2.2.2.2.2.2.2.2.1,p0.2.2.2.2.2.2.2.2.2.2.1)))).2 (Su.Jp x1.6 x4) (Su.Ce.sl x1) x1.8) (Su.Cc.type x2)))])),())))))))))))))))))))))))))))))))))))
 else
  none))
 else
  ((Su.Z6 x1.8)).bind fun x5 =>
  (bif (Su.qT (Su.qq (Su.Ce.mk (Su.Ce.f x1) (Su.Ce.t x1) x1.3 x1.4 x1.5 (Su.Jp x1.6 x5) (Su.Ce.sl x1) x1.8) (Su.Cc.type x2)) (Su.Cc.type x2)) then
  some (.inr (.ret (true,(false,((0:Int),((0:Int),[]))))))
 else
  (bif ((true&&(Nat.beq p0.2.2.2.2.2.2.2.2.2.2.2.2.2.2.2.2.2.2.2.2.2.2.2.2.2.2.2.2.2.2.2.2.2.1 (List.length p0.2.2.2.2.2.2.2.2.2.2.2.2.2.2.2.2.2.2.2.2.2.2.2.2.2.2.2.2.1)))&&(Nat.ble ((List.length p0.2.2.2.2.2.2.2.2.2.2.2.2.2.2.2.2.2.2.2.2.2.2.2.2.2.2.2.2.1)+(List.length [(Su.view 14 (Su.qq (Su.Ce.mk (Su.Ce.f x1) (Su.Ce.t x1) x1.3 x1.4 x1.5 (Su.Jp x1.6 x5) (Su.Ce.sl x1) x1.8) (Su.Cc.type x2)))])) 549755813888)) then
  some (.inl (p0.1,(p0.2.1,(p0.2.2.1,(p0.2.2.2.1,(p0.2.2.2.2.1,(p0.2.2.2.2.2.1,(p0.2.2.2.2.2.2.1,(p0.2.2.2.2.2.2.2.1,(p0.2.2.2.2.2.2.2.2.1,(p0.2.2.2.2.2.2.2.2.2.1,(p0.2.2.2.2.2.2.2.2.2.2.1,(p0.2.2.2.2.2.2.2.2.2.2.2.1,(p0.2.2.2.2.2.2.2.2.2.2.2.2.1,(p0.2.2.2.2.2.2.2.2.2.2.2.2.2.1,(p0.2.2.2.2.2.2.2.2.2.2.2.2.2.2.1,(p0.2.2.2.2.2.2.2.2.2.2.2.2.2.2.2.1,(p0.2.2.2.2.2.2.2.2.2.2.2.2.2.2.2.2.1,(p0.2.2.2.2.2.2.2.2.2.2.2.2.2.2.2.2.2.1,(p0.2.2.2.2.2.2.2.2.2.2.2.2.2.2.2.2.2.2.1,(p0.2.2.2.2.2.2.2.2.2.2.2.2.2.2.2.2.2.2.2.1,(p0.2.2.2.2.2.2.2.2.2.2.2.2.2.2.2.2.2.2.2.2.1,((Go.IntKind.wrap .i64 (p0.2.2.2.2.2.2.2.2.2.2.2.2.2.2.2.2.2.2.2.2.2.1+1)),(p0.2.2.2.2.2.2.2.2.2.2.2.2.2.2.2.2.2.2.2.2.2.2.1,(p0.2.2.2.2.2.2.2.2.2.2.2.2.2.2.2.2.2.2.2.2.2.2.2.1,(p0.2.2.2.2.2.2.2.2.2.2.2.2.2.2.2.2.2.2.2.2.2.2.2.2.1,(p0.2.2.2.2.2.2.2.2.2.2.2.2.2.2.2.2.2.2.2.2.2.2.2.2.2.1,(p0.2.2.2.2.2.2.2.2.2.2.2.2.2.2.2.2.2.2.2.2.2.2.2.2.2.2.1,(p0.2.2.2.2.2.2.2.2.2.2.2.2.2.2.2.2.2.2.2.2.2.2.2.2.2.2.2.1,((p0.2.2.2.2.2.2.2.2.2.2.2.2.2.2.2.2.2.2.2.2.2.2.2.2.2.2.2.2.1++[(Su.view 14 (Su.qq (Su.Ce.mk (Su.Ce.f x1) (Su.Ce.t x1) x1.3 x1.4 x1.5 (Su.Jp x1.6 x5) (Su.Ce.sl x1) x1.8) (Su.Cc.type x2)))]),(p0.2.2.2.2.2.2.2.2.2.2.2.2.2.2.2.2.2.2.2.2.2.2.2.2.2.2.2.2.2.1,(p0.2.2.2.2.2.2.2.2.2.2.2.2.2.2.2.2.2.2.2.2.2.2.2.2.2.2.2.2.2.2.1,(p0.2.2.2.2.2.2.2.2.2.2.2.2.2.2.2.2.2.2.2.2.2.2.2.2.2.2.2.2.2.2.2.1,(p0.2.2.2.2.2.2.2.2.2.2.2.2.2.2.2.2.2.2.2.2.2.2.2.2.2.2.2.2.2.2.2.2.1,((List.length (p0.2.2.2.2.2.2.2.2.2.2.2.2.2.2.2.2.2.2.2.2.2.2.2.2.2.2.2.2.1++[(Su.view 14 (Su.qq (Su.Ce.mk (Su.Ce.f x1) (Su.Ce.t x1) x1.3 x1.4 x1.5 (Su.Jp x1.6 x5) (Su.Ce.sl x1) x1.8) (Su.Cc.type x2)))])),())))))))))))))))))))))))))))))))))))
 else
  none)))
 else
  some (.inr (.exit 0 (p0.1,(p0.2.1,(p0.2.2.1,(p0.2.2.2.1,(p0.2.2.2.2.1,(p0.2.2.2.2.2.1,(p0.2.2.2.2.2.2.1,(p0.2.2.2.2.2.2.2.1,(p0.2.2.2.2.2.2.2.2.1,(p0.2.2.2.2.2.2.2.2.2.1,(p0.2.2.2.2.2.2.2.2.2.2.1,(p0.2.2.2.2.2.2.2.2.2.2.2.1,(p0.2.2.2.2.2.2.2.2.2.2.2.2.1,(p0.2.2.2.2.2.2.2.2.2.2.2.2.2.1,(p0.2.2.2.2.2.2.2.2.2.2.2.2.2.2.1,(p0.2.2.2.2.2.2.2.2.2.2.2.2.2.2.2.1,(p0.2.2.2.2.2.2.2.2.2.2.2.2.2.2.2.2.1,(p0.2.2.2.2.2.2.2.2.2.2.2.2.2.2.2.2.2.1,(p0.2.2.2.2.2.2.2.2.2.2.2.2.2.2.2.2.2.2.1,(p0.2.2.2.2.2.2.2.2.2.2.2.2.2.2.2.2.2.2.2.1,(p0.2.2.2.2.2.2.2.2.2.2.2.2.2.2.2.2.2.2.2.2.1,(p0.2.2.2.2.2.2.2.2.2.2.2.2.2.2.2.2.2.2.2.2.2.1,(p0.2.2.2.2.2.2.2.2.2.2.2.2.2.2.2.2.2.2.2.2.2.2.1,(p0.2.2.2.2.2.2.2.2.2.2.2.2.2.2.2.2.2.2.2.2.2.2.2.1,(p0.2.2.2.2.2.2.2.2.2.2.2.2.2.2.2.2.2.2.2.2.2.2.2.2.1,(p0.2.2.2.2.2.2.2.2.2.2.2.2.2.2.2.2.2.2.2.2.2.2.2.2.2.1,(p0.2.2.2.2.2.2.2.2.2.2.2.2.2.2.2.2.2.2.2.2.2.2.2.2.2.2.1,(p0.2.2.2.2.2.2.2.2.2.2.2.2.2.2.2.2.2.2.2.2.2.2.2.2.2.2.2.1,(p0.2.2.2.2.2.2.2.2.2.2.2.2.2.2.2.2.2.2.2.2.2.2.2.2.2.2.2.2.1,(p0.2.2.2.2.2.2.2.2.2.2.2.2.2.2.2.2.2.2.2.2.2.2.2.2.2.2.2.2.2.1,(p0.2.2.2.2.2.2.2.2.2.2.2.2.2.2.2.2.2.2.2.2.2.2.2.2.2.2.2.2.2.2.1,(p0.2.2.2.2.2.2.2.2.2.2.2.2.2.2.2.2.2.2.2.2.2.2.2.2.2.2.2.2.2.2.2.1,(p0.2.2.2.2.2.2.2.2.2.2.2.2.2.2.2.2.2.2.2.2.2.2.2.2.2.2.2.2.2.2.2.2.1,(p0.2.2.2.2.2.2.2.2.2.2.2.2.2.2.2.2.2.2.2.2.2.2.2.2.2.2.2.2.2.2.2.2.2.1,())))))))))))))))))))))))))))))))))))))
def qzX  (fu:Nat) (c:(Int×((List Su.Cc)×((List Su.T)×((List Su.T)×((List Su.T)×((List Su.T)×Int))))))) (s:(Bool×(Bool×(Int×(Int×(List Su.Ce)))))):Option (Bool×(Bool×(Int×(Int×(List Su.Ce))))) :=
 (bif s.1 then
 some (true,(false,((0:Int),((0:Int),[]))))
 else
  (bif (!(decide (((((List.length s.2.2.2.2):Nat):Int)=(((List.length c.2.1):Nat):Int))))) then
  some (true,(false,((0:Int),((0:Int),[]))))
 else
  (bif (Su.qy [(s.2.1,(s.2.2.1,s.2.2.2.1))]).1 then
  some (true,(false,((0:Int),((0:Int),[]))))
 else
  (itP fu (qcf) (c.1,(c.2.1,(c.2.2.1,(c.2.2.2.1,(c.2.2.2.2.1,(c.2.2.2.2.2.1,(c.2.2.2.2.2.2,(s.1,(s.2.1,(s.2.2.1,(s.2.2.2.1,(s.2.2.2.2,(c.1,(c.2.1,(c.2.2.1,(c.2.2.2.1,(c.2.2.2.2.1,(c.2.2.2.2.2.1,(c.2.2.2.2.2.2,(s.2.2.2.2,((((List.length s.2.2.2.2):Nat):Int),((0:Int),([],(false,(false,((0:Int),((0:Int),(0,([],(false,((Su.qy [(s.2.1,(s.2.2.1,s.2.2.2.1))]).1,((Su.qy [(s.2.1,(s.2.2.1,s.2.2.2.1))]).2.1,((Su.qy [(s.2.1,(s.2.2.1,s.2.2.2.1))]).2.2,(0,()))))))))))))))))))))))))))))))))))).bind fun x6 =>
  (match x6 with
 | .exit i7 p8=>(bif (Nat.beq i7 0) then
  ((Su.sub p8.2.2.2.2.2.2.2.2.2.2.2.2.2.2.2.2.2.2.2.2.2.2.2.2.2.2.2.2.1 0 p8.2.2.2.2.2.2.2.2.2.2.2.2.2.2.2.2.2.2.2.2.2.2.2.2.2.2.2.2.2.2.2.2.2.1)).bind fun x9 =>
  (((((Su.unR (Su.rCe) x9)).bind fun x10 =>
  some (p8.2.2.2.2.2.2.2.2.2.2.2.2.2.2.2.2.2.2.2.2.2.2.2.2.2.2.2.2.2.2.2.2.1,x10)).bind fun x11 =>
  some (p8.2.2.2.2.2.2.2.2.2.2.2.2.2.2.2.2.2.2.2.2.2.2.2.2.2.2.2.2.2.2.2.1,x11)).bind fun x12 =>
  some (p8.2.2.2.2.2.2.2.2.2.2.2.2.2.2.2.2.2.2.2.2.2.2.2.2.2.2.2.2.2.2.1,x12)).bind fun x13 =>
  some (p8.2.2.2.2.2.2.2.2.2.2.2.2.2.2.2.2.2.2.2.2.2.2.2.2.2.2.2.2.2.1,x13)
 else
  none)
 | .ret o14=>some o14))))
def qq9 (s:StD) (x:Su.Ce):Iv:=Jz x.i (x.d,x.p) (stK s)
def qgp (s:StD) (x:Su.Ce):Ckp:=qap (x.d,x.p) (yG (qq9 s x) (stK s))
def Zy (s:StD) (_:Nat) (d:Su.Cc) (x:Su.Ce):Su.Ce :=
 bif decide (d.type=2) then ⟨x.f,x.t,qq9 s x,(qgp s x).1,(qgp s x).2,Jp x.s (Jg x.fm),x.sl,x.fm⟩
 else ⟨x.f,x.t,x.i,x.d,x.p,Jp x.s (Jg x.fm),x.sl,x.fm⟩
theorem qvl {s:StD} (h:smS s=true) {x:Su.Ce} (hx:x∈s.2.2.2.2):Z6 x.fm=some (Jg x.fm):=by
 unfold smS at h
 rw [Bool.and_eq_true] at h
 have:=Nat.le_of_ble_eq_true (List.all_eq_true.1 h.2 x hx)
 unfold Z6 qhl
 rw [Nat.ble_eq_true_of_le (by omega),cond_true]
theorem qzY (c:CoD) (s:StD) (K:Iv) (hl:s.2.2.2.2.length=c.2.1.length) (hs:s.2.2.2.2.length≤1000000) (hm:smS s=true) :
 jN (c.2.1.length+1) qcf (qd6 c s K ((0:Nat):Int) []) (qfV (.ret qH) (fun P=>.exit 0 (qd6 c s K (c.2.1.length:Int) P)) (qP (qZ c.2.1 s.2.2.2.2 (Zy s)) c.2.1.length)):=by
 have hmx:s.2.2.2.2.length≤maxLen:=by rw [qG];omega
 refine yi (mk:=fun i P=>qd6 c s K (i:Int) P) ?_ ?_ ?_
 · intro i P x hi hP ho
   have i1:i<s.2.2.2.2.length:=by omega
   unfold qZ at ho
   rw [List.getElem?_eq_getElem hi,List.getElem?_eq_getElem i1] at ho
   simp only [] at ho
   have hb:Nat.ble (P.length+1) 549755813888=true:=Nat.ble_eq_true_of_le (by omega)
   have hsp:=qvl hm (List.getElem_mem i1)
   unfold qd6
   simp only [qcf,ltN,decide_eq_true i1,cond_true,ixl i1,ixl hi,Option.bind_some]
   generalize c.2.1[i]=d at *
   generalize s.2.2.2.2[i]=x0 at *
   by_cases t1:d.type=2
   · have e1:=decide_eq_true t1
     have hf:(Zy s) i d x0=⟨x0.f,x0.t,qq9 s x0,(qgp s x0).1,(qgp s x0).2,Jp x0.s (Jg x0.fm),x0.sl,x0.fm⟩:=by unfold Zy;rw [e1];rfl
     rw [hf] at ho
     refine (qB e1).trans ((obB hsp rfl).trans ?_)
     rcases Bool.eq_false_or_eq_true (qT (qq (⟨x0.f,x0.t,qq9 s x0,(qgp s x0).1,(qgp s x0).2,Jp x0.s (Jg x0.fm),x0.sl,x0.fm⟩) d.type) d.type) with hn | hn
     · exact absurd ((qB hn).symm.trans ho) (by simp)
     · have:=soi ((qA hn).symm.trans ho);subst this
       refine (qA hn).trans ?_
       simp only [List.length_map,List.length_cons,List.length_nil,Nat.zero_add,qgn,hb,Bool.and_self,cond_true,QC,w1 i1 hmx]
       all_goals rfl
   · have e1:=decide_eq_false t1
     have hf:(Zy s) i d x0=⟨x0.f,x0.t,x0.i,x0.d,x0.p,Jp x0.s (Jg x0.fm),x0.sl,x0.fm⟩:=by unfold Zy;rw [e1];rfl
     rw [hf] at ho
     refine (qA e1).trans ((obB hsp rfl).trans ?_)
     rcases Bool.eq_false_or_eq_true (qT (qq (⟨x0.f,x0.t,x0.i,x0.d,x0.p,Jp x0.s (Jg x0.fm),x0.sl,x0.fm⟩) d.type) d.type) with hn | hn
     · exact absurd ((qB hn).symm.trans ho) (by simp)
     · have:=soi ((qA hn).symm.trans ho);subst this
       refine (qA hn).trans ?_
       simp only [List.length_map,List.length_cons,List.length_nil,Nat.zero_add,qgn,hb,Bool.and_self,cond_true,QC,w1 i1 hmx]
       all_goals rfl
 · intro i P hi hP ho
   have i1:i<s.2.2.2.2.length:=by omega
   unfold qZ at ho
   rw [List.getElem?_eq_getElem hi,List.getElem?_eq_getElem i1] at ho
   simp only [] at ho
   have hb:Nat.ble (P.length+1) 549755813888=true:=Nat.ble_eq_true_of_le (by omega)
   have hsp:=qvl hm (List.getElem_mem i1)
   unfold qd6
   simp only [qcf,ltN,decide_eq_true i1,cond_true,ixl i1,ixl hi,Option.bind_some]
   generalize c.2.1[i]=d at *
   generalize s.2.2.2.2[i]=x0 at *
   by_cases t1:d.type=2
   · have e1:=decide_eq_true t1
     have hf:(Zy s) i d x0=⟨x0.f,x0.t,qq9 s x0,(qgp s x0).1,(qgp s x0).2,Jp x0.s (Jg x0.fm),x0.sl,x0.fm⟩:=by unfold Zy;rw [e1];rfl
     rw [hf] at ho
     refine (qB e1).trans ((obB hsp rfl).trans ?_)
     rcases Bool.eq_false_or_eq_true (qT (qq (⟨x0.f,x0.t,qq9 s x0,(qgp s x0).1,(qgp s x0).2,Jp x0.s (Jg x0.fm),x0.sl,x0.fm⟩) d.type) d.type) with hn | hn
     · exact (qB hn).trans rfl
     · exact absurd ((qA hn).symm.trans ho) (by simp)
   · have e1:=decide_eq_false t1
     have hf:(Zy s) i d x0=⟨x0.f,x0.t,x0.i,x0.d,x0.p,Jp x0.s (Jg x0.fm),x0.sl,x0.fm⟩:=by unfold Zy;rw [e1];rfl
     rw [hf] at ho
     refine (qA e1).trans ((obB hsp rfl).trans ?_)
     rcases Bool.eq_false_or_eq_true (qT (qq (⟨x0.f,x0.t,x0.i,x0.d,x0.p,Jp x0.s (Jg x0.fm),x0.sl,x0.fm⟩) d.type) d.type) with hn | hn
     · exact (qB hn).trans rfl
     · exact absurd ((qA hn).symm.trans ho) (by simp)
 · intro P hP
   unfold qd6
   simp only [qcf,ltN,hl,decide_eq_false (Nat.lt_irrefl _),cond_false]
def qcg (c:CoD) (s:StD):StD:=qp c s (Zy s)
def qfY (p:CoD×StD):Option StD:=bif smS p.2 then some (qcg p.1 p.2) else none
theorem qzZ (p:CoD×StD) (y:StD) (hg:(dc cCo (d1 cSt)).good p) (h:qfY p=some y):∃ n,qzX n p.1 p.2=some y:=by
 obtain ⟨c,s⟩:=p
 obtain ⟨hm,h⟩:=qj h
 have:=soi h;subst this
 have hm:smS s=true:=hm
 refine ⟨c.2.1.length+1,?_⟩
 show qzX (c.2.1.length+1) c s=some (qcg c s)
 unfold qzX qcg
 rcases Bool.eq_false_or_eq_true s.1 with hd | hd
 · rw [show qp c s _=qH from qB hd];exact qB hd
 · refine (qA hd).trans ?_
   by_cases hl:s.2.2.2.2.length=c.2.1.length
   · refine (qA (by rw [lnE,decide_eq_true hl];rfl)).trans ?_
     rcases Bool.eq_false_or_eq_true (qy [stK s]).1 with hK | hK
     · rw [show qp c s _=qH from (qA hd).trans ((qA (by rw [decide_eq_true hl];rfl)).trans (qB hK))]
       exact qB hK
     · refine (qA hK).trans ?_
       rw [jP _ hd hl hK]
       have hr:=qzY c s (qy [stK s]) hl (Qe hm) hm _ (Nat.le_refl _)
       refine obB hr ?_
       cases hb:qP (qZ c.2.1 s.2.2.2.2 (Zy s)) c.2.1.length with
       | none=>rfl
       | some P=>exact obB (YI P) (qnk P (qy [stK s]) false)
   · rw [show qp c s _=qH from (qA hd).trans (qB (by rw [decide_eq_false hl];rfl))]
     exact qB (by rw [lnE,decide_eq_false hl];rfl)
end
end Su
end
section
namespace Su
open Go Fly
set_option linter.unusedVariables false
noncomputable section
abbrev Zz:=(Int×((List Su.Cc)×((List Su.T)×((List Su.T)×((List Su.T)×((List Su.T)×(Int×((List Su.Ce)×(Int×(Int×((List Su.T)×(Bool×(Bool×(Int×(Int×(Nat×((List Su.T)×(Bool×(Bool×(Int×(Int×(Nat×Unit))))))))))))))))))))))
def Yf:Zz→Option (Zz ⊕ (Lp Zz (Bool×(Bool×(Int×(Int×(List Su.Ce))))))):=fun p1=>(bif (decide ((p1.2.2.2.2.2.2.2.2.2.1<p1.2.2.2.2.2.2.2.2.1))) then
 ((Su.idx p1.2.2.2.2.2.2.2.1 p1.2.2.2.2.2.2.2.2.2.1)).bind fun x2 =>
 ((Su.idx p1.2.1 p1.2.2.2.2.2.2.2.2.2.1)).bind fun x3 =>
 (bif (Su.qT (Su.qq (Su.Ce.mk (Su.Ce.f x2) (Su.Ce.t x2) x2.3 x2.4 x2.5 x2.6 (Su.Ce.sl x2) (true,((0:Int),([],(0:Int))))) (Su.Cc.type x3)) (Su.Cc.type x3)) then
 some (.inr (.ret (true,(false,((0:Int),((0:Int),[]))))))
 else
  (bif ((true&&(Nat.beq p1.2.2.2.2.2.2.2.2.2.2.2.2.2.2.2.2.2.2.2.2.2.1 (List.length p1.2.2.2.2.2.2.2.2.2.2.2.2.2.2.2.2.1)))&&(Nat.ble ((List.length p1.2.2.2.2.2.2.2.2.2.2.2.2.2.2.2.2.1)+(List.length [(Su.view 14 (Su.qq (Su.Ce.mk (Su.Ce.f x2) (Su.Ce.t x2) x2.3 x2.4 x2.5 x2.6 (Su.Ce.sl x2) (true,((0:Int),([],(0:Int))))) (Su.Cc.type x3)))])) 549755813888)) then
  some (.inl (p1.1,(p1.2.1,(p1.2.2.1,(p1.2.2.2.1,(p1.2.2.2.2.1,(p1.2.2.2.2.2.1,(p1.2.2.2.2.2.2.1,(p1.2.2.2.2.2.2.2.1,(p1.2.2.2.2.2.2.2.2.1,((Go.IntKind.wrap .i64 (p1.2.2.2.2.2.2.2.2.2.1+1)),(p1.2.2.2.2.2.2.2.2.2.2.1,(p1.2.2.2.2.2.2.2.2.2.2.2.1,(p1.2.2.2.2.2.2.2.2.2.2.2.2.1,(p1.2.2.2.2.2.2.2.2.2.2.2.2.2.1,(p1.2.2.2.2.2.2.2.2.2.2.2.2.2.2.1,(p1.2.2.2.2.2.2.2.2.2.2.2.2.2.2.2.1,((p1.2.2.2.2.2.2.2.2.2.2.2.2.2.2.2.2.1++[(Su.view 14 (Su.qq (Su.Ce.mk (Su.Ce.f x2) (Su.Ce.t x2) x2.3 x2.4 x2.5 x2.6 (Su.Ce.sl x2) (true,((0:Int),([],(0:Int))))) (Su.Cc.type x3)))]),(p1.2.2.2.2.2.2.2.2.2.2.2.2.2.2.2.2.2.1,(p1.2.2.2.2.2.2.2.2.2.2.2.2.2.2.2.2.2.2.1,(p1.2.2.2.2.2.2.2.2.2.2.2.2.2.2.2.2.2.2.2.1,(p1.2.2.2.2.2.2.2.2.2.2.2.2.2.2.2.2.2.2.2.2.1,((List.length (p1.2.2.2.2.2.2.2.2.2.2.2.2.2.2.2.2.1++[(Su.view 14 (Su.qq (Su.Ce.mk (Su.Ce.f x2) (Su.Ce.t x2) x2.3 x2.4 x2.5 x2.6 (Su.Ce.sl x2) (true,((0:Int),([],(0:Int))))) (Su.Cc.type x3)))])),())))))))))))))))))))))))
 else
  none))
 else
  some (.inr (.exit 0 (p1.1,(p1.2.1,(p1.2.2.1,(p1.2.2.2.1,(p1.2.2.2.2.1,(p1.2.2.2.2.2.1,(p1.2.2.2.2.2.2.1,(p1.2.2.2.2.2.2.2.1,(p1.2.2.2.2.2.2.2.2.1,(p1.2.2.2.2.2.2.2.2.2.1,(p1.2.2.2.2.2.2.2.2.2.2.1,(p1.2.2.2.2.2.2.2.2.2.2.2.1,(p1.2.2.2.2.2.2.2.2.2.2.2.2.1,(p1.2.2.2.2.2.2.2.2.2.2.2.2.2.1,(p1.2.2.2.2.2.2.2.2.2.2.2.2.2.2.1,(p1.2.2.2.2.2.2.2.2.2.2.2.2.2.2.2.1,(p1.2.2.2.2.2.2.2.2.2.2.2.2.2.2.2.2.1,(p1.2.2.2.2.2.2.2.2.2.2.2.2.2.2.2.2.2.1,(p1.2.2.2.2.2.2.2.2.2.2.2.2.2.2.2.2.2.2.1,(p1.2.2.2.2.2.2.2.2.2.2.2.2.2.2.2.2.2.2.2.1,(p1.2.2.2.2.2.2.2.2.2.2.2.2.2.2.2.2.2.2.2.2.1,(p1.2.2.2.2.2.2.2.2.2.2.2.2.2.2.2.2.2.2.2.2.2.1,())))))))))))))))))))))))))
def qjf  (fu:Nat) (c:(Int×((List Su.Cc)×((List Su.T)×((List Su.T)×((List Su.T)×((List Su.T)×Int))))))) (s:(Bool×(Bool×(Int×(Int×(List Su.Ce)))))):Option (Bool×(Bool×(Int×(Int×(List Su.Ce))))) :=
 ((Su.qfY (c,s))).bind fun x0 =>
 (bif x0.1 then
 some (true,(false,((0:Int),((0:Int),[]))))
 else
  (bif (!(decide (((((List.length x0.2.2.2.2):Nat):Int)=(((List.length c.2.1):Nat):Int))))) then
  some (true,(false,((0:Int),((0:Int),[]))))
 else
  (bif (Su.qy [(x0.2.1,(x0.2.2.1,x0.2.2.2.1))]).1 then
  some (true,(false,((0:Int),((0:Int),[]))))
 else
  (itP fu (Yf) (c.1,(c.2.1,(c.2.2.1,(c.2.2.2.1,(c.2.2.2.2.1,(c.2.2.2.2.2.1,(c.2.2.2.2.2.2,(x0.2.2.2.2,((((List.length x0.2.2.2.2):Nat):Int),((0:Int),([],(false,(false,((0:Int),((0:Int),(0,([],(false,((Su.qy [(x0.2.1,(x0.2.2.1,x0.2.2.2.1))]).1,((Su.qy [(x0.2.1,(x0.2.2.1,x0.2.2.2.1))]).2.1,((Su.qy [(x0.2.1,(x0.2.2.1,x0.2.2.2.1))]).2.2,(0,()))))))))))))))))))))))).bind fun x4 =>
  (match x4 with
 | .exit i5 p6=>(bif (Nat.beq i5 0) then
  ((Su.sub p6.2.2.2.2.2.2.2.2.2.2.2.2.2.2.2.2.1 0 p6.2.2.2.2.2.2.2.2.2.2.2.2.2.2.2.2.2.2.2.2.2.1)).bind fun x7 =>
  (((((Su.unR (Su.rCe) x7)).bind fun x8 =>
  some (p6.2.2.2.2.2.2.2.2.2.2.2.2.2.2.2.2.2.2.2.2.1,x8)).bind fun x9 =>
  some (p6.2.2.2.2.2.2.2.2.2.2.2.2.2.2.2.2.2.2.2.1,x9)).bind fun x10 =>
  some (p6.2.2.2.2.2.2.2.2.2.2.2.2.2.2.2.2.2.2.1,x10)).bind fun x11 =>
  some (p6.2.2.2.2.2.2.2.2.2.2.2.2.2.2.2.2.2.1,x11)
 else
  none)
 | .ret o12=>some o12))))
def qaw:Bool×Int×List Su.Tm×Int:=(true,(0,([],0)))
def YJ (_:Nat) (_:Su.Cc) (x:Su.Ce):Su.Ce:=⟨x.f,x.t,x.i,x.d,x.p,x.s,x.sl,qaw⟩
theorem qlC {c:CoD} {s:StD} {f:Nat→Su.Cc→Su.Ce→Su.Ce}:(qp c s f).2.2.2.2.length≤s.2.2.2.2.length:=by
 unfold qp
 rcases Bool.eq_false_or_eq_true s.1 with hd | hd
 · rw [qB hd];exact Nat.zero_le _
 · rw [qA hd]
   by_cases hl:s.2.2.2.2.length=c.2.1.length
   · rw [qA (by rw [decide_eq_true hl];rfl)]
     rcases Bool.eq_false_or_eq_true (qy [stK s]).1 with hK | hK
     · rw [qB hK];exact Nat.zero_le _
     · rw [qA hK]
       cases hb:qP (qZ c.2.1 s.2.2.2.2 f) c.2.1.length with
       | none=>exact Nat.zero_le _
       | some P=>show P.length≤_;rw [jJ hb,hl];exact Nat.le_refl _
   · rw [qB (by rw [decide_eq_false hl];rfl)];exact Nat.zero_le _
theorem qra (c:CoD) (s:StD) (K:Iv) (hl:s.2.2.2.2.length=c.2.1.length) (hs:s.2.2.2.2.length≤1000000) :
 jN (c.2.1.length+1) Yf (yH c s K ((0:Nat):Int) []) (qfV (.ret qH) (fun P=>.exit 0 (yH c s K (c.2.1.length:Int) P)) (qP (qZ c.2.1 s.2.2.2.2 (YJ)) c.2.1.length)):=by
 have hmx:s.2.2.2.2.length≤maxLen:=by rw [qG];omega
 refine yi (mk:=fun i P=>yH c s K (i:Int) P) ?_ ?_ ?_
 · intro i P x hi hP ho
   have i1:i<s.2.2.2.2.length:=by omega
   unfold qZ at ho
   rw [List.getElem?_eq_getElem hi,List.getElem?_eq_getElem i1] at ho
   simp only [] at ho
   have hb:Nat.ble (P.length+1) 549755813888=true:=Nat.ble_eq_true_of_le (by omega)
   unfold yH
   simp only [Yf,ltN,decide_eq_true i1,cond_true,ixl i1,ixl hi,Option.bind_some]
   generalize c.2.1[i]=d at *
   generalize s.2.2.2.2[i]=x0 at *
   have hf:YJ i d x0=⟨x0.f,x0.t,x0.i,x0.d,x0.p,x0.s,x0.sl,qaw⟩:=by rfl
   rw [hf] at ho
   rcases Bool.eq_false_or_eq_true (qT (qq (⟨x0.f,x0.t,x0.i,x0.d,x0.p,x0.s,x0.sl,qaw⟩) d.type) d.type) with hn | hn
   · exact absurd ((qB hn).symm.trans ho) (by simp)
   · have:=soi ((qA hn).symm.trans ho);subst this
     refine (qA hn).trans ?_
     simp only [List.length_map,List.length_cons,List.length_nil,Nat.zero_add,qgn,hb,Bool.and_self,cond_true,QC,w1 i1 hmx]
     all_goals rfl
 · intro i P hi hP ho
   have i1:i<s.2.2.2.2.length:=by omega
   unfold qZ at ho
   rw [List.getElem?_eq_getElem hi,List.getElem?_eq_getElem i1] at ho
   simp only [] at ho
   have hb:Nat.ble (P.length+1) 549755813888=true:=Nat.ble_eq_true_of_le (by omega)
   unfold yH
   simp only [Yf,ltN,decide_eq_true i1,cond_true,ixl i1,ixl hi,Option.bind_some]
   generalize c.2.1[i]=d at *
   generalize s.2.2.2.2[i]=x0 at *
   have hf:YJ i d x0=⟨x0.f,x0.t,x0.i,x0.d,x0.p,x0.s,x0.sl,qaw⟩:=by rfl
   rw [hf] at ho
   rcases Bool.eq_false_or_eq_true (qT (qq (⟨x0.f,x0.t,x0.i,x0.d,x0.p,x0.s,x0.sl,qaw⟩) d.type) d.type) with hn | hn
   · exact (qB hn).trans rfl
   · exact absurd ((qA hn).symm.trans ho) (by simp)
 · intro P hP
   unfold yH
   simp only [Yf,ltN,hl,decide_eq_false (Nat.lt_irrefl _),cond_false]
def jW (c:CoD) (s:StD):StD:=qp c (qcg c s) YJ
def Yg (p:CoD×StD):Option StD:=bif smS p.2 then some (jW p.1 p.2) else none
theorem qrb (p:CoD×StD) (y:StD) (hg:(dc cCo (d1 cSt)).good p) (h:Yg p=some y):∃ n,qjf n p.1 p.2=some y:=by
 obtain ⟨c,s⟩:=p
 obtain ⟨hm,h⟩:=qj h
 have:=soi h;subst this
 have hm:smS s=true:=hm
 refine ⟨c.2.1.length+1,?_⟩
 show qjf (c.2.1.length+1) c s=some (jW c s)
 unfold qjf jW
 refine obB (x:=qcg c s) (show qfY (c,s)=_ from by unfold qfY;rw [show smS (c,s).2=true from hm];rfl) ?_
 have hm:=Nat.le_trans (qlC (c:=c) (s:=s) (f:=Zy s)) (Qe hm)
 have hm:(qcg c s).2.2.2.2.length≤1000000:=hm
 generalize qcg c s=s at *
 rcases Bool.eq_false_or_eq_true s.1 with hd | hd
 · rw [show qp c s _=qH from qB hd];exact qB hd
 · refine (qA hd).trans ?_
   by_cases hl:s.2.2.2.2.length=c.2.1.length
   · refine (qA (by rw [lnE,decide_eq_true hl];rfl)).trans ?_
     rcases Bool.eq_false_or_eq_true (qy [stK s]).1 with hK | hK
     · rw [show qp c s _=qH from (qA hd).trans ((qA (by rw [decide_eq_true hl];rfl)).trans (qB hK))]
       exact qB hK
     · refine (qA hK).trans ?_
       rw [jP _ hd hl hK]
       have hr:=qra c s (qy [stK s]) hl hm _ (Nat.le_refl _)
       refine obB hr ?_
       cases hb:qP (qZ c.2.1 s.2.2.2.2 (YJ)) c.2.1.length with
       | none=>rfl
       | some P=>exact obB (YI P) (qnk P (qy [stK s]) false)
   · rw [show qp c s _=qH from (qA hd).trans (qB (by rw [decide_eq_false hl];rfl))]
     exact qB (by rw [lnE,decide_eq_false hl];rfl)
end
end Su
end
section
namespace Su
open Go Fly
set_option linter.unusedVariables false
noncomputable section
def mkQ (p:Int) (q:Nat):Rt:=yn (decide (p<0)) p.natAbs q
def sv (a:Rt):Int:=bif a.1 then -(nu a:Int) else (nu a:Int)
theorem qch (neg:Bool) (d:Nat):yn neg 0 d=(false,([],ofN 1)):=by rw [YF];unfold qdX;rw [if_pos (.inl rfl)]
theorem qdc (neg:Bool) (n d:Nat) {k:Nat} (hk:0<k):yn neg (n*k) (d*k)=yn neg n d:=by
 rw [YF,YF]
 unfold qdX
 by_cases h:n=0∨d=0
 · rw [if_pos h,if_pos (by rcases h with h | h <;> simp [h])]
 · have h1:n≠0:=fun e=>h (.inl e)
   have h2:d≠0:=fun e=>h (.inr e)
   have h3 : ¬ (n*k=0∨d*k=0):=by
    intro e
    rcases e with e | e
    · rcases Nat.mul_eq_zero.1 e with e | e <;> omega
    · rcases Nat.mul_eq_zero.1 e with e | e <;> omega
   rw [if_neg h,if_neg h3,Nat.gcd_mul_right,Nat.mul_div_mul_right _ _ hk,Nat.mul_div_mul_right _ _ hk]
theorem qhw (neg:Bool) (n:Nat) {d:Nat} (hd:0<d):∃ g,0<g∧n=g*nu (yn neg n d)∧d=g*de (yn neg n d)∧(yn neg n d).1=(neg&&decide (n≠0)):=by
 by_cases h:n=0
 · subst h
   rw [qch]
   refine ⟨d,hd,?_,?_,by simp⟩
   · show 0=d*qa [];simp [qa]
   · show d=d*qa (ofN 1);rw [valN_ofN];omega
 · rw [YF]
   unfold qdX
   rw [if_neg (by omega)]
   refine ⟨Nat.gcd n d,Nat.gcd_pos_of_pos_right _ hd,?_,?_,by simp [h]⟩
   · show n=_*qa (ofN _);rw [valN_ofN];exact (Nat.mul_div_cancel' (Nat.gcd_dvd_left _ _)).symm
   · show d=_*qa (ofN _);rw [valN_ofN];exact (Nat.mul_div_cancel' (Nat.gcd_dvd_right _ _)).symm
theorem Yh (p:Int) (q:Nat) {k:Nat} (hk:0<k):mkQ (p*k) (q*k)=mkQ p q:=by
 unfold mkQ
 have e1:(p*(k:Int)).natAbs=p.natAbs*k:=by rw [Int.natAbs_mul];rfl
 have e2:decide (p*(k:Int)<0)=decide (p<0):=by
  have hk':(0:Int)<k:=by omega
  by_cases h:p<0
  · rw [decide_eq_true h,decide_eq_true (Int.mul_neg_of_neg_of_pos h hk')]
  · rw [decide_eq_false h,decide_eq_false]
    have:=Int.mul_nonneg (a:=p) (b:=k) (by omega) (by omega)
    omega
 rw [e1,e2,qdc _ _ _ hk]
theorem Jk (p:Int) {q:Nat} (hq:0<q):∃ g:Nat,0<g∧p=g*sv (mkQ p q)∧q=g*de (mkQ p q)∧0<de (mkQ p q):=by
 obtain ⟨g,h0,h1,h2,h3⟩:=qhw (decide (p<0)) p.natAbs hq
 refine ⟨g,h0,?_,h2,Nat.pos_of_ne_zero fun e=>?_⟩
 · unfold sv
   have h4:(mkQ p q).1=decide (p<0):=by
    show (yn _ _ _).1=_
    rw [h3]
    by_cases h:p<0
    · rw [decide_eq_true h,decide_eq_true (by omega)];rfl
    · rw [decide_eq_false h];rfl
   rw [h4]
   have h5:p.natAbs=g*nu (mkQ p q):=h1
   have h6:((g*nu (mkQ p q):Nat):Int)=(g:Int)*(nu (mkQ p q):Int):=by simp
   by_cases h:p<0
   · rw [decide_eq_true h,cond_true,Int.mul_neg,← h6,← h5];omega
   · rw [decide_eq_false h,cond_false,← h6,← h5];omega
 · have h2':q=g*de (mkQ p q):=h2
   rw [e] at h2';omega
theorem JN (neg:Bool) (n d:Nat):yn neg n d=mkQ (bif neg then -(n:Int) else (n:Int)) d:=by
 unfold mkQ
 by_cases h:n=0
 · subst h
   cases neg <;> simp [qch]
 · cases neg with
   | true=>rw [cond_true,decide_eq_true (by omega),Int.natAbs_neg,Int.natAbs_natCast]
   | false=>rw [cond_false,decide_eq_false (by omega),Int.natAbs_natCast]
theorem qz0 (a:Rt):QA a=mkQ (sv a) (de a):=JN _ _ _
theorem qFo (p:Int) {q:Nat} (hq:0<q):mkQ (sv (mkQ p q)) (de (mkQ p q))=mkQ p q:=by
 obtain ⟨g,h0,h1,h2,h3⟩:=Jk p hq
 have:=Yh (sv (mkQ p q)) (de (mkQ p q)) h0
 rw [Int.mul_comm,← h1,Nat.mul_comm,← h2] at this
 exact this.symm
theorem qeA (p:Int) {q:Nat} (hq:0<q):QA (mkQ p q)=mkQ p q:=by rw [qz0,qFo p hq]
theorem qz1 (b c:Bool) (n m d:Nat):(bif decide (b=c) then yn b (n+m) d else bif decide (m≤n) then yn b (n-m) d else yn c (m-n) d)=mkQ ((bif b then -(n:Int) else (n:Int))+(bif c then -(m:Int) else (m:Int))) d:=by
 cases b <;> cases c
 · rw [decide_eq_true rfl,cond_true,JN];congr 1
 · rw [decide_eq_false (by simp),cond_false]
   by_cases h:m≤n
   · rw [decide_eq_true h,cond_true,JN];congr 1;simp only [cond_false,cond_true];omega
   · rw [decide_eq_false h,cond_false,JN];congr 1;simp only [cond_false,cond_true];omega
 · rw [decide_eq_false (by simp),cond_false]
   by_cases h:m≤n
   · rw [decide_eq_true h,cond_true,JN];congr 1;simp only [cond_false,cond_true];omega
   · rw [decide_eq_false h,cond_false,JN];congr 1;simp only [cond_false,cond_true];omega
 · rw [decide_eq_true rfl,cond_true,JN];congr 1;simp only [cond_true];omega
theorem qph (b:Bool) (n k:Nat):(bif b then -((n*k:Nat):Int) else ((n*k:Nat):Int))=(bif b then -(n:Int) else (n:Int))*k:=by
 cases b
 · simp
 · simp only [cond_true,Int.neg_mul];simp
theorem qz2 (x y:Rt):qm2 x y=mkQ (sv x*de y+sv y*de x) (de x*de y):=by
 unfold qm2
 rw [qz1,qph,qph];rfl
theorem qpi (p r:Int) {q s:Nat} (hq:0<q) (hs:0<s):qqQ (mkQ p q) (mkQ r s)=mkQ (p*s+r*q) (q*s):=by
 unfold qqQ
 rw [qeA p hq,qeA r hs,qz2]
 obtain ⟨g,h0,h1,h2,h3⟩:=Jk p hq
 obtain ⟨h,k0,k1,k2,k3⟩:=Jk r hs
 generalize mkQ p q=x at *
 generalize mkQ r s=y at *
 rw [← Yh _ _ (Nat.mul_pos h0 k0)]
 have e1:de x*de y*(g*h)=q*s:=by rw [h2,k2];grind
 have e2:(sv x*de y+sv y*de x)*((g*h:Nat):Int)=p*s+r*q:=by
  have a2:(q:Int)=g*de x:=by rw [h2];simp
  have b2:(s:Int)=h*de y:=by rw [k2];simp
  rw [a2,b2,h1,k1]
  simp only [Int.natCast_mul]
  grind
 rw [e1,e2]
theorem qz3 (p:Int) {q:Nat} (hq:0<q):qli (mkQ p q)=mkQ (-p) q:=by
 unfold qli
 rw [JN]
 obtain ⟨g,h0,h1,h2,h3⟩:=Jk p hq
 have e:(bif !(mkQ p q).1 then -(qa (mkQ p q).2.1:Int) else (qa (mkQ p q).2.1:Int)) = -(sv (mkQ p q)):=by
  unfold sv nu
  cases (mkQ p q).1 <;> simp
 rw [e]
 generalize mkQ p q=x at *
 rw [← Yh _ _ h0,h1]
 have e1:qa x.2.2*g=q:=by rw [h2,Nat.mul_comm];rfl
 rw [e1]
 congr 1
 rw [Int.neg_mul,Int.mul_comm]
theorem qz4 (p r:Int) {q s:Nat} (hq:0<q) (hs:0<s):qi1 (mkQ p q) (mkQ r s)=mkQ (p*s-r*q) (q*s):=by
 unfold qi1
 rw [qz3 r hs,qpi p (-r) hq hs,Int.neg_mul];rfl
theorem qz5 (p:Int) {q:Nat} (hq:0<q):qqP (mkQ p q)=mkQ (p.natAbs:Int) q:=by
 unfold qqP
 rw [JN]
 obtain ⟨g,h0,h1,h2,h3⟩:=Jk p hq
 have e:p.natAbs=g*nu (mkQ p q):=by
  have h5:p.natAbs=(g*sv (mkQ p q)).natAbs:=congrArg Int.natAbs h1
  rw [h5,Int.natAbs_mul,Int.natAbs_natCast]
  congr 1
  unfold sv
  generalize mkQ p q=x
  cases x.1 <;> simp
 generalize mkQ p q=x at *
 rw [e,← Yh _ _ h0]
 have e1:qa x.2.2*g=q:=by rw [h2,Nat.mul_comm];rfl
 rw [e1,cond_false]
 congr 1
 simp only [Int.natCast_mul]
 rw [Int.mul_comm];rfl
def qci (p r:Int):Int:=if p<r then -1 else if p=r then 0 else 1
theorem qfZ (p r:Int) {k:Nat} (hk:0<k):qci (p*k) (r*k)=qci p r:=by
 unfold qci
 have hk':(0:Int)<k:=by omega
 have e1:p*(k:Int)<r*k↔p<r:=Int.mul_lt_mul_right hk'
 have e2:p*(k:Int)=r*k↔p=r:=Int.mul_eq_mul_right_iff (by omega)
 simp only [e1,e2]
theorem qvm (a b:Nat):Qq a b=qci a b:=by
 unfold Qq qci
 simp only [Int.ofNat_lt,Int.ofNat_inj]
theorem qFp (x y:Rt) (hx:0<de x) (hy:0<de y) (zx:x.1=true→nu x≠0) (zy:y.1=true→nu y≠0):rcm x y=qci (sv x*de y) (sv y*de x):=by
 unfold rcm sv
 have hx':(0:Int)<de x:=by omega
 have hy':(0:Int)<de y:=by omega
 have p1:(0:Int)≤nu x*de y:=Int.mul_nonneg (by omega) (by omega)
 have p2:(0:Int)≤nu y*de x:=Int.mul_nonneg (by omega) (by omega)
 cases hxs:x.1 <;> cases hys:y.1
 · simp only [decide_true,Bool.not_true,cond_false,qvm,Int.natCast_mul]
 · have h2:0<nu y:=Nat.pos_of_ne_zero (zy hys)
   have p3:(0:Int)<nu y*de x:=Int.mul_pos (by omega) hx'
   simp only [cond_true,cond_false,Int.neg_mul]
   unfold qci
   rw [if_neg (by omega),if_neg (by omega)];rfl
 · have h2:0<nu x:=Nat.pos_of_ne_zero (zx hxs)
   have p3:(0:Int)<nu x*de y:=Int.mul_pos (by omega) hy'
   simp only [cond_true,cond_false,Int.neg_mul]
   unfold qci
   rw [if_pos (by omega)];rfl
 · simp only [decide_true,Bool.not_true,cond_false,cond_true,qvm,Int.natCast_mul,Int.neg_mul]
   generalize (nu x:Int)*de y=a
   generalize (nu y:Int)*de x=b
   unfold qci
   split
   · rw [if_neg (by omega),if_neg (by omega)];rfl
   · split
     · rw [if_neg (by omega),if_pos (by omega)];rfl
     · rw [if_pos (by omega)]
theorem qpj (p:Int) {q:Nat} (hq:0<q):(mkQ p q).1=true→nu (mkQ p q)≠0:=by
 intro h e
 obtain ⟨g,h0,h1,h2,h3⟩:=qhw (decide (p<0)) p.natAbs hq
 have h4:(mkQ p q).1=(decide (p<0)&&decide (p.natAbs≠0)):=h3
 have h5:p.natAbs=g*nu (mkQ p q):=h1
 rw [e,Nat.mul_zero] at h5
 rw [h5] at h4
 rw [h4] at h
 simp at h
theorem qz6 (p r:Int) {q s:Nat} (hq:0<q) (hs:0<s):qtM (mkQ p q) (mkQ r s)=qci (p*s) (r*q):=by
 unfold qtM
 rw [qeA p hq,qeA r hs]
 have z1:=qpj p hq
 have z2:=qpj r hs
 obtain ⟨g,h0,h1,h2,h3⟩:=Jk p hq
 obtain ⟨h,k0,k1,k2,k3⟩:=Jk r hs
 generalize mkQ p q=x at *
 generalize mkQ r s=y at *
 rw [qFp x y h3 k3 z1 z2,← qfZ _ _ (Nat.mul_pos h0 k0)]
 have a2:(q:Int)=g*de x:=by rw [h2];simp
 have b2:(s:Int)=h*de y:=by rw [k2];simp
 have e1:sv x*de y*((g*h:Nat):Int)=p*s:=by
  rw [b2,h1];simp only [Int.natCast_mul];grind
 have e2:sv y*de x*((g*h:Nat):Int)=r*q:=by
  rw [a2,k1];simp only [Int.natCast_mul];grind
 rw [e1,e2]
structure Sz (a:Rt) (k:Nat):Prop where
 wn:Wd a.2.1
 wd:Wd a.2.2
 ln:a.2.1.length≤k
 ld:a.2.2.length≤k
theorem qa6 {neg:Bool} {n d k:Nat} (h1:n<4294967296^k) (h2:d<4294967296^k) (hk:1≤k):Sz (yn neg n d) k:=by
 rw [YF]
 unfold qdX
 by_cases h:n=0∨d=0
 · rw [if_pos h]
   exact ⟨.nil,YA 1,Nat.zero_le _,Nat.le_trans (Qc (v:=1) (k:=1) (by decide)) hk⟩
 · rw [if_neg h]
   exact ⟨YA _,YA _,Qc (Nat.lt_of_le_of_lt (Nat.div_le_self _ _) h1),Qc (Nat.lt_of_le_of_lt (Nat.div_le_self _ _) h2)⟩
theorem Sz.nu {a:Rt} {k:Nat} (h:Sz a k):Su.nu a<4294967296^k:=Nat.lt_of_lt_of_le (jf _ h.wn) (Nat.pow_le_pow_right (by omega) h.ln)
theorem Sz.de {a:Rt} {k:Nat} (h:Sz a k):Su.de a<4294967296^k:=Nat.lt_of_lt_of_le (jf _ h.wd) (Nat.pow_le_pow_right (by omega) h.ld)
theorem Sz.mono {a:Rt} {k m:Nat} (h:Sz a k) (hm:k≤m):Sz a m:=⟨h.wn,h.wd,Nat.le_trans h.ln hm,Nat.le_trans h.ld hm⟩
theorem Sz.ok4 {a:Rt} {k:Nat} (h:Sz a k) (hk:k≤400000):Su.ok4 a=true:=by
 unfold Su.ok4
 rw [Nat.ble_eq_true_of_le (Nat.le_trans h.ln hk),Nat.ble_eq_true_of_le (Nat.le_trans h.ld hk)];rfl
theorem Sz.okRt {a:Rt} {k:Nat} (h:Sz a k) (hk:k≤1000000):Su.okRt a=true:=by
 unfold Su.okRt okL
 rw [Nat.ble_eq_true_of_le (Nat.le_trans h.ln hk),Nat.ble_eq_true_of_le (Nat.le_trans h.ld hk)];rfl
theorem qpk {a:Rt} {k:Nat} (h:Sz a k) (hk:1≤k):Sz (QA a) k:=qa6 h.nu h.de hk
theorem qz7 {a:Rt} {k:Nat} (h:Sz a k) (hk:1≤k):Sz (qli a) k:=qa6 h.nu h.de hk
theorem qz8 {a:Rt} {k:Nat} (h:Sz a k) (hk:1≤k):Sz (qqP a) k:=qa6 h.nu h.de hk
theorem qjg {a b k m:Nat} (h1:a<4294967296^k) (h2:b<4294967296^m):a*b<4294967296^(k+m):=by
 rw [Nat.pow_add];exact Nat.mul_lt_mul'' h1 h2
theorem qz9 {x y:Rt} {k m:Nat} (h:Sz x k) (h':Sz y m):Sz (qm2 x y) (k+m+1):=by
 have p1:=qjg h.nu h'.de
 have p2:=qjg h.de h'.nu
 have p3:=qjg h.de h'.de
 rw [Nat.mul_comm] at p2
 have p4:4294967296^(k+m+1)=4294967296^(k+m)*4294967296:=Nat.pow_succ ..
 unfold qm2
 generalize nu x*de y=A at *
 generalize nu y*de x=B at *
 generalize de x*de y=C at *
 generalize 4294967296^(k+m)=P at *
 cases decide (x.1=y.1) with
 | true=>exact qa6 (by omega) (by omega) (by omega)
 | false =>
  cases decide (B≤A) with
  | true=>exact qa6 (by omega) (by omega) (by omega)
  | false=>exact qa6 (by omega) (by omega) (by omega)
theorem qAa {a b:Rt} {k m:Nat} (h:Sz a k) (h':Sz b m) (hk:1≤k) (hm:1≤m):Sz (qqQ a b) (k+m+1):=qz9 (qpk h hk) (qpk h' hm)
theorem qAb {a b:Rt} {k m:Nat} (h:Sz a k) (h':Sz b m) (hk:1≤k) (hm:1≤m):Sz (qi1 a b) (k+m+1):=qAa h (qz7 h' hm) hk hm
theorem qCT {p:Int} {q k:Nat} (h1:p.natAbs<4294967296^k) (h2:q<4294967296^k) (hk:1≤k):Sz (mkQ p q) k:=qa6 h1 h2 hk
@[irreducible] def EX:Nat:=1074
theorem qvn:EX=1074:=by unfold EX;rfl
@[irreducible] def BX:Nat:=2098
theorem qvo:BX=2098:=by unfold BX;rfl
@[irreducible] def QD:Nat:=2^EX
theorem qpl:QD=2^EX:=by unfold QD;rfl
theorem JO:0<QD:=by rw [qpl];exact Nat.two_pow_pos _
def fvK (b:Bool) (k:Nat):Int:=bif jS k then (bif b then -(kV k:Int) else (kV k:Int)) else 0
def fv (f:Nat):Int:=fvK (bS f) (bK f)
theorem qHG (k:Nat):kM k<9007199254740992:=by unfold kM;split <;> omega
theorem qeB (f:Nat):qbV f=mkQ (fv f) QD:=by
 unfold qbV fv fvK
 rw [qtI]
 unfold qEB spM spE
 generalize bS f=b
 generalize bK f=k
 cases hf:jS k with
 | false =>
  simp only [cond_false,Bool.false_and]
  rw [if_neg (by omega)]
  show yn b _ _=_
  unfold mkQ
  simp [qch]
 | true =>
  have hk:=j9.1 hf
  simp only [cond_true,Bool.true_and]
  by_cases h0:k=0
  · subst h0
    rw [show Nat.beq 0 0=true from rfl]
    simp only [Bool.not_true,cond_false]
    rw [if_neg (by omega)]
    have e1:kV 0=0:=rfl
    have e2:kM 0=0:=rfl
    rw [e1,e2]
    unfold mkQ
    cases b <;> simp [qch]
  · have hb:Nat.beq k 0=false:=by
     cases h:Nat.beq k 0 with
     | false=>rfl
     | true=>exact absurd (Nat.eq_of_beq_eq_true h) h0
    rw [hb]
    simp only [Bool.not_false,cond_true]
    have hE:kE k≤2045:=by unfold kE;omega
    rw [if_neg (by omega)]
    show yn b (Int.toNat (kM k:Int)*2^(max ((kE k:Int)-1074) 0).toNat) (2^(max (-((kE k:Int)-1074)) 0).toNat)=_
    rw [Int.toNat_natCast,← JN]
    unfold kV
    rw [qpl]
    have hX:=qvn
    by_cases h:EX≤kE k
    · have e1:(max ((kE k:Int)-1074) 0).toNat=kE k-EX:=by omega
      have e2:(max (-((kE k:Int)-1074)) 0).toNat=0:=by omega
      rw [e1,e2,← qdc b _ _ (Nat.two_pow_pos EX),Nat.mul_assoc,← Nat.pow_add,← Nat.pow_add,Nat.sub_add_cancel h,Nat.zero_add]
    · have e1:(max ((kE k:Int)-1074) 0).toNat=0:=by omega
      have e2:(max (-((kE k:Int)-1074)) 0).toNat=EX-kE k:=by omega
      rw [e1,e2,← qdc b _ _ (Nat.two_pow_pos (kE k)),Nat.mul_assoc,← Nat.pow_add,← Nat.pow_add,Nat.sub_add_cancel (by omega),Nat.zero_add]
theorem qrc {k:Nat} (h:k≤9218868437227405311):kV k<2^BX:=by
 have h1:kM k<2^53:=qHG k
 have h2:kE k+53≤BX:=by rw [qvo];unfold kE;omega
 unfold kV
 have h3:=Nat.mul_lt_mul_of_pos_right h1 (Nat.two_pow_pos (kE k))
 rw [← Nat.pow_add] at h3
 exact Nat.lt_of_lt_of_le h3 (Nat.pow_le_pow_right (by omega) (by omega))
theorem qjh (f:Nat):(fv f).natAbs<2^BX:=by
 unfold fv fvK
 cases hf:jS (bK f) with
 | false=>exact Nat.two_pow_pos _
 | true =>
  have:=qrc (j9.1 hf)
  simp only [cond_true]
  cases bS f
  · simpa using this
  · simpa using this
theorem qpm (f:Nat):Sz (qbV f) 66:=by
 have h1:=qvo
 have h2:=qvn
 rw [qeB]
 refine qCT ?_ ?_ (by omega)
 · rw [J5,show 32*66=BX+14 by omega];exact Nat.lt_of_lt_of_le (qjh f) (Nat.pow_le_pow_right (by omega) (by omega))
 · rw [qpl,J5,show 32*66=EX+1038 by omega];exact Nat.pow_lt_pow_right (by omega) (by omega)
theorem qji (f:Int):YG f=some (bif Jv f.toNat then ((false,([],[])),false) else (qbV f.toNat,true)):=by
 unfold YG
 rw [qeq,cond_true]
theorem qFq {a b:Rt} (h1:Sz a 100000) (h2:Sz b 100000):qc1 (a,b)=some (qi1 a b)∧Sz (qi1 a b) 200001 :=
 ⟨by unfold qc1;simp only [];rw [h1.ok4 (by omega),h2.ok4 (by omega)];rfl,qAb h1 h2 (by omega) (by omega)⟩
theorem qFr {a:Rt} (h1:Sz a 200001):qcY a=some (qqP a)∧Sz (qqP a) 200001 :=
 ⟨by unfold qcY;rw [h1.okRt (by omega)];rfl,qz8 h1 (by omega)⟩
theorem qFs {a b:Rt} (h1:Sz a 400000) (h2:Sz b 400000):qc0 (a,b)=some (qtM a b):=by
 unfold qc0;simp only [];rw [h1.ok4 (by omega),h2.ok4 (by omega)];rfl
end
end Su
end
section
namespace Su
open Go Fly
set_option linter.unusedVariables false
noncomputable section
def qCU  (f:Int):Option (Bool×((List Int)×(List Int))) :=
 ((Su.YG (((Su.qfx (Int.toNat f)):Nat):Int))).bind fun x0 =>
 some x0.1
def qlD (f:Int):Rt:=bif Jv (qfx f.toNat) then (false,([],[])) else qbV (qfx f.toNat)
def Z9 (f:Int):Option Rt:=bif okS [] then some (qlD f) else none
theorem qvp (f:Int) (y:Rt) (hg:(d1 (cI .u64)).good f) (h:Z9 f=some y):qCU f=some y:=by
 obtain ⟨_,h⟩:=qj h
 have:=soi h;subst this
 refine obB (qji _) ?_
 unfold qlD
 rw [Int.toNat_natCast]
 cases Jv (qfx f.toNat) <;> rfl
end
end Su
end
section
namespace Su
open Go Fly
set_option linter.unusedVariables false
noncomputable section
structure Fin4 (a:Su.Fm):Prop where
 mid:fI a.2.1=true
 err:fI a.2.2.2=true
 tms:∀ t∈a.2.2.1,fI t.c=true
theorem qlE:∀ {l:List Tm} {k:Int},Ya k l=true→∀ t∈l,fI t.c=true
 | [],_,_,t,ht=>by cases ht
 | x::l,k,h,t,ht=>by
  simp only [Ya,Bool.and_eq_true] at h
  rcases List.mem_cons.1 ht with rfl | ht
  · exact h.2.2.1
  · exact qlE h.2.2.2 t ht
theorem qAc {a:Su.Fm} (h:okF a=true):a.1=false∧Fin4 a:=by
 unfold okF at h
 simp only [Bool.not_eq_true',Bool.or_eq_false_iff,Bool.not_eq_false'] at h
 obtain ⟨h1,h2⟩:=h
 rw [qoS,h1,cond_false] at h2
 simp only [Bool.and_eq_true] at h2
 exact ⟨h1,⟨h2.2.1,h2.2.2.2.1,qlE h2.1⟩⟩
def avF (c:Int):Nat:=(fv c.toNat).natAbs
def qAd:List Tm→Nat→Nat
 | [],s=>s
 | t::l,s=>qAd l (s+avF t.c)
def qvq (a:Su.Fm):Nat:=qAd a.2.2.1 (avF a.2.2.2)
theorem qpn (f:Nat):jS (bK f) = !Jv f:=by
 unfold Jv
 rw [← qiP]
 cases decide (((qF (bK f):Nat):Int)=3) <;> cases decide (((qF (bK f):Nat):Int)=4) <;> rfl
theorem qFt {c:Int} (h:fI c=true):Jv c.toNat=false:=by
 have:=qpn c.toNat
 unfold fI at h
 rw [h] at this
 cases hn:Jv c.toNat with
 | false=>rfl
 | true=>rw [hn] at this;cases this
theorem qCV (f:Nat):bK (bK f)=bK f:=Nat.mod_mod _ _
theorem qHH (f:Nat):bS (bK f)=false:=qfy.2 (qfz f)
theorem qjj (c:Int):avF c<2^BX:=qjh _
theorem qpo:∀ (l:List Tm) (s k:Nat),s<k*2^BX→qAd l s<(k+l.length)*2^BX
 | [],s,k,h=>h
 | t::l,s,k,h=>by
  have h1:=qjj t.c
  have:=qpo l (s+avF t.c) (k+1) (by rw [Nat.add_mul];omega)
  rw [List.length_cons,show k+(l.length+1)=k+1+l.length by omega]
  exact this
theorem qf0 {p:Int} (h:p.natAbs<1048576*2^BX):Sz (mkQ p QD) 100:=by
 have h1:=qvo
 have h2:=qvn
 refine qCT ?_ ?_ (by omega)
 · rw [J5,show 32*100=20+BX+1082 by omega,Nat.pow_add,Nat.pow_add]
   refine Nat.lt_of_lt_of_le h ?_
   rw [show (1048576:Nat)=2^20 from rfl]
   generalize (1082:Nat)=m
   exact Nat.le_mul_of_pos_right _ (Nat.two_pow_pos m)
 · rw [qpl,J5,show 32*100=EX+2126 by omega];exact Nat.pow_lt_pow_right (by omega) (by omega)
theorem addD (p r:Int):qqQ (mkQ p QD) (mkQ r QD)=mkQ (p+r) QD:=by
 rw [qpi p r JO JO,← Int.add_mul,Yh _ _ JO]
theorem subD (p r:Int):qi1 (mkQ p QD) (mkQ r QD)=mkQ (p-r) QD:=by
 rw [qz4 p r JO JO,← Int.sub_mul,Yh _ _ JO]
theorem cmpD (p r:Int):qtM (mkQ p QD) (mkQ r QD)=qci p r:=by
 rw [qz6 p r JO JO,qfZ _ _ JO]
theorem qAe (p r:Int):decide (qci p r≤0)=decide (p≤r):=by
 unfold qci
 by_cases h:p<r
 · rw [if_pos h,decide_eq_true (by omega),decide_eq_true (by omega)]
 · rw [if_neg h]
   by_cases h':p=r
   · rw [if_pos h',decide_eq_true (by omega),decide_eq_true (by omega)]
   · rw [if_neg h',decide_eq_false (by omega),decide_eq_false (by omega)]
def ofS (a:Su.Fm) (f:Int):Bool:=!Jv f.toNat&&(!okF a||decide ((fv f.toNat-fv a.2.1.toNat).natAbs≤qvq a))
end
end Su
end
